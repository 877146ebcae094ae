-- Laid by this session's own program (wip/myprint.py): Lean functions for the Go functions that a law reaches, and their contracts. Not trusted: Lean checks it. (slimmed by wip/slim10.py)
import Derived.Test.YtggkealdbebbkaaP0
import Derived.Test.YtggkealdbebbkaaP5
namespace Go.Proofs.Ytggkealdbebbkaa.P
noncomputable section
open Go.RowKit Go.Proofs.YtggkealdbebbkaaW.PrintWords Go.Proofs.YtggkealdbebbkaaW.PrintLast Go.Proofs.YtggkealdbebbkaaW.PrintMore
attribute [local go_sem] max2_int min2_int max_two min_two max_three min_three max_four min_four   -- for this text's walks alone
set_option linter.unusedVariables false
set_option linter.unusedSimpArgs false

/-! ### mooringsref10_Step: function 18 -/
mutual
def mooringsref10_Step.j0 : Nat → Int → Bool → Int → List (S33) → Option (Int × (List (S33)) × (List (S33)) × Int)
 |0, _, _, _, _ => none
 |k + 1, x1, x23, x196000, x196001 => if x23 = true then (some (x196000, x196001, ([] : List (S33)), 10)) else (mooringsref10_Step.l0 k x1 ([] : List (S33)) 0 x196000 x196001 x1 ([] : List (S33)))
def mooringsref10_Step.l0 : Nat → Int → List (S33) → Int → Int → List (S33) → Int → List (S33) → Option (Int × (List (S33)) × (List (S33)) × Int)
 |0, _, _, _, _, _, _, _ => none
 |k + 1, x1, x9, x10, x196000, x196001, x199000, x199001 => if x10 < (x196001.length : Int) then (if 0 ≤ x10 then (if ((rd_T33 x196001 x10).f1) ≤ x1 then (if x9.length < 8796093022208 then (mooringsref10_Step.l0 k x1 (x9 ++ [(⟨(rd_T33 x196001 x10).f0, (rd_T33 x196001 x10).f1⟩ : S33)]) (wrap64 (x10 + 1)) x196000 x196001 x199000 x199001) else (none)) else (if x199001.length < 8796093022208 then (mooringsref10_Step.l0 k x1 x9 (wrap64 (x10 + 1)) x196000 x196001 x199000 (x199001 ++ [(⟨(rd_T33 x196001 x10).f0, (rd_T33 x196001 x10).f1⟩ : S33)])) else (none))) else (none)) else (some (x199000, x199001, x9, 0))
end
def mooringsref10_Step.f (k : Nat) (qa : Int) (ql : List (S33)) (a1 : Int) : Option (Int × (List (S33)) × (List (S33)) × Int) := (mooringsref10_May.f k qa ql).bind fun t197 => (if t197 = true then (if a1 < qa then (mooringsref10_Step.j0 k a1 true qa ql) else (mooringsref10_Step.j0 k a1 (decide (a1 > 1073741824)) qa ql)) else (some (qa, ql, ([] : List (S33)), 1)))
def mooringsref10_Step.T13 : Bool × List (List Nat × List Nat) := (true, [([], []), ([0], [0]), ([], []), ([2], [2]), ([], []), ([3, 4], [3, 4]), ([5], [5]), ([6], [6]), ([1, 7], [1, 7]), ([0, 1, 2, 3, 4, 5, 6, 7, 8], []), ([9, 8, 8, 0, 1, 2, 3, 4, 5, 6, 7, 8], [8, 9])])
def mooringsref10_Step.B13 : List Nat := [0, 1, 0, 4, 0, 28, 60, 124, 255, 511, 1023]
theorem mooringsref10_Step.tab13 : rtab .any (opsOf Try.f18 13) = mooringsref10_Step.T13 := by kernel_rfl
theorem mooringsref10_Step.bits13 : waitsOk mooringsref10_Step.T13.2 mooringsref10_Step.B13 = true := by kernel_rfl
set_option maxHeartbeats 8000000 in
set_option maxRecDepth 100000 in
theorem mooringsref10_Step.calls (k : Nat) (qa : Int) (P0_1_ : Nat → Prop) (qA : Option Addr) (qc : Nat) (ql : List (S33)) (a1 : Int) (r1 : Int) (r2 : List (S33)) (r3 : List (S33)) (r4 : Int) (w : World) (hs0_1 : Kd.V k33 33 w w.heap.size (fun k_ => P0_1_ k_) (.slice qA ql.length qc) ql) (h : mooringsref10_Step.f k qa ql a1 = some (r1, r2, r3, r4)) :
  Calls Try.prog 18 #[.agg #[.int .i64 qa, .slice qA ql.length qc], .int .i64 a1] w fun e w' => ∃ v1_ v2_ : Value, e = .returned (.tuple #[.agg #[.int .i64 r1, v1_], v2_, .int .i64 r4]) ∧ Kd.V k33 33 w' w.heap.size (fun k_ => (P0_1_ k_ ∨ w.heap.size ≤ k_) ∧ some k_ ≠ (v2_ : Value).ownBlock) v1_ r2 ∧ Kd.R k33 33 w' w.heap.size (fun k_ => (w.heap.size ≤ k_)) v2_ r3 ∧ Below w.heap.size w w' := by
 have hu24 := Try.underlying24
 have hu33 := Try.underlying33
 have HO0_1 := Ym (show Kd.V k33 33 w w.heap.size (fun k_ => (P0_1_ k_ ∨ w.heap.size ≤ k_)) (.slice qA ql.length qc) ql from YG hs0_1 (fun k_ hk => .inl hk))
 have HB := Ym (Below.refl w.heap.size w)
 have H : ((mooringsref10_May.f k qa ql).bind fun t197 => (if t197 = true then (if a1 < qa then (mooringsref10_Step.j0 k a1 true qa ql) else (mooringsref10_Step.j0 k a1 (decide (a1 > 1073741824)) qa ql)) else (some (qa, ql, ([] : List (S33)), 1)))) = some (r1, r2, r3, r4) := h
 clear h
 replace H := YB.mp H
 obtain ⟨t197, A30, H⟩ := H
 replace H : (if t197 = true then (if a1 < qa then (mooringsref10_Step.j0 k a1 true qa ql) else (mooringsref10_Step.j0 k a1 (decide (a1 > 1073741824)) qa ql)) else (some (qa, ql, ([] : List (S33)), 1))) = some (r1, r2, r3, r4) := H
 have A3 := Ym A30
 clear A30
 by_cases c4 : t197 = true
 ·subst c4
  have H1 : (if a1 < qa then (mooringsref10_Step.j0 k a1 true qa ql) else (mooringsref10_Step.j0 k a1 (decide (a1 > 1073741824)) qa ql)) = some (r1, r2, r3, r4) := by rw [if_pos rfl] at H; exact H
  clear H
  have H := H1
  clear H1
  have HC5 := Ym H
  clear H
  go_enter Try.func18, Try.ntmps18
  go_upto_region 4 with (first | ((with_reducible refine gate_dst (N := 2) rfl ?_); refine box_event ?hg (N := 2) ?hd (cs := #[.int .i64 qa, .slice qA ql.length qc]) (t := 24) ?hr ?_; (case hd => rfl); (case hg => rfl); (case hr => first | (go_simp; done) | (go_simp; rfl)); intro gb195 hg w6 hbox hb; have n0_ := Ym (Kd.V_below (Kd.V_elderB (by (with_reducible repeat (first | apply Yy | apply Yx | apply Yz)); exact HO0_1.out) gb195 (Nat.le_of_eq hg.symm)) hb); have n1_ := Ym (Yj (by repeat (first | (with_reducible first | exact HB.out | apply Yc | apply Ya | apply Yb) | exact HB.out)) hb); have n2_ := Ym (hbox); have n3_ := Ym ((by rw [hg]; exact (Yk (by repeat (first | (with_reducible first | exact HB.out | apply Yc | apply Ya | apply Yb) | exact HB.out))) : w.heap.size ≤ gb195)); have n4_ := Ym ((by rw [hg]; exact (Yk (by repeat (first | (with_reducible first | exact HB.out | apply Yc | apply Ya | apply Yb) | exact HB.out))) : w.heap.size ≤ gb195)); clear HO0_1; clear HB; have HO0_1 := n0_; have HB := n1_; have BK195 := n2_; have GW195 := n3_; have GE195 := n4_; clear n0_ n1_ n2_ n3_ n4_; clear hb hbox hg) | ((with_reducible refine gate_dst (N := 4) rfl ?_); refine box_event ?hg (N := 4) ?hd (cs := #[.int .i64 0, .slice none 0 0]) (t := 24) ?hr ?_; (case hd => rfl); (case hg => rfl); (case hr => first | (go_simp; done) | (go_simp; rfl)); intro gb196 hg w7 hbox hb; have n0_ := Ym (Kd.V_below (Kd.V_elderB (by (with_reducible repeat (first | apply Yy | apply Yx | apply Yz)); exact HO0_1.out) gb196 (Nat.le_of_eq hg.symm)) hb); have n1_ := Ym (Yl (g := gb195) (o := .cells #[.int .i64 qa, .slice qA ql.length qc] 24 (0, 0)) (by (with_reducible repeat (first | refine Yd ?_ _ | refine Yf ?_ | refine Ye ?_ _)); exact BK195.out) hb); have n2_ := Ym (Yj (by repeat (first | (with_reducible first | exact HB.out | apply Yc | apply Ya | apply Yb | refine Yg ?_ GE195.out) | exact HB.out)) hb); have n3_ := Ym (hbox); have n4_ := Ym ((by rw [hg]; exact (Yk (by repeat (first | (with_reducible first | exact HB.out | apply Yc | apply Ya | apply Yb | refine Yg ?_ GE195.out) | exact HB.out))) : w.heap.size ≤ gb196)); have n5_ := Ym ((by rw [hg]; exact (Yk (by repeat (first | (with_reducible first | exact HB.out | apply Yc | apply Ya | apply Yb | refine Yg ?_ GE195.out) | exact HB.out))) : w.heap.size ≤ gb196)); have n6_ := Ym ((by rw [hg]; exact YD (YI (g := gb195) (o := .cells #[.int .i64 qa, .slice qA ql.length qc] 24 (0, 0)) (by (with_reducible repeat (first | refine Yd ?_ _ | refine Yf ?_ | refine Ye ?_ _)); exact BK195.out)) : gb195 ≠ gb196)); have n7_ := Ym ((by rw [hg]; exact YE (YI (g := gb195) (o := .cells #[.int .i64 qa, .slice qA ql.length qc] 24 (0, 0)) (by (with_reducible repeat (first | refine Yd ?_ _ | refine Yf ?_ | refine Ye ?_ _)); exact BK195.out)) : gb196 ≠ gb195)); clear HO0_1; clear BK195; clear HB; have HO0_1 := n0_; have BK195 := n1_; have HB := n2_; have BK196 := n3_; have GW196 := n4_; have GE196 := n5_; have NB195_196 := n6_; have NB196_195 := n7_; clear n0_ n1_ n2_ n3_ n4_ n5_ n6_ n7_; clear hb hbox hg; have hnb8 := NB195_196.out; have hnc8 := NB196_195.out; have hcz9_0 : w7.cell? ⟨gb195, 0, none⟩ = some (.int .i64 qa) := (Yh BK195.out 0).trans rfl; have hcz9_1 : w7.cell? ⟨gb195, 1, none⟩ = some (.slice qA ql.length qc) := (Yh BK195.out 1).trans rfl; have hfz9_0 := Yi BK195.out 0; have hfz9_1 := Yi BK195.out 1) | ((with_reducible refine gate_callee (f := 22) rfl ?_); refine goesL_ (some 12) rfl rfl Try.func22 (by kernel_rfl) rfl #[.agg #[.int .i64 qa, .slice qA ql.length qc]] rfl (by (try simp only [List.map_toArray, List.map_cons, List.map_nil]); first | done | rfl | (simp only [List.length_drop, List.length_take]; rfl)) ?_; (with_reducible refine (mooringsref10_May.calls k qa _ _ ql true _ ?side1 ?side2 A3.out).mono ?_); (case side1 => repeat (first | exact (Kd.V_reads' HO0_1.out).2.2 | (with_reducible refine Kd.C_alloc ?_ _) | (with_reducible refine Kd.C_drewN ?_ _) | (with_reducible refine Kd.C_drew ?_))); (case side2 => exact (Kd.V_reads' HO0_1.out).2.1); rintro e w10 ⟨rfl, hb⟩; refine ⟨_, rfl, ?_⟩; have n0_ := Ym (Kd.V_below (by (with_reducible repeat (first | apply Yy | apply Yx | apply Yz)); exact HO0_1.out) hb); have n1_ := Ym (Yl (g := gb195) (o := .cells #[.int .i64 qa, .slice qA ql.length qc] 24 (0, 0)) (by (with_reducible repeat (first | refine Yd ?_ _ | refine Yf ?_ | refine Ye ?_ _)); exact BK195.out) hb); have n2_ := Ym (Yl (g := gb196) (o := .cells #[.int .i64 0, .slice none 0 0] 24 (0, 0)) (by (with_reducible repeat (first | refine Yd ?_ _ | refine Yf ?_ | refine Ye ?_ _)); exact BK196.out) hb); have n3_ := Ym (Yj (by repeat (first | (with_reducible first | exact HB.out | apply Yc | apply Ya | apply Yb | refine Yg ?_ GE195.out | refine Yg ?_ GE196.out) | exact HB.out)) hb); clear HO0_1; clear BK195; clear BK196; clear HB; have HO0_1 := n0_; have BK195 := n1_; have BK196 := n2_; have HB := n3_; clear n0_ n1_ n2_ n3_; (try clear hb); (try clear hb2); (try clear hk); (try clear hi)))
  (try simp only [Act.put, Yo, Yp, Yq])
  go_cut [23] (fun v23 wc => ∃ (kq : Nat) (x23_4 : Bool), v23 = .bool x23_4 ∧ Aside0 (mooringsref10_Step.j0 kq a1 x23_4 qa ql = some (r1, r2, r3, r4)) ∧ Aside0 (kq ≤ k) ∧ Aside0 (Kd.V k33 33 wc w.heap.size (fun k_ => (P0_1_ k_ ∨ w.heap.size ≤ k_) ∧ k_ ≠ gb195 ∧ k_ ≠ gb196) (.slice qA ql.length qc) ql) ∧ Aside0 (wc.heap[gb195]? = some (.cells #[.int .i64 qa, (.slice qA ql.length qc)] 24 (0, 0))) ∧ Aside0 (wc.heap[gb196]? = some (.cells #[.int .i64 0, (.slice none 0 0)] 24 (0, 0))) ∧ Aside0 (Below w.heap.size w wc))
  case first =>
   have H := HC5.out
   clear HC5
   by_cases c11 : a1 < qa
   ·rw [if_pos c11] at H
    have c11b0 : decide (a1 < qa) = true := decide_eq_true c11
    clear c11
    (first | rw [c11b0] | (simp only [i64_w, i32_w]; rw [c11b0]) | skip)
    have H' := Ym H
    clear H
    have hnb12 := NB195_196.out
    have hnc12 := NB196_195.out
    have hcz13_0 : w10.cell? ⟨gb195, 0, none⟩ = some (.int .i64 qa) := (Yh BK195.out 0).trans rfl
    have hcz13_1 : w10.cell? ⟨gb195, 1, none⟩ = some (.slice qA ql.length qc) := (Yh BK195.out 1).trans rfl
    have hfz13_0 := Yi BK195.out 0
    have hfz13_1 := Yi BK195.out 1
    go_wp2
    go_meet
    case rel => exact ⟨_, (true), (by first | rfl | (simp; done) | (simp [*]; done)), H', ⟨by first | omega | exact Nat.le_refl _⟩, ⟨by (with_reducible repeat (first | apply Yy | apply Yx | apply Yz)); exact YG HO0_1.out (fun _ hk => ⟨hk.1.1, ⟨hk.1.2, hk.2⟩⟩)⟩, ⟨by (with_reducible repeat (first | refine Yd ?_ _ | refine Yf ?_ | refine Ye ?_ _)); exact BK195.out⟩, ⟨by (with_reducible repeat (first | refine Yd ?_ _ | refine Yf ?_ | refine Ye ?_ _)); exact BK196.out⟩, ⟨by repeat (first | (with_reducible first | exact HB.out | apply Yc | apply Ya | apply Yb | refine Yg ?_ GE195.out | refine Yg ?_ GE196.out) | exact HB.out)⟩⟩
   ·rw [if_neg c11] at H
    have c11b0 : decide (a1 < qa) = false := decide_eq_false c11
    clear c11
    (first | rw [c11b0] | (simp only [i64_w, i32_w]; rw [c11b0]) | skip)
    have H' := Ym H
    clear H
    have hnb14 := NB195_196.out
    have hnc14 := NB196_195.out
    have hcz15_0 : w10.cell? ⟨gb195, 0, none⟩ = some (.int .i64 qa) := (Yh BK195.out 0).trans rfl
    have hcz15_1 : w10.cell? ⟨gb195, 1, none⟩ = some (.slice qA ql.length qc) := (Yh BK195.out 1).trans rfl
    have hfz15_0 := Yi BK195.out 0
    have hfz15_1 := Yi BK195.out 1
    go_wp2
    go_meet
    case rel => exact ⟨_, (decide (a1 > 1073741824)), (by first | rfl | (simp; done) | (simp [*]; done)), H', ⟨by first | omega | exact Nat.le_refl _⟩, ⟨by (with_reducible repeat (first | apply Yy | apply Yx | apply Yz)); exact YG HO0_1.out (fun _ hk => ⟨hk.1.1, ⟨hk.1.2, hk.2⟩⟩)⟩, ⟨by (with_reducible repeat (first | refine Yd ?_ _ | refine Yf ?_ | refine Ye ?_ _)); exact BK195.out⟩, ⟨by (with_reducible repeat (first | refine Yd ?_ _ | refine Yf ?_ | refine Ye ?_ _)); exact BK196.out⟩, ⟨by repeat (first | (with_reducible first | exact HB.out | apply Yc | apply Ya | apply Yb | refine Yg ?_ GE195.out | refine Yg ?_ GE196.out) | exact HB.out)⟩⟩
  case rest =>
   clear HC5
   try clear c1
   try clear c2
   try clear p2
   try clear c4
   try clear c8
   try clear c11
   try clear c11b0
   try clear c12
   try clear c14
   try clear hcz13_0
   try clear hcz13_1
   try clear hcz15_0
   try clear hcz15_1
   try clear hcz9_0
   try clear hcz9_1
   try clear hfz13_0
   try clear hfz13_1
   try clear hfz15_0
   try clear hfz15_1
   try clear hfz9_0
   try clear hfz9_1
   obtain ⟨kq, x23_4, rfl, HA, HJ4, HO_196001, BK195, BK196, HB⟩ := hcut
   cases kq with
   |zero => exact absurd HA.out (by simp [mooringsref10_Step.j0])
   |succ kj4 =>
    have H := HA.out
    clear HA
    simp only [mooringsref10_Step.j0] at H
    by_cases c16 : x23_4 = true
    ·subst c16
     have H1 : (some (qa, ql, ([] : List (S33)), 10)) = some (r1, r2, r3, r4) := by rw [if_pos rfl] at H; exact H
     clear H
     have H := H1
     clear H1
     simp only [Option.some.injEq, Prod.mk.injEq] at H
     obtain ⟨rfl, rfl, rfl, rfl⟩ := H
     have hnb17 := NB195_196.out
     have hnc17 := NB196_195.out
     have hcz18_0 : wc.cell? ⟨gb195, 0, none⟩ = some (.int .i64 qa) := (Yh BK195.out 0).trans rfl
     have hcz18_1 : wc.cell? ⟨gb195, 1, none⟩ = some (.slice qA ql.length qc) := (Yh BK195.out 1).trans rfl
     have hfz18_0 := Yi BK195.out 0
     have hfz18_1 := Yi BK195.out 1
     have hcz19_0 : wc.cell? ⟨gb196, 0, none⟩ = some (.int .i64 0) := (Yh BK196.out 0).trans rfl
     have hcz19_1 : wc.cell? ⟨gb196, 1, none⟩ = some (.slice none 0 0) := (Yh BK196.out 1).trans rfl
     have hfz19_0 := Yi BK196.out 0
     have hfz19_1 := Yi BK196.out 1
     go_wp2
     refine bodyPost_ret (results_ctt rfl _ _ gb196 24 #[.int .i64 qa, .slice qA ql.length qc] (0, 0) _ rfl (by (with_reducible repeat (first | refine Yd ?_ _ | refine Yf ?_ | refine Ye ?_ _)); refine blk_put (cs := #[.int .i64 qa, .slice none 0 0]) ?_ 1 _ rfl; (with_reducible repeat (first | refine Yd ?_ _ | refine Yf ?_ | refine Ye ?_ _)); refine blk_put (cs := #[.int .i64 0, .slice none 0 0]) ?_ 0 _ rfl; (with_reducible repeat (first | refine Yd ?_ _ | refine Yf ?_ | refine Ye ?_ _)); exact BK196.out) Try.underlying24 rfl (by kernel_rfl)) rfl ?_
     exact ⟨_, _, by first | rfl | (simp [errW_none, errW_some] <;> rfl) | (simp [*, errW_none, errW_some] <;> rfl), by (with_reducible repeat (first | apply Yy | apply Yx | apply Yz)); exact YG (Kd.V_far (p := ⟨gb196, 1, none⟩) (Kd.V_far (p := ⟨gb196, 0, none⟩) (YG HO_196001.out (fun k_ hk => (⟨hk, hk.2.2⟩ : _ ∧ k_ ≠ gb196))) (fun _ hk => hk.2) (.int .i64 qa)) (fun _ hk => hk.2) (.slice qA ql.length qc)) (fun _ hk => ⟨hk.1.1, (by simp [Value.ownBlock])⟩), by first | exact Kd.R_nil _ _ _ _ _ | exact Kd.N_nil _ _ _ _ _ | exact Kd.V_nil _ _ _ _ _ | exact Kd.Q_nil _ _ _ _ _ | exact Kd.S_nil _ _ _ _ _, by repeat (first | (with_reducible first | exact HB.out | apply Yc | apply Ya | apply Yb | refine Yg ?_ GE195.out | refine Yg ?_ GE196.out) | exact HB.out)⟩
    ·replace c16 := Bool.eq_false_iff.mpr c16
     subst c16
     have H1 : (mooringsref10_Step.l0 kj4 a1 ([] : List (S33)) 0 qa ql a1 ([] : List (S33))) = some (r1, r2, r3, r4) := by rw [if_neg (show ¬ (false = true) by decide)] at H; exact H
     clear H
     have H := H1
     clear H1
     have H' := Ym H
     clear H
     go_wp2_with (first | ((with_reducible refine gate_dst (N := 8) rfl ?_); refine box_event ?hg (N := 8) ?hd (cs := #[.int .i64 0, .slice none 0 0]) (t := 24) ?hr ?_; (case hd => rfl); (case hg => rfl); (case hr => first | (go_simp; done) | (go_simp; rfl)); intro gb198 hg w20 hbox hb; have n0_ := Ym (Kd.V_below (Kd.V_elderB (by (with_reducible repeat (first | apply Yy | apply Yx | apply Yz)); exact HO_196001.out) gb198 (Nat.le_of_eq hg.symm)) hb); have n1_ := Ym (Yl (g := gb195) (o := .cells #[.int .i64 qa, .slice qA ql.length qc] 24 (0, 0)) (by (with_reducible repeat (first | refine Yd ?_ _ | refine Yf ?_ | refine Ye ?_ _)); exact BK195.out) hb); have n2_ := Ym (Yl (g := gb196) (o := .cells #[.int .i64 0, .slice none 0 0] 24 (0, 0)) (by (with_reducible repeat (first | refine Yd ?_ _ | refine Yf ?_ | refine Ye ?_ _)); exact BK196.out) hb); have n3_ := Ym (Yj (by repeat (first | (with_reducible first | exact HB.out | apply Yc | apply Ya | apply Yb | refine Yg ?_ GE195.out | refine Yg ?_ GE196.out) | exact HB.out)) hb); have n4_ := Ym (hbox); have n5_ := Ym ((by rw [hg]; exact (Yk (by repeat (first | (with_reducible first | exact HB.out | apply Yc | apply Ya | apply Yb | refine Yg ?_ GE195.out | refine Yg ?_ GE196.out) | exact HB.out))) : w.heap.size ≤ gb198)); have n6_ := Ym ((by rw [hg]; exact (Yk (by repeat (first | (with_reducible first | exact HB.out | apply Yc | apply Ya | apply Yb | refine Yg ?_ GE195.out | refine Yg ?_ GE196.out) | exact HB.out))) : w.heap.size ≤ gb198)); have n7_ := Ym ((by rw [hg]; exact YD (YI (g := gb195) (o := .cells #[.int .i64 qa, .slice qA ql.length qc] 24 (0, 0)) (by (with_reducible repeat (first | refine Yd ?_ _ | refine Yf ?_ | refine Ye ?_ _)); exact BK195.out)) : gb195 ≠ gb198)); have n8_ := Ym ((by rw [hg]; exact YE (YI (g := gb195) (o := .cells #[.int .i64 qa, .slice qA ql.length qc] 24 (0, 0)) (by (with_reducible repeat (first | refine Yd ?_ _ | refine Yf ?_ | refine Ye ?_ _)); exact BK195.out)) : gb198 ≠ gb195)); have n9_ := Ym ((by rw [hg]; exact YD (YI (g := gb196) (o := .cells #[.int .i64 0, .slice none 0 0] 24 (0, 0)) (by (with_reducible repeat (first | refine Yd ?_ _ | refine Yf ?_ | refine Ye ?_ _)); exact BK196.out)) : gb196 ≠ gb198)); have n10_ := Ym ((by rw [hg]; exact YE (YI (g := gb196) (o := .cells #[.int .i64 0, .slice none 0 0] 24 (0, 0)) (by (with_reducible repeat (first | refine Yd ?_ _ | refine Yf ?_ | refine Ye ?_ _)); exact BK196.out)) : gb198 ≠ gb196)); clear HO_196001; clear BK195; clear BK196; clear HB; have HO_196001 := n0_; have BK195 := n1_; have BK196 := n2_; have HB := n3_; have BK198 := n4_; have GW198 := n5_; have GE198 := n6_; have NB195_198 := n7_; have NB198_195 := n8_; have NB196_198 := n9_; have NB198_196 := n10_; clear n0_ n1_ n2_ n3_ n4_ n5_ n6_ n7_ n8_ n9_ n10_; clear hb hbox hg; have hnb21 := NB198_195.out; have hnc21 := NB195_198.out; have hnb22 := NB198_196.out; have hnc22 := NB196_198.out; have hcz23_0 : w20.cell? ⟨gb198, 0, none⟩ = some (.int .i64 0) := (Yh BK198.out 0).trans rfl; have hcz23_1 : w20.cell? ⟨gb198, 1, none⟩ = some (.slice none 0 0) := (Yh BK198.out 1).trans rfl; have hfz23_0 := Yi BK198.out 0; have hfz23_1 := Yi BK198.out 1))
     go_loopg [9, 10] kj4 (fun kq v9 v10 w' => ∃ (x9_2 : List (S33)) (x10_2 : Int) (x199001_2 : List (S33)) (u199001 : Value), v10 = .int .i64 x10_2 ∧ Aside0 (mooringsref10_Step.l0 kq a1 x9_2 x10_2 qa ql a1 x199001_2 = some (r1, r2, r3, r4)) ∧ Aside0 (kq ≤ kj4) ∧ Aside0 (Kd.R k33 33 w' w.heap.size (fun k_ => (w.heap.size ≤ k_) ∧ some k_ ≠ (u199001 : Value).ownBlock) v9 x9_2) ∧ Aside0 (Kd.V k33 33 w' w.heap.size (fun k_ => (P0_1_ k_ ∨ w.heap.size ≤ k_) ∧ some k_ ≠ (v9 : Value).ownBlock ∧ some k_ ≠ (u199001 : Value).ownBlock ∧ k_ ≠ gb195 ∧ k_ ≠ gb196 ∧ k_ ≠ gb198) (.slice qA ql.length qc) ql) ∧ Aside0 (Kd.R k33 33 w' w.heap.size (fun k_ => (w.heap.size ≤ k_) ∧ some k_ ≠ (v9 : Value).ownBlock) u199001 x199001_2) ∧ Aside0 (w'.heap[gb195]? = some (.cells #[.int .i64 qa, (.slice qA ql.length qc)] 24 (0, 0))) ∧ Aside0 (w'.heap[gb196]? = some (.cells #[.int .i64 0, (.slice none 0 0)] 24 (0, 0))) ∧ Aside0 (w'.heap[gb198]? = some (.cells #[.int .i64 a1, u199001] 24 (0, 0))) ∧ Aside0 (Below w.heap.size w w'))
     case atStart => exact ⟨(([] : List (S33))), (0), (([] : List (S33))), (.slice none 0 0), (by first | rfl | (simp; done) | (simp [*]; done)), H', ⟨Nat.le_refl _⟩, ⟨by first | exact Kd.R_nil _ _ _ _ _ | exact Kd.N_nil _ _ _ _ _ | exact Kd.V_nil _ _ _ _ _ | exact Kd.Q_nil _ _ _ _ _ | exact Kd.S_nil _ _ _ _ _⟩, ⟨by (with_reducible repeat (first | apply Yy | apply Yx | apply Yz)); exact YG (Kd.V_far (p := ⟨gb198, 1, none⟩) (Kd.V_far (p := ⟨gb198, 0, none⟩) (YG HO_196001.out (fun k_ hk => (⟨hk, hk.2⟩ : _ ∧ k_ ≠ gb198))) (fun _ hk => hk.2) (.int .i64 a1)) (fun _ hk => hk.2) (.slice none 0 0)) (fun _ hk => ⟨hk.1.1.1, ⟨(by simp [Value.ownBlock]), ⟨(by simp [Value.ownBlock]), ⟨hk.1.1.2.1, ⟨hk.1.1.2.2, hk.1.2⟩⟩⟩⟩⟩)⟩, ⟨by first | exact Kd.R_nil _ _ _ _ _ | exact Kd.N_nil _ _ _ _ _ | exact Kd.V_nil _ _ _ _ _ | exact Kd.Q_nil _ _ _ _ _ | exact Kd.S_nil _ _ _ _ _⟩, ⟨by (with_reducible repeat (first | refine Yd ?_ _ | refine Yf ?_ | refine Ye ?_ _)); refine YH ?_ NB195_198.out _; (with_reducible repeat (first | refine Yd ?_ _ | refine Yf ?_ | refine Ye ?_ _)); refine YH ?_ NB195_198.out _; (with_reducible repeat (first | refine Yd ?_ _ | refine Yf ?_ | refine Ye ?_ _)); exact BK195.out⟩, ⟨by (with_reducible repeat (first | refine Yd ?_ _ | refine Yf ?_ | refine Ye ?_ _)); refine YH ?_ NB196_198.out _; (with_reducible repeat (first | refine Yd ?_ _ | refine Yf ?_ | refine Ye ?_ _)); refine YH ?_ NB196_198.out _; (with_reducible repeat (first | refine Yd ?_ _ | refine Yf ?_ | refine Ye ?_ _)); exact BK196.out⟩, ⟨by (with_reducible repeat (first | refine Yd ?_ _ | refine Yf ?_ | refine Ye ?_ _)); refine blk_put (cs := #[.int .i64 a1, .slice none 0 0]) ?_ 1 _ rfl; (with_reducible repeat (first | refine Yd ?_ _ | refine Yf ?_ | refine Ye ?_ _)); refine blk_put (cs := #[.int .i64 0, .slice none 0 0]) ?_ 0 _ rfl; (with_reducible repeat (first | refine Yd ?_ _ | refine Yf ?_ | refine Ye ?_ _)); exact BK198.out⟩, ⟨by repeat (first | (with_reducible first | exact HB.out | apply Yc | apply Ya | apply Yb | refine Yg ?_ GE195.out | refine Yg ?_ GE196.out | refine Yg ?_ GE198.out) | exact HB.out)⟩⟩
     case round =>
      clear H'
      try clear c1
      try clear c2
      try clear p2
      try clear c4
      try clear c8
      try clear c11
      try clear c11b0
      try clear c12
      try clear c14
      try clear c16
      try clear c17
      try clear c18
      try clear c21
      try clear c22
      try clear hcz13_0
      try clear hcz13_1
      try clear hcz15_0
      try clear hcz15_1
      try clear hcz18_0
      try clear hcz18_1
      try clear hcz19_0
      try clear hcz19_1
      try clear hcz23_0
      try clear hcz23_1
      try clear hcz9_0
      try clear hcz9_1
      try clear hfz13_0
      try clear hfz13_1
      try clear hfz15_0
      try clear hfz15_1
      try clear hfz18_0
      try clear hfz18_1
      try clear hfz19_0
      try clear hfz19_1
      try clear hfz23_0
      try clear hfz23_1
      try clear hfz9_0
      try clear hfz9_1
      try clear p2
      obtain ⟨x9_2, x10_2, x199001_2, u199001, rfl, HA, HK2, HO_9, HO_196001, HO_199001, BK195, BK196, BK198, HB⟩ := hrel
      cases gk with
      |zero => exact absurd HA.out (by simp [mooringsref10_Step.l0])
      |succ k2 =>
       have H := HA.out
       clear HA
       simp only [mooringsref10_Step.l0] at H
       by_cases c24 : x10_2 < (ql.length : Int)
       ·rw [if_pos c24] at H
        have c24b0 : decide (x10_2 < (ql.length : Int)) = true := decide_eq_true c24
        clear c24
        by_cases c25 : 0 ≤ x10_2
        ·rw [if_pos c25] at H
         have c25b0 : decide (0 ≤ x10_2) = true := decide_eq_true c25
         clear c25
         by_cases c26 : ((rd_T33 ql x10_2).f1) ≤ a1
         ·rw [if_pos c26] at H
          have c26b0 : decide (((rd_T33 ql x10_2).f1) ≤ a1) = true := decide_eq_true c26
          clear c26
          by_cases c27 : x9_2.length < 8796093022208
          ·rw [if_pos c27] at H
           have LMc27 := Ym c27
           clear c27
           obtain ⟨y201, hy201⟩ : ∃ y_ : List (S33), y_ = (x9_2 ++ [(⟨(rd_T33 ql x10_2).f0, (rd_T33 ql x10_2).f1⟩ : S33)]) := ⟨_, rfl⟩
           replace H : (mooringsref10_Step.l0 k2 a1 y201 (wrap64 (x10_2 + 1)) qa ql a1 x199001_2) = some (r1, r2, r3, r4) := by first | (rw [hy201]; with_reducible exact H) | (have H2_ := (Option.bind_some _ _).symm.trans H; rw [hy201]; with_reducible exact H2_) | (have H2_ := (Option.bind_some _ _).symm.trans H; with_reducible exact H2_) | with_reducible exact H | (rw [hy201]; exact H) | exact H
           have Ny201 := Ym hy201
           clear hy201
           have H' := Ym H
           clear H
           have hnb28 := NB195_196.out
           have hnc28 := NB196_195.out
           have hnb29 := NB195_198.out
           have hnc29 := NB198_195.out
           have hcz30_0 : wr.cell? ⟨gb195, 0, none⟩ = some (.int .i64 qa) := (Yh BK195.out 0).trans rfl
           have hcz30_1 : wr.cell? ⟨gb195, 1, none⟩ = some (.slice qA ql.length qc) := (Yh BK195.out 1).trans rfl
           have hfz30_0 := Yi BK195.out 0
           have hfz30_1 := Yi BK195.out 1
           have p199 : 0 ≤ (x10_2 : Int) := YF (by first | (with_reducible assumption) | assumption)
           have q199 : x10_2 < (ql.length : Int) := YF (by first | (with_reducible assumption) | assumption)
           obtain ⟨ad199, e199, hx199_0, hx199_1⟩ := at_T33 (Kd.V_reads' HO_196001.out).2.2 x10_2 p199 q199
           cases e199
           replace p199 := eq_true p199
           replace q199 := eq_true q199
           have p200 : 0 ≤ (x10_2 : Int) := YF (by first | (with_reducible assumption) | assumption)
           have q200 : x10_2 < (ql.length : Int) := YF (by first | (with_reducible assumption) | assumption)
           obtain ⟨ad200, e200, hx200_0, hx200_1⟩ := at_T33 (Kd.V_reads' HO_196001.out).2.2 x10_2 p200 q200
           obtain rfl : ad199 = ad200 := (by injection e200)
           replace p200 := eq_true p200
           replace q200 := eq_true q200
           go_wp2_with (first | ((with_reducible refine gate_builtin (b := .append) (xs := #[.tmp 42, .tmp 48]) rfl ?_); at_builtin; refine Kd.R_append k33 (w0 := w) w.heap.size rfl (.tmp 42) (.tmp 48) 22 33 (.agg #[(.int .i64 0), (.int .i64 0)]) 16 rfl Try.underlying22 info33 rfl (by decide) (by omega) u9 x9_2 (⟨(rd_T33 ql x10_2).f0, (rd_T33 ql x10_2).f1⟩ : S33) [.int .i64 ((rd_T33 ql x10_2).f0), .int .i64 ((rd_T33 ql x10_2).f1)] (fun k_ => (w.heap.size ≤ k_) ∧ some k_ ≠ (u199001 : Value).ownBlock) (fun _ => False) rfl rfl ?aP (fun _ hk => hk.elim) ?aF ?aO ?aB ?aS ?aL ?_; (case aP => exact k33_mkM _ _ _ (⟨(rd_T33 ql x10_2).f0, (rd_T33 ql x10_2).f1⟩ : S33)); (case aB => exact (by repeat (first | (with_reducible first | exact HB.out | apply Yc | apply Ya | apply Yb | refine Yg ?_ GE195.out | refine Yg ?_ GE196.out | refine Yg ?_ GE198.out) | exact HB.out))); (case aF => exact (fun k_ hk => ⟨(Nat.le_trans (Yk (by repeat (first | (with_reducible first | exact HB.out | apply Yc | apply Ya | apply Yb | refine Yg ?_ GE195.out | refine Yg ?_ GE196.out | refine Yg ?_ GE198.out) | exact HB.out))) hk), Kd.fresh' (Kd.R_lt (by (with_reducible repeat (first | apply Ys | apply Yr | apply Yt)); exact HO_199001.out)) k_ hk⟩)); (case aO => exact (by (with_reducible repeat (first | apply Ys | apply Yr | apply Yt)); exact HO_9.out)); (case aS => exact (Yk (by repeat (first | (with_reducible first | exact HB.out | apply Yc | apply Ya | apply Yb | refine Yg ?_ GE195.out | refine Yg ?_ GE196.out | refine Yg ?_ GE198.out) | exact HB.out)))); (case aL => have := LMc27.out; omega); intro v202 w31 ho hb hg hat; rw [← Ny201.out] at ho; have n0_ := Ym (Kd.V_afterv (ok := (fun k_ => (P0_1_ k_ ∨ w.heap.size ≤ k_) ∧ some k_ ≠ (u199001 : Value).ownBlock ∧ k_ ≠ gb195 ∧ k_ ≠ gb196 ∧ k_ ≠ gb198)) (by (with_reducible repeat (first | apply Yy | apply Yx | apply Yz)); exact YG HO_196001.out (fun _ hk => ⟨⟨hk.1, ⟨hk.2.2.1, ⟨hk.2.2.2.1, ⟨hk.2.2.2.2.1, hk.2.2.2.2.2⟩⟩⟩⟩, hk.2.1⟩)) hg hat); have n1_ := Ym (Kd.R_after (ok := (fun k_ => (w.heap.size ≤ k_))) (by (with_reducible repeat (first | apply Ys | apply Yr | apply Yt)); exact HO_199001.out) hg hat); have n2_ := Ym (blk_grown (g := gb195) (o := .cells #[.int .i64 qa, .slice (some ad199) ql.length qc] 24 (0, 0)) (by (with_reducible repeat (first | refine Yd ?_ _ | refine Yf ?_ | refine Ye ?_ _)); exact BK195.out) hg (Kd.R_ne HO_9.out BK195.out (by decide))); have n3_ := Ym (blk_grown (g := gb196) (o := .cells #[.int .i64 0, .slice none 0 0] 24 (0, 0)) (by (with_reducible repeat (first | refine Yd ?_ _ | refine Yf ?_ | refine Ye ?_ _)); exact BK196.out) hg (Kd.R_ne HO_9.out BK196.out (by decide))); have n4_ := Ym (blk_grown (g := gb198) (o := .cells #[.int .i64 a1, u199001] 24 (0, 0)) (by (with_reducible repeat (first | refine Yd ?_ _ | refine Yf ?_ | refine Ye ?_ _)); exact BK198.out) hg (Kd.R_ne HO_9.out BK198.out (by decide))); have n5_ := Ym (hb); have n6_ := Ym (ho); clear HO_196001; clear HO_199001; clear BK195; clear BK196; clear BK198; clear HB; clear HO_9; have HO_196001 := n0_; have HO_199001 := n1_; have BK195 := n2_; have BK196 := n3_; have BK198 := n4_; have HB := n5_; have HO203 := n6_; clear n0_ n1_ n2_ n3_ n4_ n5_ n6_; clear ho hb hg hat))
           go_roundg k2
           case measure => have := HJ4.out; have := HK2.out; omega
           case rel => exact ⟨(y201), (wrap64 (x10_2 + 1)), (x199001_2), (u199001), (by first | rfl | (simp; done) | (simp [*]; done)), H', ⟨by have := HJ4.out; have := HK2.out; omega⟩, ⟨by (with_reducible repeat (first | apply Ys | apply Yr | apply Yt)); exact HO203.out⟩, ⟨by (with_reducible repeat (first | apply Yy | apply Yx | apply Yz)); exact YG HO_196001.out (fun _ hk => ⟨hk.1.1, ⟨hk.2, ⟨hk.1.2.1, ⟨hk.1.2.2.1, ⟨hk.1.2.2.2.1, hk.1.2.2.2.2⟩⟩⟩⟩⟩)⟩, ⟨by (with_reducible repeat (first | apply Ys | apply Yr | apply Yt)); exact HO_199001.out⟩, ⟨by (with_reducible repeat (first | refine Yd ?_ _ | refine Yf ?_ | refine Ye ?_ _)); exact BK195.out⟩, ⟨by (with_reducible repeat (first | refine Yd ?_ _ | refine Yf ?_ | refine Ye ?_ _)); exact BK196.out⟩, ⟨by (with_reducible repeat (first | refine Yd ?_ _ | refine Yf ?_ | refine Ye ?_ _)); exact BK198.out⟩, ⟨by repeat (first | (with_reducible first | exact HB.out | apply Yc | apply Ya | apply Yb | refine Yg ?_ GE195.out | refine Yg ?_ GE196.out | refine Yg ?_ GE198.out) | exact HB.out)⟩⟩
          ·rw [if_neg c27] at H
           exact absurd H (by simp)
         ·rw [if_neg c26] at H
          have c26b0 : decide (((rd_T33 ql x10_2).f1) ≤ a1) = false := decide_eq_false c26
          clear c26
          by_cases c32 : x199001_2.length < 8796093022208
          ·rw [if_pos c32] at H
           have LMc32 := Ym c32
           clear c32
           obtain ⟨y205, hy205⟩ : ∃ y_ : List (S33), y_ = (x199001_2 ++ [(⟨(rd_T33 ql x10_2).f0, (rd_T33 ql x10_2).f1⟩ : S33)]) := ⟨_, rfl⟩
           replace H : (mooringsref10_Step.l0 k2 a1 x9_2 (wrap64 (x10_2 + 1)) qa ql a1 y205) = some (r1, r2, r3, r4) := by first | (rw [hy205]; with_reducible exact H) | (have H2_ := (Option.bind_some _ _).symm.trans H; rw [hy205]; with_reducible exact H2_) | (have H2_ := (Option.bind_some _ _).symm.trans H; with_reducible exact H2_) | with_reducible exact H | (rw [hy205]; exact H) | exact H
           have Ny205 := Ym hy205
           clear hy205
           have H' := Ym H
           clear H
           have hnb33 := NB195_196.out
           have hnc33 := NB196_195.out
           have hnb34 := NB195_198.out
           have hnc34 := NB198_195.out
           have hcz35_0 : wr.cell? ⟨gb195, 0, none⟩ = some (.int .i64 qa) := (Yh BK195.out 0).trans rfl
           have hcz35_1 : wr.cell? ⟨gb195, 1, none⟩ = some (.slice qA ql.length qc) := (Yh BK195.out 1).trans rfl
           have hfz35_0 := Yi BK195.out 0
           have hfz35_1 := Yi BK195.out 1
           have p199 : 0 ≤ (x10_2 : Int) := YF (by first | (with_reducible assumption) | assumption)
           have q199 : x10_2 < (ql.length : Int) := YF (by first | (with_reducible assumption) | assumption)
           obtain ⟨ad199, e199, hx199_0, hx199_1⟩ := at_T33 (Kd.V_reads' HO_196001.out).2.2 x10_2 p199 q199
           cases e199
           replace p199 := eq_true p199
           replace q199 := eq_true q199
           try go_wp2
           have n0_ := Ym (Yt HO_9.out)
           have n1_ := Ym (Yz HO_196001.out)
           have n2_ := Ym (Yt HO_199001.out)
           have n3_ := Ym (Yf BK195.out)
           have n4_ := Ym (Yf BK196.out)
           have n5_ := Ym (Yf BK198.out)
           have n6_ := Ym (Yb HB.out)
           clear HO_9
           clear HO_196001
           clear HO_199001
           clear BK195
           clear BK196
           clear BK198
           clear HB
           have HO_9 := n0_
           have HO_196001 := n1_
           have HO_199001 := n2_
           have BK195 := n3_
           have BK196 := n4_
           have BK198 := n5_
           have HB := n6_
           clear n0_ n1_ n2_ n3_ n4_ n5_ n6_
           have p204 : 0 ≤ (x10_2 : Int) := YF (by first | (with_reducible assumption) | assumption)
           have q204 : x10_2 < (ql.length : Int) := YF (by first | (with_reducible assumption) | assumption)
           obtain ⟨ad204, e204, hx204_0, hx204_1⟩ := at_T33 (Kd.V_reads' HO_196001.out).2.2 x10_2 p204 q204
           obtain rfl : ad199 = ad204 := (by injection e204)
           replace p204 := eq_true p204
           replace q204 := eq_true q204
           refine start_ (n := 11) (S := fun w' => w'.cell? ⟨gb198, 0, none⟩ = some (.int .i64 a1) ∧ w'.cell? ⟨gb198, 1, none⟩ = some (u199001) ∧ w'.cell? ⟨gb195, 0, none⟩ = some (.int .i64 qa) ∧ w'.cell? ⟨gb195, 1, none⟩ = some (.slice (some ad199) ql.length qc) ∧ w'.cell? (ad199.add ((x10_2).toNat * 2)) = some (.int .i64 ((rd_T33 ql x10_2).f0)) ∧ w'.cell? ⟨(ad199.add ((x10_2).toNat * 2)).block, (ad199.add ((x10_2).toNat * 2)).off + 1, none⟩ = some (.int .i64 ((rd_T33 ql x10_2).f1))) (ds := [8, 10]) #[false, false, false, false, false, false, false, false, false, false, false] (by kernel_rfl) rfl rfl ⟨(Yh BK198.out 0).trans rfl, (Yh BK198.out 1).trans rfl, (Yh BK195.out 0).trans rfl, (Yh BK195.out 1).trans rfl, hx204_0, hx204_1⟩ (fun hHeld => ?_); refine with_tabW mooringsref10_Step.tab13 mooringsref10_Step.bits13 (fun HT_ HW_ => ?_)
           generalize wr.drew = w36 at HO_9 HO_196001 HO_199001 BK195 BK196 BK198 HB hx204_0 hx204_1 hHeld ⊢
           refine pure_ (i := 0) (N := some 50) (v := ?_) (a' := ?_) #[true, false, false, false, false, false, false, false, false, false, false] rfl rfl (any_of HT_.out (by kernel_rfl)) (fun _ _ _ h => h) (Or.inl ⟨by rfl, ?_⟩) ?_ ?_
           rotate_left
           ·intro w'
            go_simp
            with_reducible rfl
           rotate_left
           ·simp only [Act.put, Yo, Yp, Yq, i64_w, i32_w]
            rfl
           refine pure_ (i := 2) (N := some 52) (v := ?_) (a' := ?_) #[true, false, true, false, false, false, false, false, false, false, false] rfl rfl (any_of HT_.out (by kernel_rfl)) (fun _ _ _ h => h) (Or.inl ⟨by rfl, ?_⟩) ?_ ?_
           rotate_left
           ·intro w'
            go_simp
            with_reducible rfl
           rotate_left
           ·simp only [Act.put, Yo, Yp, Yq, i64_w, i32_w]
            rfl
           refine pure_ (i := 4) (N := some 54) (v := ?_) (a' := ?_) #[true, false, true, false, true, false, false, false, false, false, false] rfl rfl (any_of HT_.out (by kernel_rfl)) (fun _ _ _ h => h) (Or.inl ⟨by rfl, ?_⟩) ?_ ?_
           rotate_left
           ·intro w'
            go_simp
            with_reducible rfl
           rotate_left
           ·simp only [Act.put, Yo, Yp, Yq, i64_w, i32_w]
            rfl
           refine take_ (i := 1) (N := some 51) (v := ?_) (a' := ?_) #[true, true, true, false, true, false, false, false, false, false, false] rfl rfl (take_ofW HT_.out HW_.out (by kernel_rfl)) (fun _ _ _ h => h) (Or.inl ⟨by rfl, ?_⟩) hHeld ?_ ?_
           rotate_left
           ·rintro w' ⟨s0, s1, s2, s3, s4, s5⟩
            go_simp
            with_reducible rfl
           rotate_left
           ·simp only [Act.put, Yo, Yp, Yq, i64_w, i32_w]
            rfl
           refine take_ (i := 3) (N := some 53) (v := ?_) (a' := ?_) #[true, true, true, true, true, false, false, false, false, false, false] rfl rfl (take_ofW HT_.out HW_.out (by kernel_rfl)) (fun _ _ _ h => h) (Or.inl ⟨by rfl, ?_⟩) hHeld ?_ ?_
           rotate_left
           ·rintro w' ⟨s0, s1, s2, s3, s4, s5⟩
            go_simp
            with_reducible rfl
           rotate_left
           ·simp only [Act.put, Yo, Yp, Yq, i64_w, i32_w]
            rfl
           refine pure_ (i := 5) (N := some 55) (v := ?_) (a' := ?_) #[true, true, true, true, true, true, false, false, false, false, false] rfl rfl (any_of HT_.out (by kernel_rfl)) (fun _ _ _ h => h) (Or.inl ⟨by rfl, ?_⟩) ?_ ?_
           rotate_left
           ·intro w'
            go_simp
            with_reducible rfl
           rotate_left
           ·simp only [Act.put, Yo, Yp, Yq, i64_w, i32_w]
            rfl
           refine take_ (i := 6) (N := some 56) (v := ?_) (a' := ?_) #[true, true, true, true, true, true, true, false, false, false, false] rfl rfl (take_ofW HT_.out HW_.out (by kernel_rfl)) (fun _ _ _ h => h) (Or.inl ⟨by rfl, ?_⟩) hHeld ?_ ?_
           rotate_left
           ·rintro w' ⟨s0, s1, s2, s3, s4, s5⟩
            go_simp
            with_reducible rfl
           rotate_left
           ·simp only [Act.put, Yo, Yp, Yq, i64_w, i32_w]
            rfl
           refine one_ (i := 7) (N := some 57) #[true, true, true, true, true, true, true, true, false, false, false] rfl rfl (one_of HT_.out (by kernel_rfl)) (by decide) (fun K hK => ?_)
           refine value_ (w1 := ?_) (v := ?_) (by rfl) rfl ?_ ?_
           rotate_left 2
           ·go_simp
            constructor
            ·rfl
            ·rfl
           refine hK.out _ _ ⟨(Yh (Ye BK198.out _) 0).trans rfl, (Yh (Ye BK198.out _) 1).trans rfl, (Yh (Ye BK195.out _) 0).trans rfl, (Yh (Ye BK195.out _) 1).trans rfl, (World.cell?_alloc_lt _ _ _ (YC _ _ (hHeld.2.2.2.2.1))).trans (hHeld.2.2.2.2.1), (World.cell?_alloc_lt _ _ _ (YC _ _ (hHeld.2.2.2.2.2))).trans (hHeld.2.2.2.2.2)⟩ (fun hHeld => ?_)
           clear hK K
           refine norm_ (a' := ?_) ?_ ?_
           rotate_left
           ·show Act.put _ (some 57) _ = _
            simp only [Act.put, Yo, Yp, Yq, i64_w, i32_w]
            rfl
           refine last_ (i := 8) (N := some 58) #[true, true, true, true, true, true, true, true, true, false, false] rfl rfl (one_of HT_.out (by kernel_rfl)) (by decide) (fun K hK => ?_)
           refine Kd.R_append_step k33 (w0 := w) w.heap.size (by rfl) (.tmp 51) (.tmp 57) 22 33 (.agg #[(.int .i64 0), (.int .i64 0)]) 16 rfl Try.underlying22 info33 rfl (by decide) (by omega) u199001 x199001_2 (⟨(rd_T33 ql x10_2).f0, (rd_T33 ql x10_2).f1⟩ : S33) [.int .i64 ((rd_T33 ql x10_2).f0), .int .i64 ((rd_T33 ql x10_2).f1)] (fun k_ => (w.heap.size ≤ k_) ∧ some k_ ≠ (u9 : Value).ownBlock) (fun _ => False) rfl rfl ?aP (fun _ hk => hk.elim) ?aF ?aO ?aB ?aS ?aL ?_
           (case aP => exact k33_mkM _ _ _ (⟨(rd_T33 ql x10_2).f0, (rd_T33 ql x10_2).f1⟩ : S33))
           (case aB => exact (by repeat (first | (with_reducible first | exact HB.out | apply Yc | apply Ya | apply Yb | refine Yg ?_ GE195.out | refine Yg ?_ GE196.out | refine Yg ?_ GE198.out) | exact HB.out)))
           (case aF => exact (fun k_ hk => ⟨(Nat.le_trans (Yk (by repeat (first | (with_reducible first | exact HB.out | apply Yc | apply Ya | apply Yb | refine Yg ?_ GE195.out | refine Yg ?_ GE196.out | refine Yg ?_ GE198.out) | exact HB.out))) hk), Kd.fresh' (Kd.R_lt (by (with_reducible repeat (first | apply Ys | apply Yr | apply Yt)); exact HO_9.out)) k_ hk⟩))
           (case aO => exact (by (with_reducible repeat (first | apply Ys | apply Yr | apply Yt)); exact HO_199001.out))
           (case aS => exact (Yk (by repeat (first | (with_reducible first | exact HB.out | apply Yc | apply Ya | apply Yb | refine Yg ?_ GE195.out | refine Yg ?_ GE196.out | refine Yg ?_ GE198.out) | exact HB.out))))
           (case aL => have := LMc32.out; omega)
           intro v206 w37 ho hb hg hat
           rw [← Ny205.out] at ho
           have n0_ := Ym (Kd.R_after (ok := (fun k_ => (w.heap.size ≤ k_))) (by (with_reducible repeat (first | apply Ys | apply Yr | apply Yt)); exact HO_9.out) hg hat)
           have n1_ := Ym (Kd.V_afterv (ok := (fun k_ => (P0_1_ k_ ∨ w.heap.size ≤ k_) ∧ some k_ ≠ (u9 : Value).ownBlock ∧ k_ ≠ gb195 ∧ k_ ≠ gb196 ∧ k_ ≠ gb198)) (by (with_reducible repeat (first | apply Yy | apply Yx | apply Yz)); exact YG HO_196001.out (fun _ hk => ⟨⟨hk.1, ⟨hk.2.1, ⟨hk.2.2.2.1, ⟨hk.2.2.2.2.1, hk.2.2.2.2.2⟩⟩⟩⟩, hk.2.2.1⟩)) hg hat)
           have n2_ := Ym (blk_grown (g := gb195) (o := .cells #[.int .i64 qa, .slice (some ad199) ql.length qc] 24 (0, 0)) (by (with_reducible repeat (first | refine Yd ?_ _ | refine Yf ?_ | refine Ye ?_ _)); exact BK195.out) hg (Kd.R_ne HO_199001.out BK195.out (by decide)))
           have n3_ := Ym (blk_grown (g := gb196) (o := .cells #[.int .i64 0, .slice none 0 0] 24 (0, 0)) (by (with_reducible repeat (first | refine Yd ?_ _ | refine Yf ?_ | refine Ye ?_ _)); exact BK196.out) hg (Kd.R_ne HO_199001.out BK196.out (by decide)))
           have n4_ := Ym (blk_grown (g := gb198) (o := .cells #[.int .i64 a1, u199001] 24 (0, 0)) (by (with_reducible repeat (first | refine Yd ?_ _ | refine Yf ?_ | refine Ye ?_ _)); exact BK198.out) hg (Kd.R_ne HO_199001.out BK198.out (by decide)))
           have n5_ := Ym (hb)
           have n6_ := Ym (ho)
           clear HO_9
           clear HO_196001
           clear BK195
           clear BK196
           clear BK198
           clear HB
           clear HO_199001
           have HO_9 := n0_
           have HO_196001 := n1_
           have BK195 := n2_
           have BK196 := n3_
           have BK198 := n4_
           have HB := n5_
           have HO207 := n6_
           clear n0_ n1_ n2_ n3_ n4_ n5_ n6_
           clear ho hb hg hat
           obtain ⟨Ao38, co38, eo38⟩ := Kd.R_slice HO207.out
           (first | subst eo38 | (injection eo38 with f1_ f2_ f3_; have f4_ := f1_.symm; have f5_ := f3_.symm; clear f1_ f2_ f3_; subst f4_; subst f5_))
           refine hK.out _ _ ?_
           clear hK K
           refine norm_ (a' := ?_) ?_ ?_
           rotate_left
           ·show Act.put _ (some 58) _ = _
            simp only [Act.put, Yo, Yp, Yq, i64_w, i32_w]
            rfl
           refine pure_ (i := 9) (N := some 59) (v := ?_) (a' := ?_) #[true, true, true, true, true, true, true, true, true, true, false] rfl rfl (any_of HT_.out (by kernel_rfl)) (fun _ _ _ h => h) (Or.inl ⟨by rfl, ?_⟩) ?_ ?_
           rotate_left
           ·intro w'
            go_simp
            with_reducible rfl
           rotate_left
           ·simp only [Act.put, Yo, Yp, Yq, i64_w, i32_w]
            rfl
           refine last_ (i := 10) (N := none) #[true, true, true, true, true, true, true, true, true, true, true] rfl rfl (one_of HT_.out (by kernel_rfl)) (by decide) (fun K hK => ?_)
           have hs39 : w37.cell? ⟨gb198, 1, none⟩ = some (u199001) := (Yh BK198.out 1).trans rfl
           have hfs39 := Yi BK198.out 1
           have hns39_0 := NB195_198.out
           have hns39_1 := NB196_198.out
           have hms39_0 := NB198_195.out
           have hms39_1 := NB198_196.out
           refine skip_ (w1 := ?_) (by rfl) rfl ?_ ?_
           rotate_left
           ·go_simp
            rfl
           refine hK.out _ _ ?_
           clear hK K
           refine done_ (done_of HT_.out (by kernel_rfl)) ?_
           try go_wp2
           go_roundg k2
           case measure => have := HJ4.out; have := HK2.out; omega
           case rel => exact ⟨(x9_2), (wrap64 (x10_2 + 1)), (y205), (.slice Ao38 y205.length co38), (by first | rfl | (simp; done) | (simp [*]; done)), H', ⟨by have := HJ4.out; have := HK2.out; omega⟩, ⟨by (with_reducible repeat (first | apply Ys | apply Yr | apply Yt)); exact Yv (Yw (p := ⟨gb198, 1, none⟩) (Yu HO_9.out BK198.out (by decide)) (fun _ hk => hk.2) (.slice Ao38 y205.length co38)) (fun _ hk => ⟨hk.1.1, hk.1.2⟩)⟩, ⟨by (with_reducible repeat (first | apply Yy | apply Yx | apply Yz)); exact YG (Kd.V_far (p := ⟨gb198, 1, none⟩) (YG HO_196001.out (fun k_ hk => (⟨hk, hk.1.2.2.2.2⟩ : _ ∧ k_ ≠ gb198))) (fun _ hk => hk.2) (.slice Ao38 y205.length co38)) (fun _ hk => ⟨hk.1.1.1, ⟨hk.1.1.2.1, ⟨hk.1.2, ⟨hk.1.1.2.2.1, ⟨hk.1.1.2.2.2.1, hk.1.1.2.2.2.2⟩⟩⟩⟩⟩)⟩, ⟨by (with_reducible repeat (first | apply Ys | apply Yr | apply Yt)); exact Yv (Yw (p := ⟨gb198, 1, none⟩) (Yu HO207.out BK198.out (by decide)) (fun _ hk => hk.2) (.slice Ao38 y205.length co38)) (fun _ hk => ⟨hk.1.1, hk.1.2⟩)⟩, ⟨by (with_reducible repeat (first | refine Yd ?_ _ | refine Yf ?_ | refine Ye ?_ _)); refine YH ?_ NB195_198.out _; (with_reducible repeat (first | refine Yd ?_ _ | refine Yf ?_ | refine Ye ?_ _)); exact BK195.out⟩, ⟨by (with_reducible repeat (first | refine Yd ?_ _ | refine Yf ?_ | refine Ye ?_ _)); refine YH ?_ NB196_198.out _; (with_reducible repeat (first | refine Yd ?_ _ | refine Yf ?_ | refine Ye ?_ _)); exact BK196.out⟩, ⟨by (with_reducible repeat (first | refine Yd ?_ _ | refine Yf ?_ | refine Ye ?_ _)); refine blk_put (cs := #[.int .i64 a1, u199001]) ?_ 1 _ rfl; (with_reducible repeat (first | refine Yd ?_ _ | refine Yf ?_ | refine Ye ?_ _)); exact BK198.out⟩, ⟨by repeat (first | (with_reducible first | exact HB.out | apply Yc | apply Ya | apply Yb | refine Yg ?_ GE195.out | refine Yg ?_ GE196.out | refine Yg ?_ GE198.out) | exact HB.out)⟩⟩
          ·rw [if_neg c32] at H
           exact absurd H (by simp)
        ·rw [if_neg c25] at H
         exact absurd H (by simp)
       ·rw [if_neg c24] at H
        have c24b0 : decide (x10_2 < (ql.length : Int)) = false := decide_eq_false c24
        clear c24
        simp only [Option.some.injEq, Prod.mk.injEq] at H
        obtain ⟨rfl, rfl, rfl, rfl⟩ := H
        have hnb40 := NB195_196.out
        have hnc40 := NB196_195.out
        have hnb41 := NB195_198.out
        have hnc41 := NB198_195.out
        have hcz42_0 : wr.cell? ⟨gb195, 0, none⟩ = some (.int .i64 qa) := (Yh BK195.out 0).trans rfl
        have hcz42_1 : wr.cell? ⟨gb195, 1, none⟩ = some (.slice qA ql.length qc) := (Yh BK195.out 1).trans rfl
        have hfz42_0 := Yi BK195.out 0
        have hfz42_1 := Yi BK195.out 1
        have hnb43 := NB198_196.out
        have hnc43 := NB196_198.out
        have hcz44_0 : wr.cell? ⟨gb198, 0, none⟩ = some (.int .i64 a1) := (Yh BK198.out 0).trans rfl
        have hcz44_1 : wr.cell? ⟨gb198, 1, none⟩ = some (u199001) := (Yh BK198.out 1).trans rfl
        have hfz44_0 := Yi BK198.out 0
        have hfz44_1 := Yi BK198.out 1
        have hcz45_0 : wr.cell? ⟨gb196, 0, none⟩ = some (.int .i64 0) := (Yh BK196.out 0).trans rfl
        have hcz45_1 : wr.cell? ⟨gb196, 1, none⟩ = some (.slice none 0 0) := (Yh BK196.out 1).trans rfl
        have hfz45_0 := Yi BK196.out 0
        have hfz45_1 := Yi BK196.out 1
        obtain ⟨Ao46, co46, eo46⟩ := Kd.R_slice HO_199001.out
        subst eo46
        go_wp2
        refine bodyPost_ret (results_ctt rfl _ _ gb196 24 #[.int .i64 a1, .slice Ao46 x199001_2.length co46] (0, 0) _ rfl (by (with_reducible repeat (first | refine Yd ?_ _ | refine Yf ?_ | refine Ye ?_ _)); refine blk_put (cs := #[.int .i64 a1, .slice none 0 0]) ?_ 1 _ rfl; (with_reducible repeat (first | refine Yd ?_ _ | refine Yf ?_ | refine Ye ?_ _)); refine blk_put (cs := #[.int .i64 0, .slice none 0 0]) ?_ 0 _ rfl; (with_reducible repeat (first | refine Yd ?_ _ | refine Yf ?_ | refine Ye ?_ _)); exact BK196.out) Try.underlying24 rfl (by kernel_rfl)) rfl ?_
        exact ⟨_, _, by first | rfl | (simp [errW_none, errW_some] <;> rfl) | (simp [*, errW_none, errW_some] <;> rfl), YG (Kd.R_V (by (with_reducible repeat (first | apply Ys | apply Yr | apply Yt)); exact Yv (Yw (p := ⟨gb196, 1, none⟩) (Yw (p := ⟨gb196, 0, none⟩) (Yu HO_199001.out BK196.out (by decide)) (fun _ hk => hk.2) (.int .i64 a1)) (fun _ hk => hk.2) (.slice Ao46 x199001_2.length co46)) (fun _ hk => hk))) (fun k_ hk => by first | exact ⟨.inr hk.1.1, hk.1.2⟩ | exact ⟨(.inr (hk.1)), hk.2⟩ | exact (.inr (hk))), by (with_reducible repeat (first | apply Ys | apply Yr | apply Yt)); exact Yv (Yw (p := ⟨gb196, 1, none⟩) (Yw (p := ⟨gb196, 0, none⟩) (Yu HO_9.out BK196.out (by decide)) (fun _ hk => hk.2) (.int .i64 a1)) (fun _ hk => hk.2) (.slice Ao46 x199001_2.length co46)) (fun _ hk => hk.1.1), by repeat (first | (with_reducible first | exact HB.out | apply Yc | apply Ya | apply Yb | refine Yg ?_ GE195.out | refine Yg ?_ GE196.out | refine Yg ?_ GE198.out) | exact HB.out)⟩
 ·replace c4 := Bool.eq_false_iff.mpr c4
  subst c4
  have H1 : (some (qa, ql, ([] : List (S33)), 1)) = some (r1, r2, r3, r4) := by rw [if_neg (show ¬ (false = true) by decide)] at H; exact H
  clear H
  have H := H1
  clear H1
  simp only [Option.some.injEq, Prod.mk.injEq] at H
  obtain ⟨rfl, rfl, rfl, rfl⟩ := H
  go_enter Try.func18, Try.ntmps18
  go_wp2_with (first | ((with_reducible refine gate_dst (N := 2) rfl ?_); refine box_event ?hg (N := 2) ?hd (cs := #[.int .i64 qa, .slice qA ql.length qc]) (t := 24) ?hr ?_; (case hd => rfl); (case hg => rfl); (case hr => first | (go_simp; done) | (go_simp; rfl)); intro gb195 hg w47 hbox hb; have n0_ := Ym (Kd.V_below (Kd.V_elderB (by (with_reducible repeat (first | apply Yy | apply Yx | apply Yz)); exact HO0_1.out) gb195 (Nat.le_of_eq hg.symm)) hb); have n1_ := Ym (Yj (by repeat (first | (with_reducible first | exact HB.out | apply Yc | apply Ya | apply Yb) | exact HB.out)) hb); have n2_ := Ym (hbox); have n3_ := Ym ((by rw [hg]; exact (Yk (by repeat (first | (with_reducible first | exact HB.out | apply Yc | apply Ya | apply Yb) | exact HB.out))) : w.heap.size ≤ gb195)); have n4_ := Ym ((by rw [hg]; exact (Yk (by repeat (first | (with_reducible first | exact HB.out | apply Yc | apply Ya | apply Yb) | exact HB.out))) : w.heap.size ≤ gb195)); clear HO0_1; clear HB; have HO0_1 := n0_; have HB := n1_; have BK195 := n2_; have GW195 := n3_; have GE195 := n4_; clear n0_ n1_ n2_ n3_ n4_; clear hb hbox hg) | ((with_reducible refine gate_dst (N := 4) rfl ?_); refine box_event ?hg (N := 4) ?hd (cs := #[.int .i64 0, .slice none 0 0]) (t := 24) ?hr ?_; (case hd => rfl); (case hg => rfl); (case hr => first | (go_simp; done) | (go_simp; rfl)); intro gb196 hg w48 hbox hb; have n0_ := Ym (Kd.V_below (Kd.V_elderB (by (with_reducible repeat (first | apply Yy | apply Yx | apply Yz)); exact HO0_1.out) gb196 (Nat.le_of_eq hg.symm)) hb); have n1_ := Ym (Yl (g := gb195) (o := .cells #[.int .i64 qa, .slice qA ql.length qc] 24 (0, 0)) (by (with_reducible repeat (first | refine Yd ?_ _ | refine Yf ?_ | refine Ye ?_ _)); exact BK195.out) hb); have n2_ := Ym (Yj (by repeat (first | (with_reducible first | exact HB.out | apply Yc | apply Ya | apply Yb | refine Yg ?_ GE195.out) | exact HB.out)) hb); have n3_ := Ym (hbox); have n4_ := Ym ((by rw [hg]; exact (Yk (by repeat (first | (with_reducible first | exact HB.out | apply Yc | apply Ya | apply Yb | refine Yg ?_ GE195.out) | exact HB.out))) : w.heap.size ≤ gb196)); have n5_ := Ym ((by rw [hg]; exact (Yk (by repeat (first | (with_reducible first | exact HB.out | apply Yc | apply Ya | apply Yb | refine Yg ?_ GE195.out) | exact HB.out))) : w.heap.size ≤ gb196)); have n6_ := Ym ((by rw [hg]; exact YD (YI (g := gb195) (o := .cells #[.int .i64 qa, .slice qA ql.length qc] 24 (0, 0)) (by (with_reducible repeat (first | refine Yd ?_ _ | refine Yf ?_ | refine Ye ?_ _)); exact BK195.out)) : gb195 ≠ gb196)); have n7_ := Ym ((by rw [hg]; exact YE (YI (g := gb195) (o := .cells #[.int .i64 qa, .slice qA ql.length qc] 24 (0, 0)) (by (with_reducible repeat (first | refine Yd ?_ _ | refine Yf ?_ | refine Ye ?_ _)); exact BK195.out)) : gb196 ≠ gb195)); clear HO0_1; clear BK195; clear HB; have HO0_1 := n0_; have BK195 := n1_; have HB := n2_; have BK196 := n3_; have GW196 := n4_; have GE196 := n5_; have NB195_196 := n6_; have NB196_195 := n7_; clear n0_ n1_ n2_ n3_ n4_ n5_ n6_ n7_; clear hb hbox hg; have hnb49 := NB195_196.out; have hnc49 := NB196_195.out; have hcz50_0 : w48.cell? ⟨gb195, 0, none⟩ = some (.int .i64 qa) := (Yh BK195.out 0).trans rfl; have hcz50_1 : w48.cell? ⟨gb195, 1, none⟩ = some (.slice qA ql.length qc) := (Yh BK195.out 1).trans rfl; have hfz50_0 := Yi BK195.out 0; have hfz50_1 := Yi BK195.out 1) | ((with_reducible refine gate_callee (f := 22) rfl ?_); refine goesL_ (some 12) rfl rfl Try.func22 (by kernel_rfl) rfl #[.agg #[.int .i64 qa, .slice qA ql.length qc]] rfl (by (try simp only [List.map_toArray, List.map_cons, List.map_nil]); first | done | rfl | (simp only [List.length_drop, List.length_take]; rfl)) ?_; (with_reducible refine (mooringsref10_May.calls k qa _ _ ql false _ ?side1 ?side2 A3.out).mono ?_); (case side1 => repeat (first | exact (Kd.V_reads' HO0_1.out).2.2 | (with_reducible refine Kd.C_alloc ?_ _) | (with_reducible refine Kd.C_drewN ?_ _) | (with_reducible refine Kd.C_drew ?_))); (case side2 => exact (Kd.V_reads' HO0_1.out).2.1); rintro e w51 ⟨rfl, hb⟩; refine ⟨_, rfl, ?_⟩; have n0_ := Ym (Kd.V_below (by (with_reducible repeat (first | apply Yy | apply Yx | apply Yz)); exact HO0_1.out) hb); have n1_ := Ym (Yl (g := gb195) (o := .cells #[.int .i64 qa, .slice qA ql.length qc] 24 (0, 0)) (by (with_reducible repeat (first | refine Yd ?_ _ | refine Yf ?_ | refine Ye ?_ _)); exact BK195.out) hb); have n2_ := Ym (Yl (g := gb196) (o := .cells #[.int .i64 0, .slice none 0 0] 24 (0, 0)) (by (with_reducible repeat (first | refine Yd ?_ _ | refine Yf ?_ | refine Ye ?_ _)); exact BK196.out) hb); have n3_ := Ym (Yj (by repeat (first | (with_reducible first | exact HB.out | apply Yc | apply Ya | apply Yb | refine Yg ?_ GE195.out | refine Yg ?_ GE196.out) | exact HB.out)) hb); clear HO0_1; clear BK195; clear BK196; clear HB; have HO0_1 := n0_; have BK195 := n1_; have BK196 := n2_; have HB := n3_; clear n0_ n1_ n2_ n3_; (try clear hb); (try clear hb2); (try clear hk); (try clear hi); have hcz52_0 : w51.cell? ⟨gb195, 0, none⟩ = some (.int .i64 qa) := (Yh BK195.out 0).trans rfl; have hcz52_1 : w51.cell? ⟨gb195, 1, none⟩ = some (.slice qA ql.length qc) := (Yh BK195.out 1).trans rfl; have hfz52_0 := Yi BK195.out 0; have hfz52_1 := Yi BK195.out 1; have hcz53_0 : w51.cell? ⟨gb196, 0, none⟩ = some (.int .i64 0) := (Yh BK196.out 0).trans rfl; have hcz53_1 : w51.cell? ⟨gb196, 1, none⟩ = some (.slice none 0 0) := (Yh BK196.out 1).trans rfl; have hfz53_0 := Yi BK196.out 0; have hfz53_1 := Yi BK196.out 1))
  refine bodyPost_ret (results_ctt rfl _ _ gb196 24 #[.int .i64 qa, .slice qA ql.length qc] (0, 0) _ rfl (by (with_reducible repeat (first | refine Yd ?_ _ | refine Yf ?_ | refine Ye ?_ _)); refine blk_put (cs := #[.int .i64 qa, .slice none 0 0]) ?_ 1 _ rfl; (with_reducible repeat (first | refine Yd ?_ _ | refine Yf ?_ | refine Ye ?_ _)); refine blk_put (cs := #[.int .i64 0, .slice none 0 0]) ?_ 0 _ rfl; (with_reducible repeat (first | refine Yd ?_ _ | refine Yf ?_ | refine Ye ?_ _)); exact BK196.out) Try.underlying24 rfl (by kernel_rfl)) rfl ?_
  exact ⟨_, _, by first | rfl | (simp [errW_none, errW_some] <;> rfl) | (simp [*, errW_none, errW_some] <;> rfl), by (with_reducible repeat (first | apply Yy | apply Yx | apply Yz)); exact YG (Kd.V_far (p := ⟨gb196, 1, none⟩) (Kd.V_far (p := ⟨gb196, 0, none⟩) (YG HO0_1.out (fun k_ hk => (⟨hk, hk.2⟩ : _ ∧ k_ ≠ gb196))) (fun _ hk => hk.2) (.int .i64 qa)) (fun _ hk => hk.2) (.slice qA ql.length qc)) (fun _ hk => ⟨hk.1.1.1, (by simp [Value.ownBlock])⟩), by first | exact Kd.R_nil _ _ _ _ _ | exact Kd.N_nil _ _ _ _ _ | exact Kd.V_nil _ _ _ _ _ | exact Kd.Q_nil _ _ _ _ _ | exact Kd.S_nil _ _ _ _ _, by repeat (first | (with_reducible first | exact HB.out | apply Yc | apply Ya | apply Yb | refine Yg ?_ GE195.out | refine Yg ?_ GE196.out) | exact HB.out)⟩

end
end Go.Proofs.Ytggkealdbebbkaa.P
