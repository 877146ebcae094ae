-- Laid by this session's own program (wip/myprint.py): Lean functions for the Go functions that a law reaches, and their contracts. Not trusted: Lean checks it. (slimmed by wip/slim10.py)
import Derived.Test.YtggkealdbebbkaaP0
import Derived.Test.YtggkealdbebbkaaP5
namespace Go.Proofs.Ytggkealdbebbkaa.P
noncomputable section
open Go.RowKit Go.Proofs.YtggkealdbebbkaaW.PrintWords Go.Proofs.YtggkealdbebbkaaW.PrintLast Go.Proofs.YtggkealdbebbkaaW.PrintMore
attribute [local go_sem] max2_int min2_int max_two min_two max_three min_three max_four min_four   -- for this text's walks alone
set_option linter.unusedVariables false
set_option linter.unusedSimpArgs false

/-! ### mooringsref10_Drop: function 17 -/
mutual
def mooringsref10_Drop.l0 : Nat → Int → Bool → Int → Int → List (S33) → Int → List (S33) → Option (Int × (List (S33)) × Bool)
 |0, _, _, _, _, _, _, _ => none
 |k + 1, x1, x6, x8, x187000, x187001, x190000, x190001 => if x8 < (x187001.length : Int) then (mooringsref10_Drop.j1 k x1 x6 x8 x6 x187000 x187001 x190000 x190001) else (mooringsref10_Drop.j1 k x1 x6 x8 false x187000 x187001 x190000 x190001)
def mooringsref10_Drop.j1 : Nat → Int → Bool → Int → Bool → Int → List (S33) → Int → List (S33) → Option (Int × (List (S33)) × Bool)
 |0, _, _, _, _, _, _, _, _ => none
 |k + 1, x1, x6, x8, x21, x187000, x187001, x190000, x190001 => if x21 = true then (if 0 ≤ x8 then (if x8 < (x187001.length : Int) then (if ((rd_T33 x187001 x8).f0) = x1 then (mooringsref10_Drop.l0 k x1 x6 (wrap64 (x8 + 1)) x187000 x187001 x190000 x190001) else (if x190001.length < 8796093022208 then (mooringsref10_Drop.l0 k x1 x6 (wrap64 (x8 + 1)) x187000 x187001 x190000 (x190001 ++ [(⟨(rd_T33 x187001 x8).f0, (rd_T33 x187001 x8).f1⟩ : S33)])) else (none))) else (none)) else (none)) else (if x6 = true then (if (x190001.length : Int) = (x187001.length : Int) then (some (x187000, x187001, false)) else (some (x190000, x190001, true))) else (some (x187000, x187001, false)))
end
def mooringsref10_Drop.f (k : Nat) (qa : Int) (ql : List (S33)) (a1 : Int) : Option (Int × (List (S33)) × Bool) := (mooringsref10_May.f k qa ql).bind fun t188 => (mooringsref10_Drop.l0 k a1 t188 0 qa ql qa ([] : List (S33)))
def mooringsref10_Drop.T7 : Bool × List (List Nat × List Nat) := (true, [([], []), ([0], [0]), ([], []), ([2], [2]), ([], []), ([3, 4], [3, 4]), ([5], [5]), ([6], [6]), ([1, 7], [1, 7]), ([0, 1, 2, 3, 4, 5, 6, 7, 8], []), ([9, 8, 8, 0, 1, 2, 3, 4, 5, 6, 7, 8], [8, 9])])
def mooringsref10_Drop.B7 : List Nat := [0, 1, 0, 4, 0, 28, 60, 124, 255, 511, 1023]
theorem mooringsref10_Drop.tab7 : rtab .any (opsOf Try.f17 7) = mooringsref10_Drop.T7 := by kernel_rfl
theorem mooringsref10_Drop.bits7 : waitsOk mooringsref10_Drop.T7.2 mooringsref10_Drop.B7 = true := by kernel_rfl
set_option maxHeartbeats 8000000 in
set_option maxRecDepth 100000 in
theorem mooringsref10_Drop.calls (k : Nat) (qa : Int) (P0_1_ : Nat → Prop) (qA : Option Addr) (qc : Nat) (ql : List (S33)) (a1 : Int) (r1 : Int) (r2 : List (S33)) (r3 : Bool) (w : World) (hs0_1 : Kd.V k33 33 w w.heap.size (fun k_ => P0_1_ k_) (.slice qA ql.length qc) ql) (h : mooringsref10_Drop.f k qa ql a1 = some (r1, r2, r3)) :
  Calls Try.prog 17 #[.agg #[.int .i64 qa, .slice qA ql.length qc], .int .i64 a1] w fun e w' => ∃ v1_ : Value, e = .returned (.tuple #[.agg #[.int .i64 r1, v1_], .bool r3]) ∧ Kd.V k33 33 w' w.heap.size (fun k_ => (P0_1_ k_ ∨ w.heap.size ≤ k_)) v1_ r2 ∧ Below w.heap.size w w' := by
 have hu24 := Try.underlying24
 have hu33 := Try.underlying33
 have HO0_1 := Ym (show Kd.V k33 33 w w.heap.size (fun k_ => (P0_1_ k_ ∨ w.heap.size ≤ k_)) (.slice qA ql.length qc) ql from YG hs0_1 (fun k_ hk => .inl hk))
 have HB := Ym (Below.refl w.heap.size w)
 have H : ((mooringsref10_May.f k qa ql).bind fun t188 => (mooringsref10_Drop.l0 k a1 t188 0 qa ql qa ([] : List (S33)))) = some (r1, r2, r3) := h
 clear h
 replace H := YB.mp H
 obtain ⟨t188, A30, H⟩ := H
 replace H : (mooringsref10_Drop.l0 k a1 t188 0 qa ql qa ([] : List (S33))) = some (r1, r2, r3) := H
 have A3 := Ym A30
 clear A30
 have H' := Ym H
 clear H
 go_enter Try.func17, Try.ntmps17
 go_wp2_with (first | ((with_reducible refine gate_dst (N := 2) rfl ?_); (try (refine gate_guard (by rfl) ?_; dsimp only)); refine box_event ?hg (N := 2) ?hd (cs := #[.int .i64 qa, .slice qA ql.length qc]) (t := 24) ?hr ?_; (case hd => rfl); (case hg => rfl); (case hr => first | (go_simp; done) | (go_simp; rfl)); intro gb186 hg w4 hbox hb; have n0_ := Ym (Kd.V_below (Kd.V_elderB (by (with_reducible repeat (first | apply Yy | apply Yx | apply Yz)); exact HO0_1.out) gb186 (Nat.le_of_eq hg.symm)) hb); have n1_ := Ym (Yj (by repeat (first | (with_reducible first | exact HB.out | apply Yc | apply Ya | apply Yb) | exact HB.out)) hb); have n2_ := Ym (hbox); have n3_ := Ym ((by rw [hg]; exact (Yk (by repeat (first | (with_reducible first | exact HB.out | apply Yc | apply Ya | apply Yb) | exact HB.out))) : w.heap.size ≤ gb186)); have n4_ := Ym ((by rw [hg]; exact (Yk (by repeat (first | (with_reducible first | exact HB.out | apply Yc | apply Ya | apply Yb) | exact HB.out))) : w.heap.size ≤ gb186)); clear HO0_1; clear HB; have HO0_1 := n0_; have HB := n1_; have BK186 := n2_; have GW186 := n3_; have GE186 := n4_; clear n0_ n1_ n2_ n3_ n4_; clear hb hbox hg) | ((with_reducible refine gate_dst (N := 4) rfl ?_); (try (refine gate_guard (by rfl) ?_; dsimp only)); refine box_event ?hg (N := 4) ?hd (cs := #[.int .i64 0, .slice none 0 0]) (t := 24) ?hr ?_; (case hd => rfl); (case hg => rfl); (case hr => first | (go_simp; done) | (go_simp; rfl)); intro gb187 hg w5 hbox hb; have n0_ := Ym (Kd.V_below (Kd.V_elderB (by (with_reducible repeat (first | apply Yy | apply Yx | apply Yz)); exact HO0_1.out) gb187 (Nat.le_of_eq hg.symm)) hb); have n1_ := Ym (Yl (g := gb186) (o := .cells #[.int .i64 qa, .slice qA ql.length qc] 24 (0, 0)) (by (with_reducible repeat (first | refine Yd ?_ _ | refine Yf ?_ | refine Ye ?_ _)); exact BK186.out) hb); have n2_ := Ym (Yj (by repeat (first | (with_reducible first | exact HB.out | apply Yc | apply Ya | apply Yb | refine Yg ?_ GE186.out) | exact HB.out)) hb); have n3_ := Ym (hbox); have n4_ := Ym ((by rw [hg]; exact (Yk (by repeat (first | (with_reducible first | exact HB.out | apply Yc | apply Ya | apply Yb | refine Yg ?_ GE186.out) | exact HB.out))) : w.heap.size ≤ gb187)); have n5_ := Ym ((by rw [hg]; exact (Yk (by repeat (first | (with_reducible first | exact HB.out | apply Yc | apply Ya | apply Yb | refine Yg ?_ GE186.out) | exact HB.out))) : w.heap.size ≤ gb187)); have n6_ := Ym ((by rw [hg]; exact YD (YI (g := gb186) (o := .cells #[.int .i64 qa, .slice qA ql.length qc] 24 (0, 0)) (by (with_reducible repeat (first | refine Yd ?_ _ | refine Yf ?_ | refine Ye ?_ _)); exact BK186.out)) : gb186 ≠ gb187)); have n7_ := Ym ((by rw [hg]; exact YE (YI (g := gb186) (o := .cells #[.int .i64 qa, .slice qA ql.length qc] 24 (0, 0)) (by (with_reducible repeat (first | refine Yd ?_ _ | refine Yf ?_ | refine Ye ?_ _)); exact BK186.out)) : gb187 ≠ gb186)); clear HO0_1; clear BK186; clear HB; have HO0_1 := n0_; have BK186 := n1_; have HB := n2_; have BK187 := n3_; have GW187 := n4_; have GE187 := n5_; have NB186_187 := n6_; have NB187_186 := n7_; clear n0_ n1_ n2_ n3_ n4_ n5_ n6_ n7_; clear hb hbox hg; have hnb6 := NB186_187.out; have hnc6 := NB187_186.out; have hcz7_0 : w5.cell? ⟨gb186, 0, none⟩ = some (.int .i64 qa) := (Yh BK186.out 0).trans rfl; have hcz7_1 : w5.cell? ⟨gb186, 1, none⟩ = some (.slice qA ql.length qc) := (Yh BK186.out 1).trans rfl; have hfz7_0 := Yi BK186.out 0; have hfz7_1 := Yi BK186.out 1) | ((with_reducible refine gate_callee (f := 22) rfl ?_); refine goesL_ (some 10) rfl rfl Try.func22 (by kernel_rfl) rfl #[.agg #[.int .i64 qa, .slice qA ql.length qc]] rfl (by (try simp only [List.map_toArray, List.map_cons, List.map_nil]); first | done | rfl | (simp only [List.length_drop, List.length_take]; rfl)) ?_; (with_reducible refine (mooringsref10_May.calls k qa _ _ ql t188 _ ?side1 ?side2 A3.out).mono ?_); (case side1 => repeat (first | exact (Kd.V_reads' HO0_1.out).2.2 | (with_reducible refine Kd.C_alloc ?_ _) | (with_reducible refine Kd.C_drewN ?_ _) | (with_reducible refine Kd.C_drew ?_))); (case side2 => exact (Kd.V_reads' HO0_1.out).2.1); rintro e w8 ⟨rfl, hb⟩; refine ⟨_, rfl, ?_⟩; have n0_ := Ym (Kd.V_below (by (with_reducible repeat (first | apply Yy | apply Yx | apply Yz)); exact HO0_1.out) hb); have n1_ := Ym (Yl (g := gb186) (o := .cells #[.int .i64 qa, .slice qA ql.length qc] 24 (0, 0)) (by (with_reducible repeat (first | refine Yd ?_ _ | refine Yf ?_ | refine Ye ?_ _)); exact BK186.out) hb); have n2_ := Ym (Yl (g := gb187) (o := .cells #[.int .i64 0, .slice none 0 0] 24 (0, 0)) (by (with_reducible repeat (first | refine Yd ?_ _ | refine Yf ?_ | refine Ye ?_ _)); exact BK187.out) hb); have n3_ := Ym (Yj (by repeat (first | (with_reducible first | exact HB.out | apply Yc | apply Ya | apply Yb | refine Yg ?_ GE186.out | refine Yg ?_ GE187.out) | exact HB.out)) hb); clear HO0_1; clear BK186; clear BK187; clear HB; have HO0_1 := n0_; have BK186 := n1_; have BK187 := n2_; have HB := n3_; clear n0_ n1_ n2_ n3_; (try clear hb); (try clear hb2); (try clear hk); (try clear hi); have hcz9_0 : w8.cell? ⟨gb186, 0, none⟩ = some (.int .i64 qa) := (Yh BK186.out 0).trans rfl; have hcz9_1 : w8.cell? ⟨gb186, 1, none⟩ = some (.slice qA ql.length qc) := (Yh BK186.out 1).trans rfl; have hfz9_0 := Yi BK186.out 0; have hfz9_1 := Yi BK186.out 1) | ((with_reducible refine gate_dst (N := 7) rfl ?_); (try (refine gate_guard (by rfl) ?_; dsimp only)); refine box_event ?hg (N := 7) ?hd (cs := #[.int .i64 0, .slice none 0 0]) (t := 24) ?hr ?_; (case hd => rfl); (case hg => rfl); (case hr => first | (go_simp; done) | (go_simp; rfl)); intro gb189 hg w10 hbox hb; have n0_ := Ym (Kd.V_below (Kd.V_elderB (by (with_reducible repeat (first | apply Yy | apply Yx | apply Yz)); exact HO0_1.out) gb189 (Nat.le_of_eq hg.symm)) hb); have n1_ := Ym (Yl (g := gb186) (o := .cells #[.int .i64 qa, .slice qA ql.length qc] 24 (0, 0)) (by (with_reducible repeat (first | refine Yd ?_ _ | refine Yf ?_ | refine Ye ?_ _)); exact BK186.out) hb); have n2_ := Ym (Yl (g := gb187) (o := .cells #[.int .i64 0, .slice none 0 0] 24 (0, 0)) (by (with_reducible repeat (first | refine Yd ?_ _ | refine Yf ?_ | refine Ye ?_ _)); exact BK187.out) hb); have n3_ := Ym (Yj (by repeat (first | (with_reducible first | exact HB.out | apply Yc | apply Ya | apply Yb | refine Yg ?_ GE186.out | refine Yg ?_ GE187.out) | exact HB.out)) hb); have n4_ := Ym (hbox); have n5_ := Ym ((by rw [hg]; exact (Yk (by repeat (first | (with_reducible first | exact HB.out | apply Yc | apply Ya | apply Yb | refine Yg ?_ GE186.out | refine Yg ?_ GE187.out) | exact HB.out))) : w.heap.size ≤ gb189)); have n6_ := Ym ((by rw [hg]; exact (Yk (by repeat (first | (with_reducible first | exact HB.out | apply Yc | apply Ya | apply Yb | refine Yg ?_ GE186.out | refine Yg ?_ GE187.out) | exact HB.out))) : w.heap.size ≤ gb189)); have n7_ := Ym ((by rw [hg]; exact YD (YI (g := gb186) (o := .cells #[.int .i64 qa, .slice qA ql.length qc] 24 (0, 0)) (by (with_reducible repeat (first | refine Yd ?_ _ | refine Yf ?_ | refine Ye ?_ _)); exact BK186.out)) : gb186 ≠ gb189)); have n8_ := Ym ((by rw [hg]; exact YE (YI (g := gb186) (o := .cells #[.int .i64 qa, .slice qA ql.length qc] 24 (0, 0)) (by (with_reducible repeat (first | refine Yd ?_ _ | refine Yf ?_ | refine Ye ?_ _)); exact BK186.out)) : gb189 ≠ gb186)); have n9_ := Ym ((by rw [hg]; exact YD (YI (g := gb187) (o := .cells #[.int .i64 0, .slice none 0 0] 24 (0, 0)) (by (with_reducible repeat (first | refine Yd ?_ _ | refine Yf ?_ | refine Ye ?_ _)); exact BK187.out)) : gb187 ≠ gb189)); have n10_ := Ym ((by rw [hg]; exact YE (YI (g := gb187) (o := .cells #[.int .i64 0, .slice none 0 0] 24 (0, 0)) (by (with_reducible repeat (first | refine Yd ?_ _ | refine Yf ?_ | refine Ye ?_ _)); exact BK187.out)) : gb189 ≠ gb187)); clear HO0_1; clear BK186; clear BK187; clear HB; have HO0_1 := n0_; have BK186 := n1_; have BK187 := n2_; have HB := n3_; have BK189 := n4_; have GW189 := n5_; have GE189 := n6_; have NB186_189 := n7_; have NB189_186 := n8_; have NB187_189 := n9_; have NB189_187 := n10_; clear n0_ n1_ n2_ n3_ n4_ n5_ n6_ n7_ n8_ n9_ n10_; clear hb hbox hg; have hnb11 := NB189_186.out; have hnc11 := NB186_189.out; have hnb12 := NB189_187.out; have hnc12 := NB187_189.out; have hcz13_0 : w10.cell? ⟨gb189, 0, none⟩ = some (.int .i64 0) := (Yh BK189.out 0).trans rfl; have hcz13_1 : w10.cell? ⟨gb189, 1, none⟩ = some (.slice none 0 0) := (Yh BK189.out 1).trans rfl; have hfz13_0 := Yi BK189.out 0; have hfz13_1 := Yi BK189.out 1))
 go_loopg [8] k (fun kq v8 w' => ∃ (x8_1 : Int) (x190001_1 : List (S33)) (u190001 : Value), v8 = .int .i64 x8_1 ∧ Aside0 (mooringsref10_Drop.l0 kq a1 t188 x8_1 qa ql qa x190001_1 = some (r1, r2, r3)) ∧ Aside0 (kq ≤ k) ∧ Aside0 (Kd.V k33 33 w' w.heap.size (fun k_ => (P0_1_ k_ ∨ w.heap.size ≤ k_) ∧ some k_ ≠ (u190001 : Value).ownBlock ∧ k_ ≠ gb186 ∧ k_ ≠ gb187 ∧ k_ ≠ gb189) (.slice qA ql.length qc) ql) ∧ Aside0 (Kd.R k33 33 w' w.heap.size (fun k_ => (w.heap.size ≤ k_)) u190001 x190001_1) ∧ Aside0 (w'.heap[gb186]? = some (.cells #[.int .i64 qa, (.slice qA ql.length qc)] 24 (0, 0))) ∧ Aside0 (w'.heap[gb187]? = some (.cells #[.int .i64 0, (.slice none 0 0)] 24 (0, 0))) ∧ Aside0 (w'.heap[gb189]? = some (.cells #[.int .i64 qa, u190001] 24 (0, 0))) ∧ Aside0 (Below w.heap.size w w'))
 case atStart => exact ⟨(0), (([] : List (S33))), (.slice none 0 0), (by first | rfl | (simp; done) | (simp [*]; done)), H', ⟨Nat.le_refl _⟩, ⟨by (with_reducible repeat (first | apply Yy | apply Yx | apply Yz)); exact YG (Kd.V_far (p := ⟨gb189, 1, none⟩) (Kd.V_far (p := ⟨gb189, 0, none⟩) (YG HO0_1.out (fun k_ hk => (⟨hk, hk.2⟩ : _ ∧ k_ ≠ gb189))) (fun _ hk => hk.2) (.int .i64 qa)) (fun _ hk => hk.2) (.slice none 0 0)) (fun _ hk => ⟨hk.1.1.1.1, ⟨(by simp [Value.ownBlock]), ⟨hk.1.1.1.2, ⟨hk.1.1.2, hk.1.2⟩⟩⟩⟩)⟩, ⟨by first | exact Kd.R_nil _ _ _ _ _ | exact Kd.N_nil _ _ _ _ _ | exact Kd.V_nil _ _ _ _ _ | exact Kd.Q_nil _ _ _ _ _ | exact Kd.S_nil _ _ _ _ _⟩, ⟨by (with_reducible repeat (first | refine Yd ?_ _ | refine Yf ?_ | refine Ye ?_ _)); refine YH ?_ NB186_189.out _; (with_reducible repeat (first | refine Yd ?_ _ | refine Yf ?_ | refine Ye ?_ _)); refine YH ?_ NB186_189.out _; (with_reducible repeat (first | refine Yd ?_ _ | refine Yf ?_ | refine Ye ?_ _)); exact BK186.out⟩, ⟨by (with_reducible repeat (first | refine Yd ?_ _ | refine Yf ?_ | refine Ye ?_ _)); refine YH ?_ NB187_189.out _; (with_reducible repeat (first | refine Yd ?_ _ | refine Yf ?_ | refine Ye ?_ _)); refine YH ?_ NB187_189.out _; (with_reducible repeat (first | refine Yd ?_ _ | refine Yf ?_ | refine Ye ?_ _)); exact BK187.out⟩, ⟨by (with_reducible repeat (first | refine Yd ?_ _ | refine Yf ?_ | refine Ye ?_ _)); refine blk_put (cs := #[.int .i64 qa, .slice none 0 0]) ?_ 1 _ rfl; (with_reducible repeat (first | refine Yd ?_ _ | refine Yf ?_ | refine Ye ?_ _)); refine blk_put (cs := #[.int .i64 0, .slice none 0 0]) ?_ 0 _ rfl; (with_reducible repeat (first | refine Yd ?_ _ | refine Yf ?_ | refine Ye ?_ _)); exact BK189.out⟩, ⟨by repeat (first | (with_reducible first | exact HB.out | apply Yc | apply Ya | apply Yb | refine Yg ?_ GE186.out | refine Yg ?_ GE187.out | refine Yg ?_ GE189.out) | exact HB.out)⟩⟩
 case round =>
  clear H'
  try clear c1
  try clear c2
  try clear p2
  try clear c6
  try clear c11
  try clear c12
  try clear hcz13_0
  try clear hcz13_1
  try clear hcz7_0
  try clear hcz7_1
  try clear hcz9_0
  try clear hcz9_1
  try clear hfz13_0
  try clear hfz13_1
  try clear hfz7_0
  try clear hfz7_1
  try clear hfz9_0
  try clear hfz9_1
  obtain ⟨x8_1, x190001_1, u190001, rfl, HA, HK1, HO_187001, HO_190001, BK186, BK187, BK189, HB⟩ := hrel
  cases gk with
  |zero => exact absurd HA.out (by simp [mooringsref10_Drop.l0])
  |succ k1 =>
   have H := HA.out
   clear HA
   simp only [mooringsref10_Drop.l0] at H
   have HC14 := Ym H
   clear H
   go_upto_region 4 with (fail)
   go_cut [21] (fun v21 wc => ∃ (kq : Nat) (x21_13 : Bool), v21 = .bool x21_13 ∧ Aside0 (mooringsref10_Drop.j1 kq a1 t188 x8_1 x21_13 qa ql qa x190001_1 = some (r1, r2, r3)) ∧ Aside0 (kq ≤ k1) ∧ Aside0 (Kd.V k33 33 wc w.heap.size (fun k_ => (P0_1_ k_ ∨ w.heap.size ≤ k_) ∧ some k_ ≠ (u190001 : Value).ownBlock ∧ k_ ≠ gb186 ∧ k_ ≠ gb187 ∧ k_ ≠ gb189) (.slice qA ql.length qc) ql) ∧ Aside0 (Kd.R k33 33 wc w.heap.size (fun k_ => (w.heap.size ≤ k_)) u190001 x190001_1) ∧ Aside0 (wc.heap[gb186]? = some (.cells #[.int .i64 qa, (.slice qA ql.length qc)] 24 (0, 0))) ∧ Aside0 (wc.heap[gb187]? = some (.cells #[.int .i64 0, (.slice none 0 0)] 24 (0, 0))) ∧ Aside0 (wc.heap[gb189]? = some (.cells #[.int .i64 qa, u190001] 24 (0, 0))) ∧ Aside0 (Below w.heap.size w wc))
   case first =>
    have H := HC14.out
    clear HC14
    by_cases c15 : x8_1 < (ql.length : Int)
    ·rw [if_pos c15] at H
     have c15b0 : decide (x8_1 < (ql.length : Int)) = true := decide_eq_true c15
     clear c15
     (first | rw [c15b0] | (simp only [i64_w, i32_w]; rw [c15b0]) | skip)
     have H' := Ym H
     clear H
     have hnb16 := NB186_187.out
     have hnc16 := NB187_186.out
     have hnb17 := NB186_189.out
     have hnc17 := NB189_186.out
     have hcz18_0 : wr.cell? ⟨gb186, 0, none⟩ = some (.int .i64 qa) := (Yh BK186.out 0).trans rfl
     have hcz18_1 : wr.cell? ⟨gb186, 1, none⟩ = some (.slice qA ql.length qc) := (Yh BK186.out 1).trans rfl
     have hfz18_0 := Yi BK186.out 0
     have hfz18_1 := Yi BK186.out 1
     go_wp2
     go_meet
     case rel => exact ⟨_, (t188), (by first | rfl | (simp; done) | (simp [*]; done)), H', ⟨by have := HK1.out; first | omega | exact Nat.le_refl _⟩, ⟨by (with_reducible repeat (first | apply Yy | apply Yx | apply Yz)); exact HO_187001.out⟩, ⟨by (with_reducible repeat (first | apply Ys | apply Yr | apply Yt)); exact HO_190001.out⟩, ⟨by (with_reducible repeat (first | refine Yd ?_ _ | refine Yf ?_ | refine Ye ?_ _)); exact BK186.out⟩, ⟨by (with_reducible repeat (first | refine Yd ?_ _ | refine Yf ?_ | refine Ye ?_ _)); exact BK187.out⟩, ⟨by (with_reducible repeat (first | refine Yd ?_ _ | refine Yf ?_ | refine Ye ?_ _)); exact BK189.out⟩, ⟨by repeat (first | (with_reducible first | exact HB.out | apply Yc | apply Ya | apply Yb | refine Yg ?_ GE186.out | refine Yg ?_ GE187.out | refine Yg ?_ GE189.out) | exact HB.out)⟩⟩
    ·rw [if_neg c15] at H
     have c15b0 : decide (x8_1 < (ql.length : Int)) = false := decide_eq_false c15
     clear c15
     (first | rw [c15b0] | (simp only [i64_w, i32_w]; rw [c15b0]) | skip)
     have H' := Ym H
     clear H
     have hnb19 := NB186_187.out
     have hnc19 := NB187_186.out
     have hnb20 := NB186_189.out
     have hnc20 := NB189_186.out
     have hcz21_0 : wr.cell? ⟨gb186, 0, none⟩ = some (.int .i64 qa) := (Yh BK186.out 0).trans rfl
     have hcz21_1 : wr.cell? ⟨gb186, 1, none⟩ = some (.slice qA ql.length qc) := (Yh BK186.out 1).trans rfl
     have hfz21_0 := Yi BK186.out 0
     have hfz21_1 := Yi BK186.out 1
     go_wp2
     go_meet
     case rel => exact ⟨_, (false), (by first | rfl | (simp; done) | (simp [*]; done)), H', ⟨by have := HK1.out; first | omega | exact Nat.le_refl _⟩, ⟨by (with_reducible repeat (first | apply Yy | apply Yx | apply Yz)); exact HO_187001.out⟩, ⟨by (with_reducible repeat (first | apply Ys | apply Yr | apply Yt)); exact HO_190001.out⟩, ⟨by (with_reducible repeat (first | refine Yd ?_ _ | refine Yf ?_ | refine Ye ?_ _)); exact BK186.out⟩, ⟨by (with_reducible repeat (first | refine Yd ?_ _ | refine Yf ?_ | refine Ye ?_ _)); exact BK187.out⟩, ⟨by (with_reducible repeat (first | refine Yd ?_ _ | refine Yf ?_ | refine Ye ?_ _)); exact BK189.out⟩, ⟨by repeat (first | (with_reducible first | exact HB.out | apply Yc | apply Ya | apply Yb | refine Yg ?_ GE186.out | refine Yg ?_ GE187.out | refine Yg ?_ GE189.out) | exact HB.out)⟩⟩
   case rest =>
    clear HC14
    try clear c1
    try clear c2
    try clear p2
    try clear c6
    try clear c11
    try clear c12
    try clear c15
    try clear c15b0
    try clear c16
    try clear c17
    try clear c19
    try clear c20
    try clear hcz13_0
    try clear hcz13_1
    try clear hcz18_0
    try clear hcz18_1
    try clear hcz21_0
    try clear hcz21_1
    try clear hcz7_0
    try clear hcz7_1
    try clear hcz9_0
    try clear hcz9_1
    try clear hfz13_0
    try clear hfz13_1
    try clear hfz18_0
    try clear hfz18_1
    try clear hfz21_0
    try clear hfz21_1
    try clear hfz7_0
    try clear hfz7_1
    try clear hfz9_0
    try clear hfz9_1
    try clear p2
    obtain ⟨kq, x21_13, rfl, HA, HJ13, HO_187001, HO_190001, BK186, BK187, BK189, HB⟩ := hcut
    cases kq with
    |zero => exact absurd HA.out (by simp [mooringsref10_Drop.j1])
    |succ kj13 =>
     have H := HA.out
     clear HA
     simp only [mooringsref10_Drop.j1] at H
     by_cases c22 : x21_13 = true
     ·subst c22
      have H1 : (if 0 ≤ x8_1 then (if x8_1 < (ql.length : Int) then (if ((rd_T33 ql x8_1).f0) = a1 then (mooringsref10_Drop.l0 kj13 a1 t188 (wrap64 (x8_1 + 1)) qa ql qa x190001_1) else (if x190001_1.length < 8796093022208 then (mooringsref10_Drop.l0 kj13 a1 t188 (wrap64 (x8_1 + 1)) qa ql qa (x190001_1 ++ [(⟨(rd_T33 ql x8_1).f0, (rd_T33 ql x8_1).f1⟩ : S33)])) else (none))) else (none)) else (none)) = some (r1, r2, r3) := by rw [if_pos rfl] at H; exact H
      clear H
      have H := H1
      clear H1
      by_cases c23 : 0 ≤ x8_1
      ·rw [if_pos c23] at H
       have c23b0 : decide (0 ≤ x8_1) = true := decide_eq_true c23
       clear c23
       by_cases c24 : x8_1 < (ql.length : Int)
       ·rw [if_pos c24] at H
        have c24b0 : decide (x8_1 < (ql.length : Int)) = true := decide_eq_true c24
        clear c24
        by_cases c25 : ((rd_T33 ql x8_1).f0) = a1
        ·rw [if_pos c25] at H
         have c25b0 : (((rd_T33 ql x8_1).f0) == a1) = true := beq_iff_eq.mpr c25
         have c25b1 : (((rd_T33 ql x8_1).f0) != a1) = false := bne_eq_false_iff_eq.mpr c25
         clear c25
         have H' := Ym H
         clear H
         have hnb26 := NB186_187.out
         have hnc26 := NB187_186.out
         have hnb27 := NB186_189.out
         have hnc27 := NB189_186.out
         have hcz28_0 : wc.cell? ⟨gb186, 0, none⟩ = some (.int .i64 qa) := (Yh BK186.out 0).trans rfl
         have hcz28_1 : wc.cell? ⟨gb186, 1, none⟩ = some (.slice qA ql.length qc) := (Yh BK186.out 1).trans rfl
         have hfz28_0 := Yi BK186.out 0
         have hfz28_1 := Yi BK186.out 1
         have p190 : 0 ≤ (x8_1 : Int) := YF (by first | (with_reducible assumption) | assumption)
         have q190 : x8_1 < (ql.length : Int) := YF (by first | (with_reducible assumption) | assumption)
         obtain ⟨ad190, e190, hx190_0, hx190_1⟩ := at_T33 (Kd.V_reads' HO_187001.out).2.2 x8_1 p190 q190
         cases e190
         replace p190 := eq_true p190
         replace q190 := eq_true q190
         go_wp2
         go_roundg kj13
         case measure => have := HK1.out; have := HJ13.out; omega
         case rel => exact ⟨(wrap64 (x8_1 + 1)), (x190001_1), (u190001), (by first | rfl | (simp; done) | (simp [*]; done)), H', ⟨by have := HK1.out; have := HJ13.out; omega⟩, ⟨by (with_reducible repeat (first | apply Yy | apply Yx | apply Yz)); exact HO_187001.out⟩, ⟨by (with_reducible repeat (first | apply Ys | apply Yr | apply Yt)); exact HO_190001.out⟩, ⟨by (with_reducible repeat (first | refine Yd ?_ _ | refine Yf ?_ | refine Ye ?_ _)); exact BK186.out⟩, ⟨by (with_reducible repeat (first | refine Yd ?_ _ | refine Yf ?_ | refine Ye ?_ _)); exact BK187.out⟩, ⟨by (with_reducible repeat (first | refine Yd ?_ _ | refine Yf ?_ | refine Ye ?_ _)); exact BK189.out⟩, ⟨by repeat (first | (with_reducible first | exact HB.out | apply Yc | apply Ya | apply Yb | refine Yg ?_ GE186.out | refine Yg ?_ GE187.out | refine Yg ?_ GE189.out) | exact HB.out)⟩⟩
        ·rw [if_neg c25] at H
         have c25b0 : (((rd_T33 ql x8_1).f0) == a1) = false := beq_eq_false_iff_ne.mpr c25
         have c25b1 : (((rd_T33 ql x8_1).f0) != a1) = true := bne_iff_ne.mpr c25
         by_cases c29 : x190001_1.length < 8796093022208
         ·rw [if_pos c29] at H
          have LMc29 := Ym c29
          clear c29
          obtain ⟨y192, hy192⟩ : ∃ y_ : List (S33), y_ = (x190001_1 ++ [(⟨(rd_T33 ql x8_1).f0, (rd_T33 ql x8_1).f1⟩ : S33)]) := ⟨_, rfl⟩
          replace H : (mooringsref10_Drop.l0 kj13 a1 t188 (wrap64 (x8_1 + 1)) qa ql qa y192) = some (r1, r2, r3) := by first | (rw [hy192]; with_reducible exact H) | (have H2_ := (Option.bind_some _ _).symm.trans H; rw [hy192]; with_reducible exact H2_) | (have H2_ := (Option.bind_some _ _).symm.trans H; with_reducible exact H2_) | with_reducible exact H | (rw [hy192]; exact H) | exact H
          have Ny192 := Ym hy192
          clear hy192
          have H' := Ym H
          clear H
          have hnb30 := NB186_187.out
          have hnc30 := NB187_186.out
          have hnb31 := NB186_189.out
          have hnc31 := NB189_186.out
          have hcz32_0 : wc.cell? ⟨gb186, 0, none⟩ = some (.int .i64 qa) := (Yh BK186.out 0).trans rfl
          have hcz32_1 : wc.cell? ⟨gb186, 1, none⟩ = some (.slice qA ql.length qc) := (Yh BK186.out 1).trans rfl
          have hfz32_0 := Yi BK186.out 0
          have hfz32_1 := Yi BK186.out 1
          have p190 : 0 ≤ (x8_1 : Int) := YF (by first | (with_reducible assumption) | assumption)
          have q190 : x8_1 < (ql.length : Int) := YF (by first | (with_reducible assumption) | assumption)
          obtain ⟨ad190, e190, hx190_0, hx190_1⟩ := at_T33 (Kd.V_reads' HO_187001.out).2.2 x8_1 p190 q190
          cases e190
          replace p190 := eq_true p190
          replace q190 := eq_true q190
          try go_wp2
          have n0_ := Ym (Yz HO_187001.out)
          have n1_ := Ym (Yt HO_190001.out)
          have n2_ := Ym (Yf BK186.out)
          have n3_ := Ym (Yf BK187.out)
          have n4_ := Ym (Yf BK189.out)
          have n5_ := Ym (Yb HB.out)
          clear HO_187001
          clear HO_190001
          clear BK186
          clear BK187
          clear BK189
          clear HB
          have HO_187001 := n0_
          have HO_190001 := n1_
          have BK186 := n2_
          have BK187 := n3_
          have BK189 := n4_
          have HB := n5_
          clear n0_ n1_ n2_ n3_ n4_ n5_
          have p191 : 0 ≤ (x8_1 : Int) := YF (by first | (with_reducible assumption) | assumption)
          have q191 : x8_1 < (ql.length : Int) := YF (by first | (with_reducible assumption) | assumption)
          obtain ⟨ad191, e191, hx191_0, hx191_1⟩ := at_T33 (Kd.V_reads' HO_187001.out).2.2 x8_1 p191 q191
          obtain rfl : ad190 = ad191 := (by injection e191)
          replace p191 := eq_true p191
          replace q191 := eq_true q191
          refine start_ (n := 11) (S := fun w' => w'.cell? ⟨gb189, 0, none⟩ = some (.int .i64 qa) ∧ w'.cell? ⟨gb189, 1, none⟩ = some (u190001) ∧ w'.cell? ⟨gb186, 0, none⟩ = some (.int .i64 qa) ∧ w'.cell? ⟨gb186, 1, none⟩ = some (.slice (some ad190) ql.length qc) ∧ w'.cell? (ad190.add ((x8_1).toNat * 2)) = some (.int .i64 ((rd_T33 ql x8_1).f0)) ∧ w'.cell? ⟨(ad190.add ((x8_1).toNat * 2)).block, (ad190.add ((x8_1).toNat * 2)).off + 1, none⟩ = some (.int .i64 ((rd_T33 ql x8_1).f1))) (ds := [8, 10]) #[false, false, false, false, false, false, false, false, false, false, false] (by kernel_rfl) rfl rfl ⟨(Yh BK189.out 0).trans rfl, (Yh BK189.out 1).trans rfl, (Yh BK186.out 0).trans rfl, (Yh BK186.out 1).trans rfl, hx191_0, hx191_1⟩ (fun hHeld => ?_); refine with_tabW mooringsref10_Drop.tab7 mooringsref10_Drop.bits7 (fun HT_ HW_ => ?_)
          generalize wc.drew = w33 at HO_187001 HO_190001 BK186 BK187 BK189 HB hx191_0 hx191_1 hHeld ⊢
          refine pure_ (i := 0) (N := some 32) (v := ?_) (a' := ?_) #[true, false, false, false, false, false, false, false, false, false, false] rfl rfl (any_of HT_.out (by kernel_rfl)) (fun _ _ _ h => h) (Or.inl ⟨by rfl, ?_⟩) ?_ ?_
          rotate_left
          ·intro w'
           go_simp
           with_reducible rfl
          rotate_left
          ·simp only [Act.put, Yo, Yp, Yq, i64_w, i32_w]
           rfl
          refine pure_ (i := 2) (N := some 34) (v := ?_) (a' := ?_) #[true, false, true, false, false, false, false, false, false, false, false] rfl rfl (any_of HT_.out (by kernel_rfl)) (fun _ _ _ h => h) (Or.inl ⟨by rfl, ?_⟩) ?_ ?_
          rotate_left
          ·intro w'
           go_simp
           with_reducible rfl
          rotate_left
          ·simp only [Act.put, Yo, Yp, Yq, i64_w, i32_w]
           rfl
          refine pure_ (i := 4) (N := some 36) (v := ?_) (a' := ?_) #[true, false, true, false, true, false, false, false, false, false, false] rfl rfl (any_of HT_.out (by kernel_rfl)) (fun _ _ _ h => h) (Or.inl ⟨by rfl, ?_⟩) ?_ ?_
          rotate_left
          ·intro w'
           go_simp
           with_reducible rfl
          rotate_left
          ·simp only [Act.put, Yo, Yp, Yq, i64_w, i32_w]
           rfl
          refine take_ (i := 1) (N := some 33) (v := ?_) (a' := ?_) #[true, true, true, false, true, false, false, false, false, false, false] rfl rfl (take_ofW HT_.out HW_.out (by kernel_rfl)) (fun _ _ _ h => h) (Or.inl ⟨by rfl, ?_⟩) hHeld ?_ ?_
          rotate_left
          ·rintro w' ⟨s0, s1, s2, s3, s4, s5⟩
           go_simp
           with_reducible rfl
          rotate_left
          ·simp only [Act.put, Yo, Yp, Yq, i64_w, i32_w]
           rfl
          refine take_ (i := 3) (N := some 35) (v := ?_) (a' := ?_) #[true, true, true, true, true, false, false, false, false, false, false] rfl rfl (take_ofW HT_.out HW_.out (by kernel_rfl)) (fun _ _ _ h => h) (Or.inl ⟨by rfl, ?_⟩) hHeld ?_ ?_
          rotate_left
          ·rintro w' ⟨s0, s1, s2, s3, s4, s5⟩
           go_simp
           with_reducible rfl
          rotate_left
          ·simp only [Act.put, Yo, Yp, Yq, i64_w, i32_w]
           rfl
          refine pure_ (i := 5) (N := some 37) (v := ?_) (a' := ?_) #[true, true, true, true, true, true, false, false, false, false, false] rfl rfl (any_of HT_.out (by kernel_rfl)) (fun _ _ _ h => h) (Or.inl ⟨by rfl, ?_⟩) ?_ ?_
          rotate_left
          ·intro w'
           go_simp
           with_reducible rfl
          rotate_left
          ·simp only [Act.put, Yo, Yp, Yq, i64_w, i32_w]
           rfl
          refine take_ (i := 6) (N := some 38) (v := ?_) (a' := ?_) #[true, true, true, true, true, true, true, false, false, false, false] rfl rfl (take_ofW HT_.out HW_.out (by kernel_rfl)) (fun _ _ _ h => h) (Or.inl ⟨by rfl, ?_⟩) hHeld ?_ ?_
          rotate_left
          ·rintro w' ⟨s0, s1, s2, s3, s4, s5⟩
           go_simp
           with_reducible rfl
          rotate_left
          ·simp only [Act.put, Yo, Yp, Yq, i64_w, i32_w]
           rfl
          refine one_ (i := 7) (N := some 39) #[true, true, true, true, true, true, true, true, false, false, false] rfl rfl (one_of HT_.out (by kernel_rfl)) (by decide) (fun K hK => ?_)
          refine value_ (w1 := ?_) (v := ?_) (by rfl) rfl ?_ ?_
          rotate_left 2
          ·go_simp
           constructor
           ·rfl
           ·rfl
          refine hK.out _ _ ⟨(Yh (Ye BK189.out _) 0).trans rfl, (Yh (Ye BK189.out _) 1).trans rfl, (Yh (Ye BK186.out _) 0).trans rfl, (Yh (Ye BK186.out _) 1).trans rfl, (World.cell?_alloc_lt _ _ _ (YC _ _ (hHeld.2.2.2.2.1))).trans (hHeld.2.2.2.2.1), (World.cell?_alloc_lt _ _ _ (YC _ _ (hHeld.2.2.2.2.2))).trans (hHeld.2.2.2.2.2)⟩ (fun hHeld => ?_)
          clear hK K
          refine norm_ (a' := ?_) ?_ ?_
          rotate_left
          ·show Act.put _ (some 39) _ = _
           simp only [Act.put, Yo, Yp, Yq, i64_w, i32_w]
           rfl
          refine last_ (i := 8) (N := some 40) #[true, true, true, true, true, true, true, true, true, false, false] rfl rfl (one_of HT_.out (by kernel_rfl)) (by decide) (fun K hK => ?_)
          refine Kd.R_append_step k33 (w0 := w) w.heap.size (by rfl) (.tmp 33) (.tmp 39) 22 33 (.agg #[(.int .i64 0), (.int .i64 0)]) 16 rfl Try.underlying22 info33 rfl (by decide) (by omega) u190001 x190001_1 (⟨(rd_T33 ql x8_1).f0, (rd_T33 ql x8_1).f1⟩ : S33) [.int .i64 ((rd_T33 ql x8_1).f0), .int .i64 ((rd_T33 ql x8_1).f1)] (fun k_ => (w.heap.size ≤ k_)) (fun _ => False) rfl rfl ?aP (fun _ hk => hk.elim) ?aF ?aO ?aB ?aS ?aL ?_
          (case aP => exact k33_mkM _ _ _ (⟨(rd_T33 ql x8_1).f0, (rd_T33 ql x8_1).f1⟩ : S33))
          (case aB => exact (by repeat (first | (with_reducible first | exact HB.out | apply Yc | apply Ya | apply Yb | refine Yg ?_ GE186.out | refine Yg ?_ GE187.out | refine Yg ?_ GE189.out) | exact HB.out)))
          (case aF => exact (fun k_ hk => (Nat.le_trans (Yk (by repeat (first | (with_reducible first | exact HB.out | apply Yc | apply Ya | apply Yb | refine Yg ?_ GE186.out | refine Yg ?_ GE187.out | refine Yg ?_ GE189.out) | exact HB.out))) hk)))
          (case aO => exact (by (with_reducible repeat (first | apply Ys | apply Yr | apply Yt)); exact HO_190001.out))
          (case aS => exact (Yk (by repeat (first | (with_reducible first | exact HB.out | apply Yc | apply Ya | apply Yb | refine Yg ?_ GE186.out | refine Yg ?_ GE187.out | refine Yg ?_ GE189.out) | exact HB.out))))
          (case aL => have := LMc29.out; omega)
          intro v193 w34 ho hb hg hat
          rw [← Ny192.out] at ho
          have n0_ := Ym (Kd.V_afterv (ok := (fun k_ => (P0_1_ k_ ∨ w.heap.size ≤ k_) ∧ k_ ≠ gb186 ∧ k_ ≠ gb187 ∧ k_ ≠ gb189)) (by (with_reducible repeat (first | apply Yy | apply Yx | apply Yz)); exact YG HO_187001.out (fun _ hk => ⟨⟨hk.1, ⟨hk.2.2.1, ⟨hk.2.2.2.1, hk.2.2.2.2⟩⟩⟩, hk.2.1⟩)) hg hat)
          have n1_ := Ym (blk_grown (g := gb186) (o := .cells #[.int .i64 qa, .slice (some ad190) ql.length qc] 24 (0, 0)) (by (with_reducible repeat (first | refine Yd ?_ _ | refine Yf ?_ | refine Ye ?_ _)); exact BK186.out) hg (Kd.R_ne HO_190001.out BK186.out (by decide)))
          have n2_ := Ym (blk_grown (g := gb187) (o := .cells #[.int .i64 0, .slice none 0 0] 24 (0, 0)) (by (with_reducible repeat (first | refine Yd ?_ _ | refine Yf ?_ | refine Ye ?_ _)); exact BK187.out) hg (Kd.R_ne HO_190001.out BK187.out (by decide)))
          have n3_ := Ym (blk_grown (g := gb189) (o := .cells #[.int .i64 qa, u190001] 24 (0, 0)) (by (with_reducible repeat (first | refine Yd ?_ _ | refine Yf ?_ | refine Ye ?_ _)); exact BK189.out) hg (Kd.R_ne HO_190001.out BK189.out (by decide)))
          have n4_ := Ym (hb)
          have n5_ := Ym (ho)
          clear HO_187001
          clear BK186
          clear BK187
          clear BK189
          clear HB
          clear HO_190001
          have HO_187001 := n0_
          have BK186 := n1_
          have BK187 := n2_
          have BK189 := n3_
          have HB := n4_
          have HO194 := n5_
          clear n0_ n1_ n2_ n3_ n4_ n5_
          clear ho hb hg hat
          obtain ⟨Ao35, co35, eo35⟩ := Kd.R_slice HO194.out
          (first | subst eo35 | (injection eo35 with f1_ f2_ f3_; have f4_ := f1_.symm; have f5_ := f3_.symm; clear f1_ f2_ f3_; subst f4_; subst f5_))
          refine hK.out _ _ ?_
          clear hK K
          refine norm_ (a' := ?_) ?_ ?_
          rotate_left
          ·show Act.put _ (some 40) _ = _
           simp only [Act.put, Yo, Yp, Yq, i64_w, i32_w]
           rfl
          refine pure_ (i := 9) (N := some 41) (v := ?_) (a' := ?_) #[true, true, true, true, true, true, true, true, true, true, false] rfl rfl (any_of HT_.out (by kernel_rfl)) (fun _ _ _ h => h) (Or.inl ⟨by rfl, ?_⟩) ?_ ?_
          rotate_left
          ·intro w'
           go_simp
           with_reducible rfl
          rotate_left
          ·simp only [Act.put, Yo, Yp, Yq, i64_w, i32_w]
           rfl
          refine last_ (i := 10) (N := none) #[true, true, true, true, true, true, true, true, true, true, true] rfl rfl (one_of HT_.out (by kernel_rfl)) (by decide) (fun K hK => ?_)
          have hs36 : w34.cell? ⟨gb189, 1, none⟩ = some (u190001) := (Yh BK189.out 1).trans rfl
          have hfs36 := Yi BK189.out 1
          have hns36_0 := NB186_189.out
          have hns36_1 := NB187_189.out
          have hms36_0 := NB189_186.out
          have hms36_1 := NB189_187.out
          refine skip_ (w1 := ?_) (by rfl) rfl ?_ ?_
          rotate_left
          ·go_simp
           rfl
          refine hK.out _ _ ?_
          clear hK K
          refine done_ (done_of HT_.out (by kernel_rfl)) ?_
          try go_wp2
          go_roundg kj13
          case measure => have := HK1.out; have := HJ13.out; omega
          case rel => exact ⟨(wrap64 (x8_1 + 1)), (y192), (.slice Ao35 y192.length co35), (by first | rfl | (simp; done) | (simp [*]; done)), H', ⟨by have := HK1.out; have := HJ13.out; omega⟩, ⟨by (with_reducible repeat (first | apply Yy | apply Yx | apply Yz)); exact YG (Kd.V_far (p := ⟨gb189, 1, none⟩) (YG HO_187001.out (fun k_ hk => (⟨hk, hk.1.2.2.2⟩ : _ ∧ k_ ≠ gb189))) (fun _ hk => hk.2) (.slice Ao35 y192.length co35)) (fun _ hk => ⟨hk.1.1.1, ⟨hk.1.2, ⟨hk.1.1.2.1, ⟨hk.1.1.2.2.1, hk.1.1.2.2.2⟩⟩⟩⟩)⟩, ⟨by (with_reducible repeat (first | apply Ys | apply Yr | apply Yt)); exact Yv (Yw (p := ⟨gb189, 1, none⟩) (Yu HO194.out BK189.out (by decide)) (fun _ hk => hk.2) (.slice Ao35 y192.length co35)) (fun _ hk => hk.1)⟩, ⟨by (with_reducible repeat (first | refine Yd ?_ _ | refine Yf ?_ | refine Ye ?_ _)); refine YH ?_ NB186_189.out _; (with_reducible repeat (first | refine Yd ?_ _ | refine Yf ?_ | refine Ye ?_ _)); exact BK186.out⟩, ⟨by (with_reducible repeat (first | refine Yd ?_ _ | refine Yf ?_ | refine Ye ?_ _)); refine YH ?_ NB187_189.out _; (with_reducible repeat (first | refine Yd ?_ _ | refine Yf ?_ | refine Ye ?_ _)); exact BK187.out⟩, ⟨by (with_reducible repeat (first | refine Yd ?_ _ | refine Yf ?_ | refine Ye ?_ _)); refine blk_put (cs := #[.int .i64 qa, u190001]) ?_ 1 _ rfl; (with_reducible repeat (first | refine Yd ?_ _ | refine Yf ?_ | refine Ye ?_ _)); exact BK189.out⟩, ⟨by repeat (first | (with_reducible first | exact HB.out | apply Yc | apply Ya | apply Yb | refine Yg ?_ GE186.out | refine Yg ?_ GE187.out | refine Yg ?_ GE189.out) | exact HB.out)⟩⟩
         ·rw [if_neg c29] at H
          exact absurd H (by simp)
       ·rw [if_neg c24] at H
        exact absurd H (by simp)
      ·rw [if_neg c23] at H
       exact absurd H (by simp)
     ·replace c22 := Bool.eq_false_iff.mpr c22
      subst c22
      have H1 : (if t188 = true then (if (x190001_1.length : Int) = (ql.length : Int) then (some (qa, ql, false)) else (some (qa, x190001_1, true))) else (some (qa, ql, false))) = some (r1, r2, r3) := by rw [if_neg (show ¬ (false = true) by decide)] at H; exact H
      clear H
      have H := H1
      clear H1
      by_cases c37 : t188 = true
      ·subst c37
       have H1 : (if (x190001_1.length : Int) = (ql.length : Int) then (some (qa, ql, false)) else (some (qa, x190001_1, true))) = some (r1, r2, r3) := by rw [if_pos rfl] at H; exact H
       clear H
       have H := H1
       clear H1
       by_cases c38 : (x190001_1.length : Int) = (ql.length : Int)
       ·rw [if_pos c38] at H
        have c38b0 : ((x190001_1.length : Int) == (ql.length : Int)) = true := beq_iff_eq.mpr c38
        have c38b1 : ((x190001_1.length : Int) != (ql.length : Int)) = false := bne_eq_false_iff_eq.mpr c38
        have c38b2 : (x190001_1.length == ql.length) = true := by first | simpa using c38 | (simp at c38 ⊢; omega)
        clear c38
        simp only [Option.some.injEq, Prod.mk.injEq] at H
        obtain ⟨rfl, rfl, rfl⟩ := H
        have hnb39 := NB189_186.out
        have hnc39 := NB186_189.out
        have hnb40 := NB189_187.out
        have hnc40 := NB187_189.out
        have hcz41_0 : wc.cell? ⟨gb189, 0, none⟩ = some (.int .i64 qa) := (Yh BK189.out 0).trans rfl
        have hcz41_1 : wc.cell? ⟨gb189, 1, none⟩ = some (u190001) := (Yh BK189.out 1).trans rfl
        have hfz41_0 := Yi BK189.out 0
        have hfz41_1 := Yi BK189.out 1
        obtain ⟨Ao42, co42, eo42⟩ := Kd.R_slice HO_190001.out
        subst eo42
        have hnb43 := NB186_187.out
        have hnc43 := NB187_186.out
        have hcz44_0 : wc.cell? ⟨gb186, 0, none⟩ = some (.int .i64 qa) := (Yh BK186.out 0).trans rfl
        have hcz44_1 : wc.cell? ⟨gb186, 1, none⟩ = some (.slice qA ql.length qc) := (Yh BK186.out 1).trans rfl
        have hfz44_0 := Yi BK186.out 0
        have hfz44_1 := Yi BK186.out 1
        have hcz45_0 : wc.cell? ⟨gb187, 0, none⟩ = some (.int .i64 0) := (Yh BK187.out 0).trans rfl
        have hcz45_1 : wc.cell? ⟨gb187, 1, none⟩ = some (.slice none 0 0) := (Yh BK187.out 1).trans rfl
        have hfz45_0 := Yi BK187.out 0
        have hfz45_1 := Yi BK187.out 1
        go_wp2
        refine bodyPost_ret (results_ct rfl _ _ gb187 24 #[.int .i64 qa, .slice qA ql.length qc] (0, 0) _ rfl (by (with_reducible repeat (first | refine Yd ?_ _ | refine Yf ?_ | refine Ye ?_ _)); refine blk_put (cs := #[.int .i64 qa, .slice none 0 0]) ?_ 1 _ rfl; (with_reducible repeat (first | refine Yd ?_ _ | refine Yf ?_ | refine Ye ?_ _)); refine blk_put (cs := #[.int .i64 0, .slice none 0 0]) ?_ 0 _ rfl; (with_reducible repeat (first | refine Yd ?_ _ | refine Yf ?_ | refine Ye ?_ _)); exact BK187.out) Try.underlying24 rfl (by kernel_rfl)) rfl ?_
        exact ⟨_, by first | rfl | (simp [errW_none, errW_some] <;> rfl) | (simp [*, errW_none, errW_some] <;> rfl), by (with_reducible repeat (first | apply Yy | apply Yx | apply Yz)); exact YG (Kd.V_far (p := ⟨gb187, 1, none⟩) (Kd.V_far (p := ⟨gb187, 0, none⟩) (YG HO_187001.out (fun k_ hk => (⟨hk, hk.2.2.2.1⟩ : _ ∧ k_ ≠ gb187))) (fun _ hk => hk.2) (.int .i64 qa)) (fun _ hk => hk.2) (.slice qA ql.length qc)) (fun _ hk => hk.1.1), by repeat (first | (with_reducible first | exact HB.out | apply Yc | apply Ya | apply Yb | refine Yg ?_ GE186.out | refine Yg ?_ GE187.out | refine Yg ?_ GE189.out) | exact HB.out)⟩
       ·rw [if_neg c38] at H
        have c38b0 : ((x190001_1.length : Int) == (ql.length : Int)) = false := beq_eq_false_iff_ne.mpr c38
        have c38b1 : ((x190001_1.length : Int) != (ql.length : Int)) = true := bne_iff_ne.mpr c38
        have c38b2 : (x190001_1.length == ql.length) = false := by first | simpa using c38 | (simp at c38 ⊢; omega)
        simp only [Option.some.injEq, Prod.mk.injEq] at H
        obtain ⟨rfl, rfl, rfl⟩ := H
        have hnb46 := NB189_186.out
        have hnc46 := NB186_189.out
        have hnb47 := NB189_187.out
        have hnc47 := NB187_189.out
        have hcz48_0 : wc.cell? ⟨gb189, 0, none⟩ = some (.int .i64 qa) := (Yh BK189.out 0).trans rfl
        have hcz48_1 : wc.cell? ⟨gb189, 1, none⟩ = some (u190001) := (Yh BK189.out 1).trans rfl
        have hfz48_0 := Yi BK189.out 0
        have hfz48_1 := Yi BK189.out 1
        obtain ⟨Ao49, co49, eo49⟩ := Kd.R_slice HO_190001.out
        subst eo49
        have hnb50 := NB186_187.out
        have hnc50 := NB187_186.out
        have hcz51_0 : wc.cell? ⟨gb186, 0, none⟩ = some (.int .i64 qa) := (Yh BK186.out 0).trans rfl
        have hcz51_1 : wc.cell? ⟨gb186, 1, none⟩ = some (.slice qA ql.length qc) := (Yh BK186.out 1).trans rfl
        have hfz51_0 := Yi BK186.out 0
        have hfz51_1 := Yi BK186.out 1
        have hcz52_0 : wc.cell? ⟨gb187, 0, none⟩ = some (.int .i64 0) := (Yh BK187.out 0).trans rfl
        have hcz52_1 : wc.cell? ⟨gb187, 1, none⟩ = some (.slice none 0 0) := (Yh BK187.out 1).trans rfl
        have hfz52_0 := Yi BK187.out 0
        have hfz52_1 := Yi BK187.out 1
        go_wp2
        refine bodyPost_ret (results_ct rfl _ _ gb187 24 #[.int .i64 qa, .slice Ao49 x190001_1.length co49] (0, 0) _ rfl (by (with_reducible repeat (first | refine Yd ?_ _ | refine Yf ?_ | refine Ye ?_ _)); refine blk_put (cs := #[.int .i64 qa, .slice none 0 0]) ?_ 1 _ rfl; (with_reducible repeat (first | refine Yd ?_ _ | refine Yf ?_ | refine Ye ?_ _)); refine blk_put (cs := #[.int .i64 0, .slice none 0 0]) ?_ 0 _ rfl; (with_reducible repeat (first | refine Yd ?_ _ | refine Yf ?_ | refine Ye ?_ _)); exact BK187.out) Try.underlying24 rfl (by kernel_rfl)) rfl ?_
        exact ⟨_, by first | rfl | (simp [errW_none, errW_some] <;> rfl) | (simp [*, errW_none, errW_some] <;> rfl), YG (Kd.R_V (by (with_reducible repeat (first | apply Ys | apply Yr | apply Yt)); exact Yv (Yw (p := ⟨gb187, 1, none⟩) (Yw (p := ⟨gb187, 0, none⟩) (Yu HO_190001.out BK187.out (by decide)) (fun _ hk => hk.2) (.int .i64 qa)) (fun _ hk => hk.2) (.slice Ao49 x190001_1.length co49)) (fun _ hk => hk.1))) (fun k_ hk => by first | exact ⟨(.inr (hk.1)), hk.2⟩ | exact (.inr (hk))), by repeat (first | (with_reducible first | exact HB.out | apply Yc | apply Ya | apply Yb | refine Yg ?_ GE186.out | refine Yg ?_ GE187.out | refine Yg ?_ GE189.out) | exact HB.out)⟩
      ·replace c37 := Bool.eq_false_iff.mpr c37
       subst c37
       have H1 : (some (qa, ql, false)) = some (r1, r2, r3) := by rw [if_neg (show ¬ (false = true) by decide)] at H; exact H
       clear H
       have H := H1
       clear H1
       simp only [Option.some.injEq, Prod.mk.injEq] at H
       obtain ⟨rfl, rfl, rfl⟩ := H
       have hnb53 := NB186_187.out
       have hnc53 := NB187_186.out
       have hnb54 := NB186_189.out
       have hnc54 := NB189_186.out
       have hcz55_0 : wc.cell? ⟨gb186, 0, none⟩ = some (.int .i64 qa) := (Yh BK186.out 0).trans rfl
       have hcz55_1 : wc.cell? ⟨gb186, 1, none⟩ = some (.slice qA ql.length qc) := (Yh BK186.out 1).trans rfl
       have hfz55_0 := Yi BK186.out 0
       have hfz55_1 := Yi BK186.out 1
       have hnb56 := NB187_189.out
       have hnc56 := NB189_187.out
       have hcz57_0 : wc.cell? ⟨gb187, 0, none⟩ = some (.int .i64 0) := (Yh BK187.out 0).trans rfl
       have hcz57_1 : wc.cell? ⟨gb187, 1, none⟩ = some (.slice none 0 0) := (Yh BK187.out 1).trans rfl
       have hfz57_0 := Yi BK187.out 0
       have hfz57_1 := Yi BK187.out 1
       go_wp2
       refine bodyPost_ret (results_ct rfl _ _ gb187 24 #[.int .i64 qa, .slice qA ql.length qc] (0, 0) _ rfl (by (with_reducible repeat (first | refine Yd ?_ _ | refine Yf ?_ | refine Ye ?_ _)); refine blk_put (cs := #[.int .i64 qa, .slice none 0 0]) ?_ 1 _ rfl; (with_reducible repeat (first | refine Yd ?_ _ | refine Yf ?_ | refine Ye ?_ _)); refine blk_put (cs := #[.int .i64 0, .slice none 0 0]) ?_ 0 _ rfl; (with_reducible repeat (first | refine Yd ?_ _ | refine Yf ?_ | refine Ye ?_ _)); exact BK187.out) Try.underlying24 rfl (by kernel_rfl)) rfl ?_
       exact ⟨_, by first | rfl | (simp [errW_none, errW_some] <;> rfl) | (simp [*, errW_none, errW_some] <;> rfl), by (with_reducible repeat (first | apply Yy | apply Yx | apply Yz)); exact YG (Kd.V_far (p := ⟨gb187, 1, none⟩) (Kd.V_far (p := ⟨gb187, 0, none⟩) (YG HO_187001.out (fun k_ hk => (⟨hk, hk.2.2.2.1⟩ : _ ∧ k_ ≠ gb187))) (fun _ hk => hk.2) (.int .i64 qa)) (fun _ hk => hk.2) (.slice qA ql.length qc)) (fun _ hk => hk.1.1), by repeat (first | (with_reducible first | exact HB.out | apply Yc | apply Ya | apply Yb | refine Yg ?_ GE186.out | refine Yg ?_ GE187.out | refine Yg ?_ GE189.out) | exact HB.out)⟩

end
end Go.Proofs.Ytggkealdbebbkaa.P
