-- Laid by this session's own program (wip/myprint.py): Lean functions for the Go functions that a law reaches, and their contracts. Not trusted: Lean checks it. (slimmed by wip/slim10.py)
import Derived.Test.YtggkealdbebbkaaP0
import Derived.Test.YtggkealdbebbkaaP4
namespace Go.Proofs.Ytggkealdbebbkaa.P
noncomputable section
open Go.RowKit Go.Proofs.YtggkealdbebbkaaW.PrintWords Go.Proofs.YtggkealdbebbkaaW.PrintLast Go.Proofs.YtggkealdbebbkaaW.PrintMore
attribute [local go_sem] max2_int min2_int max_two min_two max_three min_three max_four min_four   -- for this text's walks alone
set_option linter.unusedVariables false
set_option linter.unusedSimpArgs false

/-! ### mooringsref10_May: function 22 -/
mutual
def mooringsref10_May.j0 : Nat → Bool → Int → List (S33) → Option (Bool)
 |0, _, _, _ => none
 |k + 1, x20, x155000, x155001 => if x20 = true then (some false) else (mooringsref10_May.l0 k 0 x155000 x155001)
def mooringsref10_May.l0 : Nat → Int → Int → List (S33) → Option (Bool)
 |0, _, _, _ => none
 |k + 1, x3, x155000, x155001 => if x3 < (x155001.length : Int) then (if 0 ≤ x3 then (if ((rd_T33 x155001 x3).f1) ≤ x155000 then (mooringsref10_May.j2 k x3 true x155000 x155001 ((rd_T33 x155001 x3).f0) ((rd_T33 x155001 x3).f1)) else (if ((rd_T33 x155001 x3).f1) > 1073741824 then (mooringsref10_May.j2 k x3 true x155000 x155001 ((rd_T33 x155001 x3).f0) ((rd_T33 x155001 x3).f1)) else (mooringsref10_May.j2 k x3 (decide (((rd_T33 x155001 x3).f0) < 0)) x155000 x155001 ((rd_T33 x155001 x3).f0) ((rd_T33 x155001 x3).f1)))) else (none)) else (some true)
def mooringsref10_May.j2 : Nat → Int → Bool → Int → List (S33) → Int → Int → Option (Bool)
 |0, _, _, _, _, _, _ => none
 |k + 1, x3, x47, x155000, x155001, x157000, x157001 => if x47 = true then (some false) else (if x3 = 0 then (mooringsref10_May.j3 k x3 true x155000 x155001 x157000 x157001) else (if 0 ≤ (wrap64 (x3 - 1)) then (if (wrap64 (x3 - 1)) < (x155001.length : Int) then ((mooringsref10_before.f ((rd_T33 x155001 (wrap64 (x3 - 1))).f0) ((rd_T33 x155001 (wrap64 (x3 - 1))).f1) x157000 x157001).bind fun t158 => (mooringsref10_May.j3 k x3 t158 x155000 x155001 x157000 x157001)) else (none)) else (none)))
def mooringsref10_May.j3 : Nat → Int → Bool → Int → List (S33) → Int → Int → Option (Bool)
 |0, _, _, _, _, _, _ => none
 |k + 1, x3, x5, x155000, x155001, x157000, x157001 => if x5 = true then (mooringsref10_May.l1 k x3 0 x155000 x155001 x157000 x157001) else (some false)
def mooringsref10_May.l1 : Nat → Int → Int → Int → List (S33) → Int → Int → Option (Bool)
 |0, _, _, _, _, _, _ => none
 |k + 1, x3, x6, x155000, x155001, x157000, x157001 => if x6 < x3 then (if 0 ≤ x6 then (if x6 < (x155001.length : Int) then (if ((rd_T33 x155001 x6).f0) = x157000 then (some false) else (mooringsref10_May.l1 k x3 (wrap64 (x6 + 1)) x155000 x155001 x157000 x157001)) else (none)) else (none)) else (mooringsref10_May.l0 k (wrap64 (x3 + 1)) x155000 x155001)
end
def mooringsref10_May.f (k : Nat) (qa : Int) (ql : List (S33)) : Option (Bool) := if qa < 0 then (mooringsref10_May.j0 k true qa ql) else (if qa > 1073741824 then (mooringsref10_May.j0 k true qa ql) else (mooringsref10_May.j0 k (decide ((ql.length : Int) > 64)) qa ql))
def mooringsref10_May.T9 : Bool × List (List Nat × List Nat) := (true, [([], []), ([0], [0]), ([1], [1]), ([2], [2]), ([3, 2], [2, 3]), ([2], [2]), ([5, 2], [2, 5]), ([4, 6, 2], [2, 4, 6]), ([7, 2], [2, 7]), ([2], [2]), ([8, 9, 2, 2], [2, 8, 9]), ([2, 10], [2, 10]), ([11, 10, 0, 1, 2, 3, 4, 5, 6, 7, 8, 9, 10, 11], [11])])
def mooringsref10_May.B9 : List Nat := [0, 1, 3, 7, 15, 7, 39, 127, 255, 7, 1023, 2047, 4095]
theorem mooringsref10_May.tab9 : rtab .any (opsOf Try.f22 9) = mooringsref10_May.T9 := by kernel_rfl
theorem mooringsref10_May.bits9 : waitsOk mooringsref10_May.T9.2 mooringsref10_May.B9 = true := by kernel_rfl
def mooringsref10_May.T15 : Bool × List (List Nat × List Nat) := (true, [([], []), ([0], [0]), ([], []), ([1, 2], [1, 2]), ([3], [3]), ([4], [4]), ([], []), ([6], [6]), ([5, 7], [5, 7])])
def mooringsref10_May.B15 : List Nat := [0, 1, 0, 7, 15, 31, 0, 64, 255]
theorem mooringsref10_May.tab15 : rtab .any (opsOf Try.f22 15) = mooringsref10_May.T15 := by kernel_rfl
theorem mooringsref10_May.bits15 : waitsOk mooringsref10_May.T15.2 mooringsref10_May.B15 = true := by kernel_rfl
set_option maxHeartbeats 8000000 in
set_option maxRecDepth 100000 in
theorem mooringsref10_May.calls (k : Nat) (qa : Int) (qA : Option Addr) (qc : Nat) (ql : List (S33)) (r : Bool) (w : World) (hr0_1 : Kd.C k33 w qA ql.length ql) (hc0_1 : ql.length ≤ qc) (h : mooringsref10_May.f k qa ql = some r) :
  Calls Try.prog 22 #[.agg #[.int .i64 qa, .slice qA ql.length qc]] w fun e w' => e = .returned (.bool r) ∧ Below w.heap.size w w' := by
 have hu24 := Try.underlying24
 have hu33 := Try.underlying33
 have HR0_1 := Ym hr0_1
 have HC0_1 := Ym hc0_1
 clear hr0_1 hc0_1
 have HB := Ym (Below.refl w.heap.size w)
 have H : (if qa < 0 then (mooringsref10_May.j0 k true qa ql) else (if qa > 1073741824 then (mooringsref10_May.j0 k true qa ql) else (mooringsref10_May.j0 k (decide ((ql.length : Int) > 64)) qa ql))) = some r := h
 clear h
 have HC2 := Ym H
 clear H
 go_enter Try.func22, Try.ntmps22
 go_upto_region 1 with (first | ((with_reducible refine gate_dst (N := 1) rfl ?_); (try (refine gate_guard (by rfl) ?_; dsimp only)); refine box_event ?hg (N := 1) ?hd (cs := #[.int .i64 qa, .slice qA ql.length qc]) (t := 24) ?hr ?_; (case hd => rfl); (case hg => rfl); (case hr => first | (go_simp; done) | (go_simp; rfl)); intro gb154 hg w3 hbox hb; have n0_ := Ym (Yj (by repeat (first | (with_reducible first | exact HB.out | apply Yc | apply Ya | apply Yb) | exact HB.out)) hb); have n1_ := Ym (hbox); have n2_ := Ym ((by rw [hg]; exact (Yk (by repeat (first | (with_reducible first | exact HB.out | apply Yc | apply Ya | apply Yb) | exact HB.out))) : w.heap.size ≤ gb154)); have n3_ := Ym ((by rw [hg]; exact (Yk (by repeat (first | (with_reducible first | exact HB.out | apply Yc | apply Ya | apply Yb) | exact HB.out))) : w.heap.size ≤ gb154)); clear HB; have HB := n0_; have BK154 := n1_; have GW154 := n2_; have GE154 := n3_; clear n0_ n1_ n2_ n3_; clear hb hbox hg))
 (try simp only [Act.put, Yo, Yp, Yq])
 go_cut [20] (fun v20 wc => ∃ (kq : Nat) (x20_1 : Bool), v20 = .bool x20_1 ∧ Aside0 (mooringsref10_May.j0 kq x20_1 qa ql = some r) ∧ Aside0 (kq ≤ k) ∧ Aside0 (wc.heap[gb154]? = some (.cells #[.int .i64 qa, (.slice qA ql.length qc)] 24 (0, 0))) ∧ Aside0 (Below w.heap.size w wc))
 case first =>
  have H := HC2.out
  clear HC2
  by_cases c4 : qa < 0
  ·rw [if_pos c4] at H
   have c4b0 : decide (qa < 0) = true := decide_eq_true c4
   clear c4
   (first | rw [c4b0] | (simp only [i64_w, i32_w]; rw [c4b0]) | skip)
   have H' := Ym H
   clear H
   have hcz5_0 : w3.cell? ⟨gb154, 0, none⟩ = some (.int .i64 qa) := (Yh BK154.out 0).trans rfl
   have hcz5_1 : w3.cell? ⟨gb154, 1, none⟩ = some (.slice qA ql.length qc) := (Yh BK154.out 1).trans rfl
   have hfz5_0 := Yi BK154.out 0
   have hfz5_1 := Yi BK154.out 1
   go_wp2
   go_meet
   case rel => exact ⟨_, (true), (by first | rfl | (simp; done) | (simp [*]; done)), H', ⟨by first | omega | exact Nat.le_refl _⟩, ⟨by (with_reducible repeat (first | refine Yd ?_ _ | refine Yf ?_ | refine Ye ?_ _)); exact BK154.out⟩, ⟨by repeat (first | (with_reducible first | exact HB.out | apply Yc | apply Ya | apply Yb | refine Yg ?_ GE154.out) | exact HB.out)⟩⟩
  ·rw [if_neg c4] at H
   have c4b0 : decide (qa < 0) = false := decide_eq_false c4
   clear c4
   (first | rw [c4b0] | (simp only [i64_w, i32_w]; rw [c4b0]) | skip)
   by_cases c6 : qa > 1073741824
   ·rw [if_pos c6] at H
    have c6b0 : decide (1073741824 < qa) = true := decide_eq_true c6
    clear c6
    have H' := Ym H
    clear H
    have hcz7_0 : w3.cell? ⟨gb154, 0, none⟩ = some (.int .i64 qa) := (Yh BK154.out 0).trans rfl
    have hcz7_1 : w3.cell? ⟨gb154, 1, none⟩ = some (.slice qA ql.length qc) := (Yh BK154.out 1).trans rfl
    have hfz7_0 := Yi BK154.out 0
    have hfz7_1 := Yi BK154.out 1
    go_wp2
    go_meet
    case rel => exact ⟨_, (true), (by first | rfl | (simp; done) | (simp [*]; done)), H', ⟨by first | omega | exact Nat.le_refl _⟩, ⟨by (with_reducible repeat (first | refine Yd ?_ _ | refine Yf ?_ | refine Ye ?_ _)); exact BK154.out⟩, ⟨by repeat (first | (with_reducible first | exact HB.out | apply Yc | apply Ya | apply Yb | refine Yg ?_ GE154.out) | exact HB.out)⟩⟩
   ·rw [if_neg c6] at H
    have c6b0 : decide (1073741824 < qa) = false := decide_eq_false c6
    clear c6
    have H' := Ym H
    clear H
    have hcz8_0 : w3.cell? ⟨gb154, 0, none⟩ = some (.int .i64 qa) := (Yh BK154.out 0).trans rfl
    have hcz8_1 : w3.cell? ⟨gb154, 1, none⟩ = some (.slice qA ql.length qc) := (Yh BK154.out 1).trans rfl
    have hfz8_0 := Yi BK154.out 0
    have hfz8_1 := Yi BK154.out 1
    go_wp2
    go_meet
    case rel => exact ⟨_, (decide ((ql.length : Int) > 64)), (by first | rfl | (simp; done) | (simp [*]; done)), H', ⟨by first | omega | exact Nat.le_refl _⟩, ⟨by (with_reducible repeat (first | refine Yd ?_ _ | refine Yf ?_ | refine Ye ?_ _)); exact BK154.out⟩, ⟨by repeat (first | (with_reducible first | exact HB.out | apply Yc | apply Ya | apply Yb | refine Yg ?_ GE154.out) | exact HB.out)⟩⟩
 case rest =>
  clear HC2
  try clear c2
  try clear p2
  try clear c4
  try clear c4b0
  try clear c6
  try clear c6b0
  try clear hcz5_0
  try clear hcz5_1
  try clear hcz7_0
  try clear hcz7_1
  try clear hcz8_0
  try clear hcz8_1
  try clear hfz5_0
  try clear hfz5_1
  try clear hfz7_0
  try clear hfz7_1
  try clear hfz8_0
  try clear hfz8_1
  obtain ⟨kq, x20_1, rfl, HA, HJ1, BK154, HB⟩ := hcut
  cases kq with
  |zero => exact absurd HA.out (by simp [mooringsref10_May.j0])
  |succ kj1 =>
   have H := HA.out
   clear HA
   simp only [mooringsref10_May.j0] at H
   by_cases c9 : x20_1 = true
   ·subst c9
    have H1 : (some false) = some r := by rw [if_pos rfl] at H; exact H
    clear H
    have H := H1
    clear H1
    obtain rfl := Option.some.inj H
    go_wp2
    go_ret
    exact ⟨by first | rfl | (simp [errW_none, errW_some] <;> rfl) | (simp [*, errW_none, errW_some] <;> rfl), by repeat (first | (with_reducible first | exact HB.out | apply Yc | apply Ya | apply Yb | refine Yg ?_ GE154.out) | exact HB.out)⟩
   ·replace c9 := Bool.eq_false_iff.mpr c9
    subst c9
    have H1 : (mooringsref10_May.l0 kj1 0 qa ql) = some r := by rw [if_neg (show ¬ (false = true) by decide)] at H; exact H
    clear H
    have H := H1
    clear H1
    have H' := Ym H
    clear H
    go_wp2
    go_loopg [3] kj1 (fun kq v3 w' => ∃ (x3_2 : Int), v3 = .int .i64 x3_2 ∧ Aside0 (mooringsref10_May.l0 kq x3_2 qa ql = some r) ∧ Aside0 (kq ≤ kj1) ∧ Aside0 (w'.heap[gb154]? = some (.cells #[.int .i64 qa, (.slice qA ql.length qc)] 24 (0, 0))) ∧ Aside0 (Below w.heap.size w w'))
    case atStart => exact ⟨(0), (by first | rfl | (simp; done) | (simp [*]; done)), H', ⟨Nat.le_refl _⟩, ⟨by (with_reducible repeat (first | refine Yd ?_ _ | refine Yf ?_ | refine Ye ?_ _)); exact BK154.out⟩, ⟨by repeat (first | (with_reducible first | exact HB.out | apply Yc | apply Ya | apply Yb | refine Yg ?_ GE154.out) | exact HB.out)⟩⟩
    case round =>
     clear H'
     try clear c2
     try clear p2
     try clear c4
     try clear c4b0
     try clear c6
     try clear c6b0
     try clear c9
     try clear hcz5_0
     try clear hcz5_1
     try clear hcz7_0
     try clear hcz7_1
     try clear hcz8_0
     try clear hcz8_1
     try clear hfz5_0
     try clear hfz5_1
     try clear hfz7_0
     try clear hfz7_1
     try clear hfz8_0
     try clear hfz8_1
     try clear p2
     obtain ⟨x3_2, rfl, HA, HK2, BK154, HB⟩ := hrel
     cases gk with
     |zero => exact absurd HA.out (by simp [mooringsref10_May.l0])
     |succ k2 =>
      have H := HA.out
      clear HA
      simp only [mooringsref10_May.l0] at H
      by_cases c10 : x3_2 < (ql.length : Int)
      ·rw [if_pos c10] at H
       have c10b0 : decide (x3_2 < (ql.length : Int)) = true := decide_eq_true c10
       clear c10
       by_cases c11 : 0 ≤ x3_2
       ·rw [if_pos c11] at H
        have c11b0 : decide (0 ≤ x3_2) = true := decide_eq_true c11
        clear c11
        have HC12 := Ym H
        clear H
        have hcz13_0 : wr.cell? ⟨gb154, 0, none⟩ = some (.int .i64 qa) := (Yh BK154.out 0).trans rfl
        have hcz13_1 : wr.cell? ⟨gb154, 1, none⟩ = some (.slice qA ql.length qc) := (Yh BK154.out 1).trans rfl
        have hfz13_0 := Yi BK154.out 0
        have hfz13_1 := Yi BK154.out 1
        have p155 : 0 ≤ (x3_2 : Int) := YF (by first | (with_reducible assumption) | assumption)
        have q155 : x3_2 < (ql.length : Int) := YF (by first | (with_reducible assumption) | assumption)
        obtain ⟨ad155, e155, hx155_0, hx155_1⟩ := at_T33 HR0_1.out x3_2 p155 q155
        cases e155
        replace hx155_0 := (HB.out.cell (YC w _ hx155_0)).trans hx155_0
        replace hx155_1 := (HB.out.cell (YC w _ hx155_1)).trans hx155_1
        replace p155 := eq_true p155
        replace q155 := eq_true q155
        go_upto_region 7 with (first | ((with_reducible refine gate_dst (N := 4) rfl ?_); (try (refine gate_guard (by rfl) ?_; dsimp only)); refine box_event ?hg (N := 4) ?hd (cs := #[.int .i64 0, .int .i64 0]) (t := 33) ?hr ?_; (case hd => rfl); (case hg => rfl); (case hr => first | (go_simp; done) | (go_simp; rfl)); intro gb156 hg w14 hbox hb; have n0_ := Ym (Yl (g := gb154) (o := .cells #[.int .i64 qa, .slice (some ad155) ql.length qc] 24 (0, 0)) (by (with_reducible repeat (first | refine Yd ?_ _ | refine Yf ?_ | refine Ye ?_ _)); exact BK154.out) hb); have n1_ := Ym (Yj (by repeat (first | (with_reducible first | exact HB.out | apply Yc | apply Ya | apply Yb | refine Yg ?_ GE154.out) | exact HB.out)) hb); have n2_ := Ym (hbox); have n3_ := Ym ((by rw [hg]; exact (Yk (by repeat (first | (with_reducible first | exact HB.out | apply Yc | apply Ya | apply Yb | refine Yg ?_ GE154.out) | exact HB.out))) : w.heap.size ≤ gb156)); have n4_ := Ym ((by rw [hg]; exact (Yk (by repeat (first | (with_reducible first | exact HB.out | apply Yc | apply Ya | apply Yb | refine Yg ?_ GE154.out) | exact HB.out))) : w.heap.size ≤ gb156)); have n5_ := Ym ((by rw [hg]; exact YD (YI (g := gb154) (o := .cells #[.int .i64 qa, .slice (some ad155) ql.length qc] 24 (0, 0)) (by (with_reducible repeat (first | refine Yd ?_ _ | refine Yf ?_ | refine Ye ?_ _)); exact BK154.out)) : gb154 ≠ gb156)); have n6_ := Ym ((by rw [hg]; exact YE (YI (g := gb154) (o := .cells #[.int .i64 qa, .slice (some ad155) ql.length qc] 24 (0, 0)) (by (with_reducible repeat (first | refine Yd ?_ _ | refine Yf ?_ | refine Ye ?_ _)); exact BK154.out)) : gb156 ≠ gb154)); clear BK154; clear HB; have BK154 := n0_; have HB := n1_; have BK156 := n2_; have GW156 := n3_; have GE156 := n4_; have NB154_156 := n5_; have NB156_154 := n6_; clear n0_ n1_ n2_ n3_ n4_ n5_ n6_; clear hb hbox hg; have hnb15 := NB156_154.out; have hnc15 := NB154_156.out; have hcz16_0 : w14.cell? ⟨gb156, 0, none⟩ = some (.int .i64 0) := (Yh BK156.out 0).trans rfl; have hcz16_1 : w14.cell? ⟨gb156, 1, none⟩ = some (.int .i64 0) := (Yh BK156.out 1).trans rfl; have hfz16_0 := Yi BK156.out 0; have hfz16_1 := Yi BK156.out 1))
        (try simp only [Act.put, Yo, Yp, Yq])
        go_cut [47] (fun v47 wc => ∃ (kq : Nat) (x47_11 : Bool), v47 = .bool x47_11 ∧ Aside0 (mooringsref10_May.j2 kq x3_2 x47_11 qa ql ((rd_T33 ql x3_2).f0) ((rd_T33 ql x3_2).f1) = some r) ∧ Aside0 (kq ≤ k2) ∧ Aside0 (wc.heap[gb154]? = some (.cells #[.int .i64 qa, (.slice (some ad155) ql.length qc)] 24 (0, 0))) ∧ Aside0 (wc.heap[gb156]? = some (.cells #[.int .i64 ((rd_T33 ql x3_2).f0), .int .i64 ((rd_T33 ql x3_2).f1)] 33 (0, 0))) ∧ Aside0 (Below w.heap.size w wc))
        case first =>
         have H := HC12.out
         clear HC12
         by_cases c17 : ((rd_T33 ql x3_2).f1) ≤ qa
         ·rw [if_pos c17] at H
          have c17b0 : decide (((rd_T33 ql x3_2).f1) ≤ qa) = true := decide_eq_true c17
          clear c17
          (first | rw [c17b0] | (simp only [i64_w, i32_w]; rw [c17b0]) | skip)
          have H' := Ym H
          clear H
          have hnb18 := NB156_154.out
          have hnc18 := NB154_156.out
          have hcz19_0 : w14.cell? ⟨gb156, 0, none⟩ = some (.int .i64 0) := (Yh BK156.out 0).trans rfl
          have hcz19_1 : w14.cell? ⟨gb156, 1, none⟩ = some (.int .i64 0) := (Yh BK156.out 1).trans rfl
          have hfz19_0 := Yi BK156.out 0
          have hfz19_1 := Yi BK156.out 1
          have hcz20_0 : w14.cell? ⟨gb154, 0, none⟩ = some (.int .i64 qa) := (Yh BK154.out 0).trans rfl
          have hcz20_1 : w14.cell? ⟨gb154, 1, none⟩ = some (.slice (some ad155) ql.length qc) := (Yh BK154.out 1).trans rfl
          have hfz20_0 := Yi BK154.out 0
          have hfz20_1 := Yi BK154.out 1
          go_wp2
          go_meet
          case rel => exact ⟨_, (true), (by first | rfl | (simp; done) | (simp [*]; done)), H', ⟨by have := HJ1.out; have := HK2.out; first | omega | exact Nat.le_refl _⟩, ⟨by (with_reducible repeat (first | refine Yd ?_ _ | refine Yf ?_ | refine Ye ?_ _)); refine YH ?_ NB154_156.out _; (with_reducible repeat (first | refine Yd ?_ _ | refine Yf ?_ | refine Ye ?_ _)); refine YH ?_ NB154_156.out _; (with_reducible repeat (first | refine Yd ?_ _ | refine Yf ?_ | refine Ye ?_ _)); exact BK154.out⟩, ⟨by (with_reducible repeat (first | refine Yd ?_ _ | refine Yf ?_ | refine Ye ?_ _)); refine blk_put (cs := #[.int .i64 ((rd_T33 ql x3_2).f0), .int .i64 0]) ?_ 1 _ rfl; (with_reducible repeat (first | refine Yd ?_ _ | refine Yf ?_ | refine Ye ?_ _)); refine blk_put (cs := #[.int .i64 0, .int .i64 0]) ?_ 0 _ rfl; (with_reducible repeat (first | refine Yd ?_ _ | refine Yf ?_ | refine Ye ?_ _)); exact BK156.out⟩, ⟨by repeat (first | (with_reducible first | exact HB.out | apply Yc | apply Ya | apply Yb | refine Yg ?_ GE154.out | refine Yg ?_ GE156.out) | exact HB.out)⟩⟩
         ·rw [if_neg c17] at H
          have c17b0 : decide (((rd_T33 ql x3_2).f1) ≤ qa) = false := decide_eq_false c17
          clear c17
          (first | rw [c17b0] | (simp only [i64_w, i32_w]; rw [c17b0]) | skip)
          by_cases c21 : ((rd_T33 ql x3_2).f1) > 1073741824
          ·rw [if_pos c21] at H
           have c21b0 : decide (1073741824 < ((rd_T33 ql x3_2).f1)) = true := decide_eq_true c21
           clear c21
           have H' := Ym H
           clear H
           have hnb22 := NB156_154.out
           have hnc22 := NB154_156.out
           have hcz23_0 : w14.cell? ⟨gb156, 0, none⟩ = some (.int .i64 0) := (Yh BK156.out 0).trans rfl
           have hcz23_1 : w14.cell? ⟨gb156, 1, none⟩ = some (.int .i64 0) := (Yh BK156.out 1).trans rfl
           have hfz23_0 := Yi BK156.out 0
           have hfz23_1 := Yi BK156.out 1
           have hcz24_0 : w14.cell? ⟨gb154, 0, none⟩ = some (.int .i64 qa) := (Yh BK154.out 0).trans rfl
           have hcz24_1 : w14.cell? ⟨gb154, 1, none⟩ = some (.slice (some ad155) ql.length qc) := (Yh BK154.out 1).trans rfl
           have hfz24_0 := Yi BK154.out 0
           have hfz24_1 := Yi BK154.out 1
           go_wp2
           go_meet
           case rel => exact ⟨_, (true), (by first | rfl | (simp; done) | (simp [*]; done)), H', ⟨by have := HJ1.out; have := HK2.out; first | omega | exact Nat.le_refl _⟩, ⟨by (with_reducible repeat (first | refine Yd ?_ _ | refine Yf ?_ | refine Ye ?_ _)); refine YH ?_ NB154_156.out _; (with_reducible repeat (first | refine Yd ?_ _ | refine Yf ?_ | refine Ye ?_ _)); refine YH ?_ NB154_156.out _; (with_reducible repeat (first | refine Yd ?_ _ | refine Yf ?_ | refine Ye ?_ _)); exact BK154.out⟩, ⟨by (with_reducible repeat (first | refine Yd ?_ _ | refine Yf ?_ | refine Ye ?_ _)); refine blk_put (cs := #[.int .i64 ((rd_T33 ql x3_2).f0), .int .i64 0]) ?_ 1 _ rfl; (with_reducible repeat (first | refine Yd ?_ _ | refine Yf ?_ | refine Ye ?_ _)); refine blk_put (cs := #[.int .i64 0, .int .i64 0]) ?_ 0 _ rfl; (with_reducible repeat (first | refine Yd ?_ _ | refine Yf ?_ | refine Ye ?_ _)); exact BK156.out⟩, ⟨by repeat (first | (with_reducible first | exact HB.out | apply Yc | apply Ya | apply Yb | refine Yg ?_ GE154.out | refine Yg ?_ GE156.out) | exact HB.out)⟩⟩
          ·rw [if_neg c21] at H
           have c21b0 : decide (1073741824 < ((rd_T33 ql x3_2).f1)) = false := decide_eq_false c21
           clear c21
           have H' := Ym H
           clear H
           have hnb25 := NB156_154.out
           have hnc25 := NB154_156.out
           have hcz26_0 : w14.cell? ⟨gb156, 0, none⟩ = some (.int .i64 0) := (Yh BK156.out 0).trans rfl
           have hcz26_1 : w14.cell? ⟨gb156, 1, none⟩ = some (.int .i64 0) := (Yh BK156.out 1).trans rfl
           have hfz26_0 := Yi BK156.out 0
           have hfz26_1 := Yi BK156.out 1
           have hcz27_0 : w14.cell? ⟨gb154, 0, none⟩ = some (.int .i64 qa) := (Yh BK154.out 0).trans rfl
           have hcz27_1 : w14.cell? ⟨gb154, 1, none⟩ = some (.slice (some ad155) ql.length qc) := (Yh BK154.out 1).trans rfl
           have hfz27_0 := Yi BK154.out 0
           have hfz27_1 := Yi BK154.out 1
           go_wp2
           go_meet
           case rel => exact ⟨_, (decide (((rd_T33 ql x3_2).f0) < 0)), (by first | rfl | (simp; done) | (simp [*]; done)), H', ⟨by have := HJ1.out; have := HK2.out; first | omega | exact Nat.le_refl _⟩, ⟨by (with_reducible repeat (first | refine Yd ?_ _ | refine Yf ?_ | refine Ye ?_ _)); refine YH ?_ NB154_156.out _; (with_reducible repeat (first | refine Yd ?_ _ | refine Yf ?_ | refine Ye ?_ _)); refine YH ?_ NB154_156.out _; (with_reducible repeat (first | refine Yd ?_ _ | refine Yf ?_ | refine Ye ?_ _)); exact BK154.out⟩, ⟨by (with_reducible repeat (first | refine Yd ?_ _ | refine Yf ?_ | refine Ye ?_ _)); refine blk_put (cs := #[.int .i64 ((rd_T33 ql x3_2).f0), .int .i64 0]) ?_ 1 _ rfl; (with_reducible repeat (first | refine Yd ?_ _ | refine Yf ?_ | refine Ye ?_ _)); refine blk_put (cs := #[.int .i64 0, .int .i64 0]) ?_ 0 _ rfl; (with_reducible repeat (first | refine Yd ?_ _ | refine Yf ?_ | refine Ye ?_ _)); exact BK156.out⟩, ⟨by repeat (first | (with_reducible first | exact HB.out | apply Yc | apply Ya | apply Yb | refine Yg ?_ GE154.out | refine Yg ?_ GE156.out) | exact HB.out)⟩⟩
        case rest =>
         clear HC12
         try clear c1
         try clear p1
         try clear q1
         try clear hx1
         try clear c2
         try clear p2
         try clear c4
         try clear c4b0
         try clear c6
         try clear c6b0
         try clear c9
         try clear c10
         try clear c10b0
         try clear c11
         try clear c11b0
         try clear c15
         try clear p15
         try clear q15
         try clear hx15
         try clear c17
         try clear c17b0
         try clear c18
         try clear c21
         try clear c21b0
         try clear c22
         try clear c25
         try clear hcz13_0
         try clear hcz13_1
         try clear hcz16_0
         try clear hcz16_1
         try clear hcz19_0
         try clear hcz19_1
         try clear hcz20_0
         try clear hcz20_1
         try clear hcz23_0
         try clear hcz23_1
         try clear hcz24_0
         try clear hcz24_1
         try clear hcz26_0
         try clear hcz26_1
         try clear hcz27_0
         try clear hcz27_1
         try clear hcz5_0
         try clear hcz5_1
         try clear hcz7_0
         try clear hcz7_1
         try clear hcz8_0
         try clear hcz8_1
         try clear hfz13_0
         try clear hfz13_1
         try clear hfz16_0
         try clear hfz16_1
         try clear hfz19_0
         try clear hfz19_1
         try clear hfz20_0
         try clear hfz20_1
         try clear hfz23_0
         try clear hfz23_1
         try clear hfz24_0
         try clear hfz24_1
         try clear hfz26_0
         try clear hfz26_1
         try clear hfz27_0
         try clear hfz27_1
         try clear hfz5_0
         try clear hfz5_1
         try clear hfz7_0
         try clear hfz7_1
         try clear hfz8_0
         try clear hfz8_1
         try clear hx155_0
         try clear hx155_1
         try clear p155
         try clear p2
         try clear q155
         obtain ⟨kq, x47_11, rfl, HA, HJ11, BK154, BK156, HB⟩ := hcut
         cases kq with
         |zero => exact absurd HA.out (by simp [mooringsref10_May.j2])
         |succ kj11 =>
          have H := HA.out
          clear HA
          simp only [mooringsref10_May.j2] at H
          by_cases c28 : x47_11 = true
          ·subst c28
           have H1 : (some false) = some r := by rw [if_pos rfl] at H; exact H
           clear H
           have H := H1
           clear H1
           obtain rfl := Option.some.inj H
           go_wp2
           go_ret
           exact ⟨by first | rfl | (simp [errW_none, errW_some] <;> rfl) | (simp [*, errW_none, errW_some] <;> rfl), by repeat (first | (with_reducible first | exact HB.out | apply Yc | apply Ya | apply Yb | refine Yg ?_ GE154.out | refine Yg ?_ GE156.out) | exact HB.out)⟩
          ·replace c28 := Bool.eq_false_iff.mpr c28
           subst c28
           have H1 : (if x3_2 = 0 then (mooringsref10_May.j3 kj11 x3_2 true qa ql ((rd_T33 ql x3_2).f0) ((rd_T33 ql x3_2).f1)) else (if 0 ≤ (wrap64 (x3_2 - 1)) then (if (wrap64 (x3_2 - 1)) < (ql.length : Int) then ((mooringsref10_before.f ((rd_T33 ql (wrap64 (x3_2 - 1))).f0) ((rd_T33 ql (wrap64 (x3_2 - 1))).f1) ((rd_T33 ql x3_2).f0) ((rd_T33 ql x3_2).f1)).bind fun t158 => (mooringsref10_May.j3 kj11 x3_2 t158 qa ql ((rd_T33 ql x3_2).f0) ((rd_T33 ql x3_2).f1))) else (none)) else (none))) = some r := by rw [if_neg (show ¬ (false = true) by decide)] at H; exact H
           clear H
           have H := H1
           clear H1
           have HC29 := Ym H
           clear H
           go_upto_region 9 with (fail)
           go_cut [5] (fun v5 wc => ∃ (kq : Nat) (x5_28 : Bool), v5 = .bool x5_28 ∧ Aside0 (mooringsref10_May.j3 kq x3_2 x5_28 qa ql ((rd_T33 ql x3_2).f0) ((rd_T33 ql x3_2).f1) = some r) ∧ Aside0 (kq ≤ kj11) ∧ Aside0 (wc.heap[gb154]? = some (.cells #[.int .i64 qa, (.slice (some ad155) ql.length qc)] 24 (0, 0))) ∧ Aside0 (wc.heap[gb156]? = some (.cells #[.int .i64 ((rd_T33 ql x3_2).f0), .int .i64 ((rd_T33 ql x3_2).f1)] 33 (0, 0))) ∧ Aside0 (Below w.heap.size w wc))
           case first =>
            have H := HC29.out
            clear HC29
            by_cases c30 : x3_2 = 0
            ·rw [if_pos c30] at H
             have c30b0 : (x3_2 == 0) = true := beq_iff_eq.mpr c30
             have c30b1 : (x3_2 != 0) = false := bne_eq_false_iff_eq.mpr c30
             clear c30
             (first | rw [c30b0] | (simp only [i64_w, i32_w]; rw [c30b0]) | skip)
             have H' := Ym H
             clear H
             try go_wp2
             have n0_ := Ym (Yf BK154.out)
             have n1_ := Ym (Yf BK156.out)
             have n2_ := Ym (Yb HB.out)
             clear BK154
             clear BK156
             clear HB
             have BK154 := n0_
             have BK156 := n1_
             have HB := n2_
             clear n0_ n1_ n2_
             refine start_ (n := 13) (S := fun w' => True) (ds := []) #[false, false, false, false, false, false, false, false, false, false, false, false, false] (by kernel_rfl) rfl rfl trivial (fun hHeld => ?_); refine with_tabW mooringsref10_May.tab9 mooringsref10_May.bits9 (fun HT_ HW_ => ?_)
             generalize wc.drew = w31 at BK154 BK156 HB hHeld ⊢
             refine pure_ (i := 0) (N := some 48) (v := ?_) (a' := ?_) #[true, false, false, false, false, false, false, false, false, false, false, false, false] rfl rfl (any_of HT_.out (by kernel_rfl)) (fun _ _ _ h => h) (Or.inl ⟨by rfl, ?_⟩) ?_ ?_
             rotate_left
             ·intro w'
              go_simp
              with_reducible rfl
             rotate_left
             ·simp only [Act.put, Yo, Yp, Yq, i64_w, i32_w]
              rfl
             refine pure_ (i := 1) (N := some 49) (v := ?_) (a' := ?_) #[true, true, false, false, false, false, false, false, false, false, false, false, false] rfl rfl (any_of HT_.out (by kernel_rfl)) (fun _ _ _ h => h) (Or.inl ⟨by rfl, ?_⟩) ?_ ?_
             rotate_left
             ·intro w'
              go_simp
              with_reducible rfl
             rotate_left
             ·simp only [Act.put, Yo, Yp, Yq, i64_w, i32_w]
              rfl
             refine pure_ (i := 2) (N := some 50) (v := ?_) (a' := ?_) #[true, true, true, false, false, false, false, false, false, false, false, false, false] rfl rfl (any_of HT_.out (by kernel_rfl)) (fun _ _ _ h => h) (Or.inl ⟨by rfl, ?_⟩) ?_ ?_
             rotate_left
             ·intro w'
              go_simp
              with_reducible rfl
             rotate_left
             ·simp only [Act.put, Yo, Yp, Yq, i64_w, i32_w]
              rfl
             refine pure_ (i := 3) (N := some 51) (v := undef) (a' := ?_) #[true, true, true, true, false, false, false, false, false, false, false, false, false] rfl rfl (any_of HT_.out (by kernel_rfl)) (fun _ _ _ h => h) (Or.inr ⟨by rfl, rfl⟩) ?_ ?_
             rotate_left
             ·simp only [Act.put, Yo, Yp, Yq, i64_w, i32_w]
              rfl
             refine pure_ (i := 4) (N := some 52) (v := undef) (a' := ?_) #[true, true, true, true, true, false, false, false, false, false, false, false, false] rfl rfl (any_of HT_.out (by kernel_rfl)) (fun _ _ _ h => h) (Or.inr ⟨by rfl, rfl⟩) ?_ ?_
             rotate_left
             ·simp only [Act.put, Yo, Yp, Yq, i64_w, i32_w]
              rfl
             refine pure_ (i := 5) (N := some 53) (v := undef) (a' := ?_) #[true, true, true, true, true, true, false, false, false, false, false, false, false] rfl rfl (any_of HT_.out (by kernel_rfl)) (fun _ _ _ h => h) (Or.inr ⟨by rfl, rfl⟩) ?_ ?_
             rotate_left
             ·simp only [Act.put, Yo, Yp, Yq, i64_w, i32_w]
              rfl
             refine pure_ (i := 6) (N := some 54) (v := undef) (a' := ?_) #[true, true, true, true, true, true, true, false, false, false, false, false, false] rfl rfl (any_of HT_.out (by kernel_rfl)) (fun _ _ _ h => h) (Or.inr ⟨by rfl, rfl⟩) ?_ ?_
             rotate_left
             ·simp only [Act.put, Yo, Yp, Yq, i64_w, i32_w]
              rfl
             refine pure_ (i := 7) (N := some 55) (v := undef) (a' := ?_) #[true, true, true, true, true, true, true, true, false, false, false, false, false] rfl rfl (any_of HT_.out (by kernel_rfl)) (fun _ _ _ h => h) (Or.inr ⟨by rfl, rfl⟩) ?_ ?_
             rotate_left
             ·simp only [Act.put, Yo, Yp, Yq, i64_w, i32_w]
              rfl
             refine pure_ (i := 8) (N := some 56) (v := undef) (a' := ?_) #[true, true, true, true, true, true, true, true, true, false, false, false, false] rfl rfl (any_of HT_.out (by kernel_rfl)) (fun _ _ _ h => h) (Or.inr ⟨by rfl, rfl⟩) ?_ ?_
             rotate_left
             ·simp only [Act.put, Yo, Yp, Yq, i64_w, i32_w]
              rfl
             refine pure_ (i := 9) (N := some 57) (v := undef) (a' := ?_) #[true, true, true, true, true, true, true, true, true, true, false, false, false] rfl rfl (any_of HT_.out (by kernel_rfl)) (fun _ _ _ h => h) (Or.inr ⟨by rfl, rfl⟩) ?_ ?_
             rotate_left
             ·simp only [Act.put, Yo, Yp, Yq, i64_w, i32_w]
              rfl
             refine pure_ (i := 10) (N := some 58) (v := undef) (a' := ?_) #[true, true, true, true, true, true, true, true, true, true, true, false, false] rfl rfl (any_of HT_.out (by kernel_rfl)) (fun _ _ _ h => h) (Or.inr ⟨by rfl, rfl⟩) ?_ ?_
             rotate_left
             ·simp only [Act.put, Yo, Yp, Yq, i64_w, i32_w]
              rfl
             refine pure_ (i := 11) (N := some 59) (v := ?_) (a' := ?_) #[true, true, true, true, true, true, true, true, true, true, true, true, false] rfl rfl (any_of HT_.out (by kernel_rfl)) (fun _ _ _ h => h) (Or.inl ⟨by rfl, ?_⟩) ?_ ?_
             rotate_left
             ·intro w'
              go_simp
              with_reducible rfl
             rotate_left
             ·simp only [Act.put, Yo, Yp, Yq, i64_w, i32_w]
              rfl
             refine pure_ (i := 12) (N := some 5) (v := ?_) (a' := ?_) #[true, true, true, true, true, true, true, true, true, true, true, true, true] rfl rfl (any_of HT_.out (by kernel_rfl)) (fun _ _ _ h => h) (Or.inl ⟨by rfl, ?_⟩) ?_ ?_
             rotate_left
             ·intro w'
              go_simp
              with_reducible rfl
             rotate_left
             ·simp only [Act.put, Yo, Yp, Yq, i64_w, i32_w]
              rfl
             refine done_ (done_of HT_.out (by kernel_rfl)) ?_
             try go_wp2
             go_meet
             case rel => exact ⟨_, (true), (by first | rfl | (simp; done) | (simp [*]; done)), H', ⟨by have := HJ1.out; have := HK2.out; have := HJ11.out; first | omega | exact Nat.le_refl _⟩, ⟨by (with_reducible repeat (first | refine Yd ?_ _ | refine Yf ?_ | refine Ye ?_ _)); exact BK154.out⟩, ⟨by (with_reducible repeat (first | refine Yd ?_ _ | refine Yf ?_ | refine Ye ?_ _)); exact BK156.out⟩, ⟨by repeat (first | (with_reducible first | exact HB.out | apply Yc | apply Ya | apply Yb | refine Yg ?_ GE154.out | refine Yg ?_ GE156.out) | exact HB.out)⟩⟩
            ·rw [if_neg c30] at H
             have c30b0 : (x3_2 == 0) = false := beq_eq_false_iff_ne.mpr c30
             have c30b1 : (x3_2 != 0) = true := bne_iff_ne.mpr c30
             (first | rw [c30b0] | (simp only [i64_w, i32_w]; rw [c30b0]) | skip)
             obtain ⟨ji32, hji32⟩ : ∃ j_ : Int, (wrap64 (x3_2 - 1)) = j_ := ⟨_, rfl⟩
             replace H : (if 0 ≤ (ji32) then (if (ji32) < (ql.length : Int) then ((mooringsref10_before.f ((rd_T33 ql (ji32)).f0) ((rd_T33 ql (ji32)).f1) ((rd_T33 ql x3_2).f0) ((rd_T33 ql x3_2).f1)).bind fun t158 => (mooringsref10_May.j3 kj11 x3_2 t158 qa ql ((rd_T33 ql x3_2).f0) ((rd_T33 ql x3_2).f1))) else (none)) else (none)) = some r := by first | (rw [hji32] at H; exact H) | (simp only [hji32] at H ⊢; exact H)
             have hji32w : (IntKind.i64.wrap (x3_2 - 1)) = ji32 := (i64_w _).trans hji32
             by_cases c33 : 0 ≤ (ji32)
             ·rw [if_pos c33] at H
              have c33b0 : decide (0 ≤ (ji32)) = true := decide_eq_true c33
              clear c33
              by_cases c34 : (ji32) < (ql.length : Int)
              ·rw [if_pos c34] at H
               have c34b0 : decide ((ji32) < (ql.length : Int)) = true := decide_eq_true c34
               clear c34
               replace H := YB.mp H
               obtain ⟨t158, A350, H⟩ := H
               replace H : (mooringsref10_May.j3 kj11 x3_2 t158 qa ql ((rd_T33 ql x3_2).f0) ((rd_T33 ql x3_2).f1)) = some r := H
               have A35 := Ym A350
               clear A350
               have H' := Ym H
               clear H
               try go_wp2
               have n0_ := Ym (Yf BK154.out)
               have n1_ := Ym (Yf BK156.out)
               have n2_ := Ym (Yb HB.out)
               clear BK154
               clear BK156
               clear HB
               have BK154 := n0_
               have BK156 := n1_
               have HB := n2_
               clear n0_ n1_ n2_
               have p157 : 0 ≤ ((ji32) : Int) := YF (by first | (with_reducible assumption) | assumption)
               have q157 : (ji32) < (ql.length : Int) := YF (by first | (with_reducible assumption) | assumption)
               obtain ⟨ad157, e157, hx157_0, hx157_1⟩ := at_T33 HR0_1.out (ji32) p157 q157
               have hw157_1 := hx157_1
               have hw157_0 := hx157_0
               obtain rfl : ad155 = ad157 := (by injection e157)
               replace hx157_0 := (HB.out.cell (YC w _ hx157_0)).trans hx157_0
               replace hx157_1 := (HB.out.cell (YC w _ hx157_1)).trans hx157_1
               replace p157 := eq_true p157
               replace q157 := eq_true q157
               refine start_ (n := 13) (S := fun w' => w'.cell? ⟨gb154, 0, none⟩ = some (.int .i64 qa) ∧ w'.cell? ⟨gb154, 1, none⟩ = some (.slice (some ad155) ql.length qc) ∧ w'.cell? ⟨gb156, 0, none⟩ = some (.int .i64 ((rd_T33 ql x3_2).f0)) ∧ w'.cell? ⟨gb156, 1, none⟩ = some (.int .i64 ((rd_T33 ql x3_2).f1)) ∧ w'.cell? (ad155.add (((ji32)).toNat * 2)) = some (.int .i64 ((rd_T33 ql (ji32)).f0)) ∧ w'.cell? ⟨(ad155.add (((ji32)).toNat * 2)).block, (ad155.add (((ji32)).toNat * 2)).off + 1, none⟩ = some (.int .i64 ((rd_T33 ql (ji32)).f1))) (ds := []) #[false, false, false, false, false, false, false, false, false, false, false, false, false] (by kernel_rfl) rfl rfl ⟨(Yh BK154.out 0).trans rfl, (Yh BK154.out 1).trans rfl, (Yh BK156.out 0).trans rfl, (Yh BK156.out 1).trans rfl, ((HB.out.cell (YC w _ hw157_0)).trans hw157_0), ((HB.out.cell (YC w _ hw157_1)).trans hw157_1)⟩ (fun hHeld => ?_); refine with_tabW mooringsref10_May.tab9 mooringsref10_May.bits9 (fun HT_ HW_ => ?_)
               generalize wc.drew = w36 at BK154 BK156 HB hx157_0 hx157_1 hHeld ⊢
               refine pure_ (i := 0) (N := some 48) (v := ?_) (a' := ?_) #[true, false, false, false, false, false, false, false, false, false, false, false, false] rfl rfl (any_of HT_.out (by kernel_rfl)) (fun _ _ _ h => h) (Or.inl ⟨by rfl, ?_⟩) ?_ ?_
               rotate_left
               ·intro w'
                go_simp
                with_reducible rfl
               rotate_left
               ·simp only [Act.put, Yo, Yp, Yq, i64_w, i32_w]
                rfl
               refine pure_ (i := 1) (N := some 49) (v := ?_) (a' := ?_) #[true, true, false, false, false, false, false, false, false, false, false, false, false] rfl rfl (any_of HT_.out (by kernel_rfl)) (fun _ _ _ h => h) (Or.inl ⟨by rfl, ?_⟩) ?_ ?_
               rotate_left
               ·intro w'
                go_simp
                with_reducible rfl
               rotate_left
               ·simp only [Act.put, Yo, Yp, Yq, i64_w, i32_w]
                rfl
               refine pure_ (i := 2) (N := some 50) (v := ?_) (a' := ?_) #[true, true, true, false, false, false, false, false, false, false, false, false, false] rfl rfl (any_of HT_.out (by kernel_rfl)) (fun _ _ _ h => h) (Or.inl ⟨by rfl, ?_⟩) ?_ ?_
               rotate_left
               ·intro w'
                go_simp
                with_reducible rfl
               rotate_left
               ·simp only [Act.put, Yo, Yp, Yq, i64_w, i32_w]
                rfl
               refine pure_ (i := 3) (N := some 51) (v := ?_) (a' := ?_) #[true, true, true, true, false, false, false, false, false, false, false, false, false] rfl rfl (any_of HT_.out (by kernel_rfl)) (fun _ _ _ h => h) (Or.inl ⟨by rfl, ?_⟩) ?_ ?_
               rotate_left
               ·intro w'
                go_simp
                with_reducible rfl
               rotate_left
               ·simp only [Act.put, Yo, Yp, Yq, i64_w, i32_w]
                rfl
               refine pure_ (i := 5) (N := some 53) (v := ?_) (a' := ?_) #[true, true, true, true, false, true, false, false, false, false, false, false, false] rfl rfl (any_of HT_.out (by kernel_rfl)) (fun _ _ _ h => h) (Or.inl ⟨by rfl, ?_⟩) ?_ ?_
               rotate_left
               ·intro w'
                go_simp
                with_reducible rfl
               rotate_left
               ·simp only [Act.put, Yo, Yp, Yq, i64_w, i32_w]
                rfl
               refine pure_ (i := 6) (N := some 54) (v := ?_) (a' := ?_) #[true, true, true, true, false, true, true, false, false, false, false, false, false] rfl rfl (any_of HT_.out (by kernel_rfl)) (fun _ _ _ h => h) (Or.inl ⟨by rfl, ?_⟩) ?_ ?_
               rotate_left
               ·intro w'
                go_simp
                with_reducible rfl
               rotate_left
               ·simp only [Act.put, Yo, Yp, Yq, i64_w, i32_w]
                rfl
               refine take_ (i := 4) (N := some 52) (v := ?_) (a' := ?_) #[true, true, true, true, true, true, true, false, false, false, false, false, false] rfl rfl (take_ofW HT_.out HW_.out (by kernel_rfl)) (fun _ _ _ h => h) (Or.inl ⟨by rfl, ?_⟩) hHeld ?_ ?_
               rotate_left
               ·rintro w' ⟨s0, s1, s2, s3, s4, s5⟩
                go_simp
                with_reducible rfl
               rotate_left
               ·simp only [Act.put, Yo, Yp, Yq, i64_w, i32_w]
                rfl
               refine pure_ (i := 7) (N := some 55) (v := ?_) (a' := ?_) #[true, true, true, true, true, true, true, true, false, false, false, false, false] rfl rfl (any_of HT_.out (by kernel_rfl)) (fun _ _ _ h => h) (Or.inl ⟨by rfl, ?_⟩) ?_ ?_
               rotate_left
               ·intro w'
                go_simp
                with_reducible rfl
               rotate_left
               ·simp only [Act.put, Yo, Yp, Yq, i64_w, i32_w]
                rfl
               refine take_ (i := 8) (N := some 56) (v := ?_) (a' := ?_) #[true, true, true, true, true, true, true, true, true, false, false, false, false] rfl rfl (take_ofW HT_.out HW_.out (by kernel_rfl)) (fun _ _ _ h => h) (Or.inl ⟨by rfl, ?_⟩) hHeld ?_ ?_
               rotate_left
               ·rintro w' ⟨s0, s1, s2, s3, s4, s5⟩
                go_simp
                with_reducible rfl
               rotate_left
               ·simp only [Act.put, Yo, Yp, Yq, i64_w, i32_w]
                rfl
               refine take_ (i := 9) (N := some 57) (v := ?_) (a' := ?_) #[true, true, true, true, true, true, true, true, true, true, false, false, false] rfl rfl (take_ofW HT_.out HW_.out (by kernel_rfl)) (fun _ _ _ h => h) (Or.inl ⟨by rfl, ?_⟩) hHeld ?_ ?_
               rotate_left
               ·rintro w' ⟨s0, s1, s2, s3, s4, s5⟩
                go_simp
                with_reducible rfl
               rotate_left
               ·simp only [Act.put, Yo, Yp, Yq, i64_w, i32_w]
                rfl
               refine one_ (i := 10) (N := some 58) #[true, true, true, true, true, true, true, true, true, true, true, false, false] rfl rfl (one_of HT_.out (by kernel_rfl)) (by decide) (fun K hK => ?_)
               refine goes_ Try.func33 (by kernel_rfl) rfl #[.agg #[.int .i64 ((rd_T33 ql (ji32)).f0), .int .i64 ((rd_T33 ql (ji32)).f1)], .agg #[.int .i64 ((rd_T33 ql x3_2).f0), .int .i64 ((rd_T33 ql x3_2).f1)]] (by rfl) rfl rfl (by (try simp only [List.map_toArray, List.map_cons, List.map_nil]); first | done | (simp only [hji32]; rfl) | rfl | (simp only [List.length_drop, List.length_take]; rfl)) ?_
               with_reducible refine (mooringsref10_before.calls ((rd_T33 ql (ji32)).f0) ((rd_T33 ql (ji32)).f1) ((rd_T33 ql x3_2).f0) ((rd_T33 ql x3_2).f1) t158 _ A35.out).mono ?_
               rintro e w37 ⟨rfl, hb⟩
               refine ⟨_, rfl, ?_⟩
               have n0_ := Ym (Yl (g := gb154) (o := .cells #[.int .i64 qa, .slice (some ad155) ql.length qc] 24 (0, 0)) (by (with_reducible repeat (first | refine Yd ?_ _ | refine Yf ?_ | refine Ye ?_ _)); exact BK154.out) hb)
               have n1_ := Ym (Yl (g := gb156) (o := .cells #[.int .i64 ((rd_T33 ql x3_2).f0), .int .i64 ((rd_T33 ql x3_2).f1)] 33 (0, 0)) (by (with_reducible repeat (first | refine Yd ?_ _ | refine Yf ?_ | refine Ye ?_ _)); exact BK156.out) hb)
               have n2_ := Ym (Yj (by repeat (first | (with_reducible first | exact HB.out | apply Yc | apply Ya | apply Yb | refine Yg ?_ GE154.out | refine Yg ?_ GE156.out) | exact HB.out)) hb)
               clear BK154
               clear BK156
               clear HB
               have BK154 := n0_
               have BK156 := n1_
               have HB := n2_
               clear n0_ n1_ n2_
               (try clear hb)
               (try clear hb2)
               (try clear hk)
               (try clear hi)
               refine hK.out _ _ ⟨(Yh BK154.out 0).trans rfl, (Yh BK154.out 1).trans rfl, (Yh BK156.out 0).trans rfl, (Yh BK156.out 1).trans rfl, ((HB.out.cell (YC w _ hw157_0)).trans hw157_0), ((HB.out.cell (YC w _ hw157_1)).trans hw157_1)⟩ (fun hHeld => ?_)
               clear hK K
               refine norm_ (a' := ?_) ?_ ?_
               rotate_left
               ·show Act.put _ (some 58) _ = _
                simp only [Act.put, Yo, Yp, Yq, i64_w, i32_w]
                rfl
               refine pure_ (i := 11) (N := some 59) (v := ?_) (a' := ?_) #[true, true, true, true, true, true, true, true, true, true, true, true, false] rfl rfl (any_of HT_.out (by kernel_rfl)) (fun _ _ _ h => h) (Or.inl ⟨by rfl, ?_⟩) ?_ ?_
               rotate_left
               ·intro w'
                go_simp
                with_reducible rfl
               rotate_left
               ·simp only [Act.put, Yo, Yp, Yq, i64_w, i32_w]
                rfl
               refine pure_ (i := 12) (N := some 5) (v := ?_) (a' := ?_) #[true, true, true, true, true, true, true, true, true, true, true, true, true] rfl rfl (any_of HT_.out (by kernel_rfl)) (fun _ _ _ h => h) (Or.inl ⟨by rfl, ?_⟩) ?_ ?_
               rotate_left
               ·intro w'
                go_simp
                with_reducible rfl
               rotate_left
               ·simp only [Act.put, Yo, Yp, Yq, i64_w, i32_w]
                rfl
               refine done_ (done_of HT_.out (by kernel_rfl)) ?_
               try go_wp2
               go_meet
               case rel => exact ⟨_, (t158), (by first | rfl | (simp; done) | (simp [*]; done)), H', ⟨by have := HJ1.out; have := HK2.out; have := HJ11.out; first | omega | exact Nat.le_refl _⟩, ⟨by (with_reducible repeat (first | refine Yd ?_ _ | refine Yf ?_ | refine Ye ?_ _)); exact BK154.out⟩, ⟨by (with_reducible repeat (first | refine Yd ?_ _ | refine Yf ?_ | refine Ye ?_ _)); exact BK156.out⟩, ⟨by repeat (first | (with_reducible first | exact HB.out | apply Yc | apply Ya | apply Yb | refine Yg ?_ GE154.out | refine Yg ?_ GE156.out) | exact HB.out)⟩⟩
              ·rw [if_neg c34] at H
               exact absurd H (by simp)
             ·rw [if_neg c33] at H
              exact absurd H (by simp)
           case rest =>
            clear HC29
            try clear c1
            try clear p1
            try clear q1
            try clear hx1
            try clear c2
            try clear p2
            try clear c3
            try clear c4
            try clear c4b0
            try clear c6
            try clear c6b0
            try clear p6
            try clear c9
            try clear c10
            try clear c10b0
            try clear c11
            try clear c11b0
            try clear c15
            try clear p15
            try clear q15
            try clear hx15
            try clear c17
            try clear c17b0
            try clear c18
            try clear c21
            try clear c21b0
            try clear c22
            try clear c25
            try clear c28
            try clear c30
            try clear c30b0
            try clear c30b1
            try clear c33
            try clear c33b0
            try clear c34
            try clear c34b0
            try clear hcz13_0
            try clear hcz13_1
            try clear hcz16_0
            try clear hcz16_1
            try clear hcz19_0
            try clear hcz19_1
            try clear hcz20_0
            try clear hcz20_1
            try clear hcz23_0
            try clear hcz23_1
            try clear hcz24_0
            try clear hcz24_1
            try clear hcz26_0
            try clear hcz26_1
            try clear hcz27_0
            try clear hcz27_1
            try clear hcz5_0
            try clear hcz5_1
            try clear hcz7_0
            try clear hcz7_1
            try clear hcz8_0
            try clear hcz8_1
            try clear hfz13_0
            try clear hfz13_1
            try clear hfz16_0
            try clear hfz16_1
            try clear hfz19_0
            try clear hfz19_1
            try clear hfz20_0
            try clear hfz20_1
            try clear hfz23_0
            try clear hfz23_1
            try clear hfz24_0
            try clear hfz24_1
            try clear hfz26_0
            try clear hfz26_1
            try clear hfz27_0
            try clear hfz27_1
            try clear hfz5_0
            try clear hfz5_1
            try clear hfz7_0
            try clear hfz7_1
            try clear hfz8_0
            try clear hfz8_1
            try clear hx155_0
            try clear hx155_1
            try clear hx157_0
            try clear hx157_1
            try clear p1
            try clear p15
            try clear p155
            try clear p157
            try clear p2
            try clear q1
            try clear q15
            try clear q155
            try clear q157
            obtain ⟨kq, x5_28, rfl, HA, HJ28, BK154, BK156, HB⟩ := hcut
            cases kq with
            |zero => exact absurd HA.out (by simp [mooringsref10_May.j3])
            |succ kj28 =>
             have H := HA.out
             clear HA
             simp only [mooringsref10_May.j3] at H
             by_cases c38 : x5_28 = true
             ·subst c38
              have H1 : (mooringsref10_May.l1 kj28 x3_2 0 qa ql ((rd_T33 ql x3_2).f0) ((rd_T33 ql x3_2).f1)) = some r := by rw [if_pos rfl] at H; exact H
              clear H
              have H := H1
              clear H1
              have H' := Ym H
              clear H
              go_wp2
              go_loopg [6] kj28 (fun kq v6 w' => ∃ (x6_5 : Int), v6 = .int .i64 x6_5 ∧ Aside0 (mooringsref10_May.l1 kq x3_2 x6_5 qa ql ((rd_T33 ql x3_2).f0) ((rd_T33 ql x3_2).f1) = some r) ∧ Aside0 (kq ≤ kj28) ∧ Aside0 (w'.heap[gb154]? = some (.cells #[.int .i64 qa, (.slice (some ad155) ql.length qc)] 24 (0, 0))) ∧ Aside0 (w'.heap[gb156]? = some (.cells #[.int .i64 ((rd_T33 ql x3_2).f0), .int .i64 ((rd_T33 ql x3_2).f1)] 33 (0, 0))) ∧ Aside0 (Below w.heap.size w w'))
              case atStart => exact ⟨(0), (by first | rfl | (simp; done) | (simp [*]; done)), H', ⟨Nat.le_refl _⟩, ⟨by (with_reducible repeat (first | refine Yd ?_ _ | refine Yf ?_ | refine Ye ?_ _)); exact BK154.out⟩, ⟨by (with_reducible repeat (first | refine Yd ?_ _ | refine Yf ?_ | refine Ye ?_ _)); exact BK156.out⟩, ⟨by repeat (first | (with_reducible first | exact HB.out | apply Yc | apply Ya | apply Yb | refine Yg ?_ GE154.out | refine Yg ?_ GE156.out) | exact HB.out)⟩⟩
              case round =>
               clear H'
               try clear c1
               try clear p1
               try clear q1
               try clear hx1
               try clear c2
               try clear p2
               try clear c3
               try clear c4
               try clear c4b0
               try clear c6
               try clear c6b0
               try clear p6
               try clear c9
               try clear c10
               try clear c10b0
               try clear c11
               try clear c11b0
               try clear c15
               try clear p15
               try clear q15
               try clear hx15
               try clear c17
               try clear c17b0
               try clear c18
               try clear c21
               try clear c21b0
               try clear c22
               try clear c25
               try clear c28
               try clear c30
               try clear c30b0
               try clear c30b1
               try clear c33
               try clear c33b0
               try clear c34
               try clear c34b0
               try clear c38
               try clear hcz13_0
               try clear hcz13_1
               try clear hcz16_0
               try clear hcz16_1
               try clear hcz19_0
               try clear hcz19_1
               try clear hcz20_0
               try clear hcz20_1
               try clear hcz23_0
               try clear hcz23_1
               try clear hcz24_0
               try clear hcz24_1
               try clear hcz26_0
               try clear hcz26_1
               try clear hcz27_0
               try clear hcz27_1
               try clear hcz5_0
               try clear hcz5_1
               try clear hcz7_0
               try clear hcz7_1
               try clear hcz8_0
               try clear hcz8_1
               try clear hfz13_0
               try clear hfz13_1
               try clear hfz16_0
               try clear hfz16_1
               try clear hfz19_0
               try clear hfz19_1
               try clear hfz20_0
               try clear hfz20_1
               try clear hfz23_0
               try clear hfz23_1
               try clear hfz24_0
               try clear hfz24_1
               try clear hfz26_0
               try clear hfz26_1
               try clear hfz27_0
               try clear hfz27_1
               try clear hfz5_0
               try clear hfz5_1
               try clear hfz7_0
               try clear hfz7_1
               try clear hfz8_0
               try clear hfz8_1
               try clear hx155_0
               try clear hx155_1
               try clear hx157_0
               try clear hx157_1
               try clear p1
               try clear p15
               try clear p155
               try clear p157
               try clear p2
               try clear p6
               try clear q1
               try clear q15
               try clear q155
               try clear q157
               obtain ⟨x6_5, rfl, HA, HK5, BK154, BK156, HB⟩ := hrel
               cases gk with
               |zero => exact absurd HA.out (by simp [mooringsref10_May.l1])
               |succ k5 =>
                have H := HA.out
                clear HA
                simp only [mooringsref10_May.l1] at H
                by_cases c39 : x6_5 < x3_2
                ·rw [if_pos c39] at H
                 have c39b0 : decide (x6_5 < x3_2) = true := decide_eq_true c39
                 clear c39
                 by_cases c40 : 0 ≤ x6_5
                 ·rw [if_pos c40] at H
                  have c40b0 : decide (0 ≤ x6_5) = true := decide_eq_true c40
                  clear c40
                  by_cases c41 : x6_5 < (ql.length : Int)
                  ·rw [if_pos c41] at H
                   have c41b0 : decide (x6_5 < (ql.length : Int)) = true := decide_eq_true c41
                   clear c41
                   by_cases c42 : ((rd_T33 ql x6_5).f0) = ((rd_T33 ql x3_2).f0)
                   ·rw [if_pos c42] at H
                    have c42b0 : (((rd_T33 ql x6_5).f0) == ((rd_T33 ql x3_2).f0)) = true := beq_iff_eq.mpr c42
                    have c42b1 : (((rd_T33 ql x6_5).f0) != ((rd_T33 ql x3_2).f0)) = false := bne_eq_false_iff_eq.mpr c42
                    clear c42
                    obtain rfl := Option.some.inj H
                    try go_wp2
                    have n0_ := Ym (Yf BK154.out)
                    have n1_ := Ym (Yf BK156.out)
                    have n2_ := Ym (Yb HB.out)
                    clear BK154
                    clear BK156
                    clear HB
                    have BK154 := n0_
                    have BK156 := n1_
                    have HB := n2_
                    clear n0_ n1_ n2_
                    have p159 : 0 ≤ (x6_5 : Int) := YF (by first | (with_reducible assumption) | assumption)
                    have q159 : x6_5 < (ql.length : Int) := YF (by first | (with_reducible assumption) | assumption)
                    obtain ⟨ad159, e159, hx159_0, hx159_1⟩ := at_T33 HR0_1.out x6_5 p159 q159
                    have hw159_1 := hx159_1
                    have hw159_0 := hx159_0
                    obtain rfl : ad155 = ad159 := (by injection e159)
                    replace hx159_0 := (HB.out.cell (YC w _ hx159_0)).trans hx159_0
                    replace hx159_1 := (HB.out.cell (YC w _ hx159_1)).trans hx159_1
                    replace p159 := eq_true p159
                    replace q159 := eq_true q159
                    refine start_ (n := 9) (S := fun w' => w'.cell? ⟨gb154, 0, none⟩ = some (.int .i64 qa) ∧ w'.cell? ⟨gb154, 1, none⟩ = some (.slice (some ad155) ql.length qc) ∧ w'.cell? ⟨gb156, 0, none⟩ = some (.int .i64 ((rd_T33 ql x3_2).f0)) ∧ w'.cell? ⟨gb156, 1, none⟩ = some (.int .i64 ((rd_T33 ql x3_2).f1)) ∧ w'.cell? (ad155.add ((x6_5).toNat * 2)) = some (.int .i64 ((rd_T33 ql x6_5).f0)) ∧ w'.cell? ⟨(ad155.add ((x6_5).toNat * 2)).block, (ad155.add ((x6_5).toNat * 2)).off + 1, none⟩ = some (.int .i64 ((rd_T33 ql x6_5).f1))) (ds := []) #[false, false, false, false, false, false, false, false, false] (by kernel_rfl) rfl rfl ⟨(Yh BK154.out 0).trans rfl, (Yh BK154.out 1).trans rfl, (Yh BK156.out 0).trans rfl, (Yh BK156.out 1).trans rfl, ((HB.out.cell (YC w _ hw159_0)).trans hw159_0), ((HB.out.cell (YC w _ hw159_1)).trans hw159_1)⟩ (fun hHeld => ?_); refine with_tabW mooringsref10_May.tab15 mooringsref10_May.bits15 (fun HT_ HW_ => ?_)
                    generalize wr.drew = w43 at BK154 BK156 HB hx159_0 hx159_1 hHeld ⊢
                    refine pure_ (i := 0) (N := some 67) (v := ?_) (a' := ?_) #[true, false, false, false, false, false, false, false, false] rfl rfl (any_of HT_.out (by kernel_rfl)) (fun _ _ _ h => h) (Or.inl ⟨by rfl, ?_⟩) ?_ ?_
                    rotate_left
                    ·intro w'
                     go_simp
                     with_reducible rfl
                    rotate_left
                    ·simp only [Act.put, Yo, Yp, Yq, i64_w, i32_w]
                     rfl
                    refine pure_ (i := 2) (N := some 69) (v := ?_) (a' := ?_) #[true, false, true, false, false, false, false, false, false] rfl rfl (any_of HT_.out (by kernel_rfl)) (fun _ _ _ h => h) (Or.inl ⟨by rfl, ?_⟩) ?_ ?_
                    rotate_left
                    ·intro w'
                     go_simp
                     with_reducible rfl
                    rotate_left
                    ·simp only [Act.put, Yo, Yp, Yq, i64_w, i32_w]
                     rfl
                    refine pure_ (i := 6) (N := some 73) (v := ?_) (a' := ?_) #[true, false, true, false, false, false, true, false, false] rfl rfl (any_of HT_.out (by kernel_rfl)) (fun _ _ _ h => h) (Or.inl ⟨by rfl, ?_⟩) ?_ ?_
                    rotate_left
                    ·intro w'
                     go_simp
                     with_reducible rfl
                    rotate_left
                    ·simp only [Act.put, Yo, Yp, Yq, i64_w, i32_w]
                     rfl
                    refine take_ (i := 1) (N := some 68) (v := ?_) (a' := ?_) #[true, true, true, false, false, false, true, false, false] rfl rfl (take_ofW HT_.out HW_.out (by kernel_rfl)) (fun _ _ _ h => h) (Or.inl ⟨by rfl, ?_⟩) hHeld ?_ ?_
                    rotate_left
                    ·rintro w' ⟨s0, s1, s2, s3, s4, s5⟩
                     go_simp
                     with_reducible rfl
                    rotate_left
                    ·simp only [Act.put, Yo, Yp, Yq, i64_w, i32_w]
                     rfl
                    refine pure_ (i := 3) (N := some 70) (v := ?_) (a' := ?_) #[true, true, true, true, false, false, true, false, false] rfl rfl (any_of HT_.out (by kernel_rfl)) (fun _ _ _ h => h) (Or.inl ⟨by rfl, ?_⟩) ?_ ?_
                    rotate_left
                    ·intro w'
                     go_simp
                     with_reducible rfl
                    rotate_left
                    ·simp only [Act.put, Yo, Yp, Yq, i64_w, i32_w]
                     rfl
                    refine pure_ (i := 4) (N := some 71) (v := ?_) (a' := ?_) #[true, true, true, true, true, false, true, false, false] rfl rfl (any_of HT_.out (by kernel_rfl)) (fun _ _ _ h => h) (Or.inl ⟨by rfl, ?_⟩) ?_ ?_
                    rotate_left
                    ·intro w'
                     go_simp
                     with_reducible rfl
                    rotate_left
                    ·simp only [Act.put, Yo, Yp, Yq, i64_w, i32_w]
                     rfl
                    refine take_ (i := 5) (N := some 72) (v := ?_) (a' := ?_) #[true, true, true, true, true, true, true, false, false] rfl rfl (take_ofW HT_.out HW_.out (by kernel_rfl)) (fun _ _ _ h => h) (Or.inl ⟨by rfl, ?_⟩) hHeld ?_ ?_
                    rotate_left
                    ·rintro w' ⟨s0, s1, s2, s3, s4, s5⟩
                     go_simp
                     with_reducible rfl
                    rotate_left
                    ·simp only [Act.put, Yo, Yp, Yq, i64_w, i32_w]
                     rfl
                    refine take_ (i := 7) (N := some 74) (v := ?_) (a' := ?_) #[true, true, true, true, true, true, true, true, false] rfl rfl (take_ofW HT_.out HW_.out (by kernel_rfl)) (fun _ _ _ h => h) (Or.inl ⟨by rfl, ?_⟩) hHeld ?_ ?_
                    rotate_left
                    ·rintro w' ⟨s0, s1, s2, s3, s4, s5⟩
                     go_simp
                     with_reducible rfl
                    rotate_left
                    ·simp only [Act.put, Yo, Yp, Yq, i64_w, i32_w]
                     rfl
                    refine pure_ (i := 8) (N := some 75) (v := ?_) (a' := ?_) #[true, true, true, true, true, true, true, true, true] rfl rfl (any_of HT_.out (by kernel_rfl)) (fun _ _ _ h => h) (Or.inl ⟨by rfl, ?_⟩) ?_ ?_
                    rotate_left
                    ·intro w'
                     go_simp
                     with_reducible rfl
                    rotate_left
                    ·simp only [Act.put, Yo, Yp, Yq, i64_w, i32_w]
                     rfl
                    refine done_ (done_of HT_.out (by kernel_rfl)) ?_
                    try go_wp2
                    go_ret
                    exact ⟨by first | rfl | (simp [errW_none, errW_some] <;> rfl) | (simp [*, errW_none, errW_some] <;> rfl), by repeat (first | (with_reducible first | exact HB.out | apply Yc | apply Ya | apply Yb | refine Yg ?_ GE154.out | refine Yg ?_ GE156.out) | exact HB.out)⟩
                   ·rw [if_neg c42] at H
                    have c42b0 : (((rd_T33 ql x6_5).f0) == ((rd_T33 ql x3_2).f0)) = false := beq_eq_false_iff_ne.mpr c42
                    have c42b1 : (((rd_T33 ql x6_5).f0) != ((rd_T33 ql x3_2).f0)) = true := bne_iff_ne.mpr c42
                    have H' := Ym H
                    clear H
                    try go_wp2
                    have n0_ := Ym (Yf BK154.out)
                    have n1_ := Ym (Yf BK156.out)
                    have n2_ := Ym (Yb HB.out)
                    clear BK154
                    clear BK156
                    clear HB
                    have BK154 := n0_
                    have BK156 := n1_
                    have HB := n2_
                    clear n0_ n1_ n2_
                    have p159 : 0 ≤ (x6_5 : Int) := YF (by first | (with_reducible assumption) | assumption)
                    have q159 : x6_5 < (ql.length : Int) := YF (by first | (with_reducible assumption) | assumption)
                    obtain ⟨ad159, e159, hx159_0, hx159_1⟩ := at_T33 HR0_1.out x6_5 p159 q159
                    have hw159_1 := hx159_1
                    have hw159_0 := hx159_0
                    obtain rfl : ad155 = ad159 := (by injection e159)
                    replace hx159_0 := (HB.out.cell (YC w _ hx159_0)).trans hx159_0
                    replace hx159_1 := (HB.out.cell (YC w _ hx159_1)).trans hx159_1
                    replace p159 := eq_true p159
                    replace q159 := eq_true q159
                    refine start_ (n := 9) (S := fun w' => w'.cell? ⟨gb154, 0, none⟩ = some (.int .i64 qa) ∧ w'.cell? ⟨gb154, 1, none⟩ = some (.slice (some ad155) ql.length qc) ∧ w'.cell? ⟨gb156, 0, none⟩ = some (.int .i64 ((rd_T33 ql x3_2).f0)) ∧ w'.cell? ⟨gb156, 1, none⟩ = some (.int .i64 ((rd_T33 ql x3_2).f1)) ∧ w'.cell? (ad155.add ((x6_5).toNat * 2)) = some (.int .i64 ((rd_T33 ql x6_5).f0)) ∧ w'.cell? ⟨(ad155.add ((x6_5).toNat * 2)).block, (ad155.add ((x6_5).toNat * 2)).off + 1, none⟩ = some (.int .i64 ((rd_T33 ql x6_5).f1))) (ds := []) #[false, false, false, false, false, false, false, false, false] (by kernel_rfl) rfl rfl ⟨(Yh BK154.out 0).trans rfl, (Yh BK154.out 1).trans rfl, (Yh BK156.out 0).trans rfl, (Yh BK156.out 1).trans rfl, ((HB.out.cell (YC w _ hw159_0)).trans hw159_0), ((HB.out.cell (YC w _ hw159_1)).trans hw159_1)⟩ (fun hHeld => ?_); refine with_tabW mooringsref10_May.tab15 mooringsref10_May.bits15 (fun HT_ HW_ => ?_)
                    generalize wr.drew = w44 at BK154 BK156 HB hx159_0 hx159_1 hHeld ⊢
                    refine pure_ (i := 0) (N := some 67) (v := ?_) (a' := ?_) #[true, false, false, false, false, false, false, false, false] rfl rfl (any_of HT_.out (by kernel_rfl)) (fun _ _ _ h => h) (Or.inl ⟨by rfl, ?_⟩) ?_ ?_
                    rotate_left
                    ·intro w'
                     go_simp
                     with_reducible rfl
                    rotate_left
                    ·simp only [Act.put, Yo, Yp, Yq, i64_w, i32_w]
                     rfl
                    refine pure_ (i := 2) (N := some 69) (v := ?_) (a' := ?_) #[true, false, true, false, false, false, false, false, false] rfl rfl (any_of HT_.out (by kernel_rfl)) (fun _ _ _ h => h) (Or.inl ⟨by rfl, ?_⟩) ?_ ?_
                    rotate_left
                    ·intro w'
                     go_simp
                     with_reducible rfl
                    rotate_left
                    ·simp only [Act.put, Yo, Yp, Yq, i64_w, i32_w]
                     rfl
                    refine pure_ (i := 6) (N := some 73) (v := ?_) (a' := ?_) #[true, false, true, false, false, false, true, false, false] rfl rfl (any_of HT_.out (by kernel_rfl)) (fun _ _ _ h => h) (Or.inl ⟨by rfl, ?_⟩) ?_ ?_
                    rotate_left
                    ·intro w'
                     go_simp
                     with_reducible rfl
                    rotate_left
                    ·simp only [Act.put, Yo, Yp, Yq, i64_w, i32_w]
                     rfl
                    refine take_ (i := 1) (N := some 68) (v := ?_) (a' := ?_) #[true, true, true, false, false, false, true, false, false] rfl rfl (take_ofW HT_.out HW_.out (by kernel_rfl)) (fun _ _ _ h => h) (Or.inl ⟨by rfl, ?_⟩) hHeld ?_ ?_
                    rotate_left
                    ·rintro w' ⟨s0, s1, s2, s3, s4, s5⟩
                     go_simp
                     with_reducible rfl
                    rotate_left
                    ·simp only [Act.put, Yo, Yp, Yq, i64_w, i32_w]
                     rfl
                    refine pure_ (i := 3) (N := some 70) (v := ?_) (a' := ?_) #[true, true, true, true, false, false, true, false, false] rfl rfl (any_of HT_.out (by kernel_rfl)) (fun _ _ _ h => h) (Or.inl ⟨by rfl, ?_⟩) ?_ ?_
                    rotate_left
                    ·intro w'
                     go_simp
                     with_reducible rfl
                    rotate_left
                    ·simp only [Act.put, Yo, Yp, Yq, i64_w, i32_w]
                     rfl
                    refine pure_ (i := 4) (N := some 71) (v := ?_) (a' := ?_) #[true, true, true, true, true, false, true, false, false] rfl rfl (any_of HT_.out (by kernel_rfl)) (fun _ _ _ h => h) (Or.inl ⟨by rfl, ?_⟩) ?_ ?_
                    rotate_left
                    ·intro w'
                     go_simp
                     with_reducible rfl
                    rotate_left
                    ·simp only [Act.put, Yo, Yp, Yq, i64_w, i32_w]
                     rfl
                    refine take_ (i := 5) (N := some 72) (v := ?_) (a' := ?_) #[true, true, true, true, true, true, true, false, false] rfl rfl (take_ofW HT_.out HW_.out (by kernel_rfl)) (fun _ _ _ h => h) (Or.inl ⟨by rfl, ?_⟩) hHeld ?_ ?_
                    rotate_left
                    ·rintro w' ⟨s0, s1, s2, s3, s4, s5⟩
                     go_simp
                     with_reducible rfl
                    rotate_left
                    ·simp only [Act.put, Yo, Yp, Yq, i64_w, i32_w]
                     rfl
                    refine take_ (i := 7) (N := some 74) (v := ?_) (a' := ?_) #[true, true, true, true, true, true, true, true, false] rfl rfl (take_ofW HT_.out HW_.out (by kernel_rfl)) (fun _ _ _ h => h) (Or.inl ⟨by rfl, ?_⟩) hHeld ?_ ?_
                    rotate_left
                    ·rintro w' ⟨s0, s1, s2, s3, s4, s5⟩
                     go_simp
                     with_reducible rfl
                    rotate_left
                    ·simp only [Act.put, Yo, Yp, Yq, i64_w, i32_w]
                     rfl
                    refine pure_ (i := 8) (N := some 75) (v := ?_) (a' := ?_) #[true, true, true, true, true, true, true, true, true] rfl rfl (any_of HT_.out (by kernel_rfl)) (fun _ _ _ h => h) (Or.inl ⟨by rfl, ?_⟩) ?_ ?_
                    rotate_left
                    ·intro w'
                     go_simp
                     with_reducible rfl
                    rotate_left
                    ·simp only [Act.put, Yo, Yp, Yq, i64_w, i32_w]
                     rfl
                    refine done_ (done_of HT_.out (by kernel_rfl)) ?_
                    try go_wp2
                    go_roundg k5
                    case measure => have := HJ1.out; have := HK2.out; have := HJ11.out; have := HJ28.out; have := HK5.out; omega
                    case rel => exact ⟨(wrap64 (x6_5 + 1)), (by first | rfl | (simp; done) | (simp [*]; done)), H', ⟨by have := HJ1.out; have := HK2.out; have := HJ11.out; have := HJ28.out; have := HK5.out; omega⟩, ⟨by (with_reducible repeat (first | refine Yd ?_ _ | refine Yf ?_ | refine Ye ?_ _)); exact BK154.out⟩, ⟨by (with_reducible repeat (first | refine Yd ?_ _ | refine Yf ?_ | refine Ye ?_ _)); exact BK156.out⟩, ⟨by repeat (first | (with_reducible first | exact HB.out | apply Yc | apply Ya | apply Yb | refine Yg ?_ GE154.out | refine Yg ?_ GE156.out) | exact HB.out)⟩⟩
                  ·rw [if_neg c41] at H
                   exact absurd H (by simp)
                 ·rw [if_neg c40] at H
                  exact absurd H (by simp)
                ·rw [if_neg c39] at H
                 have c39b0 : decide (x6_5 < x3_2) = false := decide_eq_false c39
                 clear c39
                 have H' := Ym H
                 clear H
                 go_wp2
                 go_roundg k5
                 case measure => have := HJ1.out; have := HK2.out; have := HJ11.out; have := HJ28.out; have := HK5.out; omega
                 case rel => exact ⟨(wrap64 (x3_2 + 1)), (by first | rfl | (simp; done) | (simp [*]; done)), H', ⟨by have := HJ1.out; have := HK2.out; have := HJ11.out; have := HJ28.out; have := HK5.out; omega⟩, ⟨by (with_reducible repeat (first | refine Yd ?_ _ | refine Yf ?_ | refine Ye ?_ _)); exact BK154.out⟩, ⟨by repeat (first | (with_reducible first | exact HB.out | apply Yc | apply Ya | apply Yb | refine Yg ?_ GE154.out | refine Yg ?_ GE156.out) | exact HB.out)⟩⟩
             ·replace c38 := Bool.eq_false_iff.mpr c38
              subst c38
              have H1 : (some false) = some r := by rw [if_neg (show ¬ (false = true) by decide)] at H; exact H
              clear H
              have H := H1
              clear H1
              obtain rfl := Option.some.inj H
              go_wp2
              go_ret
              exact ⟨by first | rfl | (simp [errW_none, errW_some] <;> rfl) | (simp [*, errW_none, errW_some] <;> rfl), by repeat (first | (with_reducible first | exact HB.out | apply Yc | apply Ya | apply Yb | refine Yg ?_ GE154.out | refine Yg ?_ GE156.out) | exact HB.out)⟩
       ·rw [if_neg c11] at H
        exact absurd H (by simp)
      ·rw [if_neg c10] at H
       have c10b0 : decide (x3_2 < (ql.length : Int)) = false := decide_eq_false c10
       clear c10
       obtain rfl := Option.some.inj H
       have hcz45_0 : wr.cell? ⟨gb154, 0, none⟩ = some (.int .i64 qa) := (Yh BK154.out 0).trans rfl
       have hcz45_1 : wr.cell? ⟨gb154, 1, none⟩ = some (.slice qA ql.length qc) := (Yh BK154.out 1).trans rfl
       have hfz45_0 := Yi BK154.out 0
       have hfz45_1 := Yi BK154.out 1
       go_wp2
       go_ret
       exact ⟨by first | rfl | (simp [errW_none, errW_some] <;> rfl) | (simp [*, errW_none, errW_some] <;> rfl), by repeat (first | (with_reducible first | exact HB.out | apply Yc | apply Ya | apply Yb | refine Yg ?_ GE154.out) | exact HB.out)⟩

end
end Go.Proofs.Ytggkealdbebbkaa.P
