-- Laid by this session's own program (wip/myprint.py): Lean functions for the Go functions that a law reaches, and their contracts. Not trusted: Lean checks it. (slimmed by wip/slim08.py)
import Derived.Test.YtfkdflhijfkjoaaP0
import Derived.Test.YtfkdflhijfkjoaaP14
namespace Go.Proofs.Ytfkdflhijfkjoaa.P
open Go.RowKit Go.Proofs.YtfkdflhijfkjoaaW.PrintWords Go.Proofs.YtfkdflhijfkjoaaW.PrintLast Go.Proofs.YtfkdflhijfkjoaaW.PrintMore
attribute [local go_sem] max2_int min2_int max_two min_two max_three min_three max_four min_four   -- for this text's walks alone
set_option linter.unusedVariables false
set_option linter.unusedSimpArgs false

/-! ### mooringsref08_Who: function 18 -/
mutual
def mooringsref08_Who.l0 : Nat → Int → Int → Int → Int → Int → Int → Int → Int → Int → Int → Int → Option (Int)
 | 0, _, _, _, _, _, _, _, _, _, _, _ => none
 | k + 1, x1, x2, x7, x186000, x186001, x186002, x186003, x186004, x186005, x186006, x186007 => if x7 < 32 then ((mooringsref08_Base.f k x186000 x186001 x186002 x186003 x186004 x186005 x186006 x186007 x7).bind fun bt186 => (if bt186.2.2.2 = true then (if bt186.1 = x1 then (if x2 ≥ bt186.2.1 then (mooringsref08_Who.j1 k x1 x2 x7 (decide (x2 ≤ bt186.2.2.1)) x186000 x186001 x186002 x186003 x186004 x186005 x186006 x186007) else (mooringsref08_Who.j1 k x1 x2 x7 false x186000 x186001 x186002 x186003 x186004 x186005 x186006 x186007)) else (mooringsref08_Who.j1 k x1 x2 x7 false x186000 x186001 x186002 x186003 x186004 x186005 x186006 x186007)) else (mooringsref08_Who.j1 k x1 x2 x7 false x186000 x186001 x186002 x186003 x186004 x186005 x186006 x186007))) else (some (-1))
def mooringsref08_Who.j1 : Nat → Int → Int → Int → Bool → Int → Int → Int → Int → Int → Int → Int → Int → Option (Int)
 | 0, _, _, _, _, _, _, _, _, _, _, _, _ => none
 | k + 1, x1, x2, x7, x38, x186000, x186001, x186002, x186003, x186004, x186005, x186006, x186007 => if x38 = true then (some x7) else (mooringsref08_Who.l0 k x1 x2 (wrap64 (x7 + 1)) x186000 x186001 x186002 x186003 x186004 x186005 x186006 x186007)
end
def mooringsref08_Who.f (k : Nat) (q0 : Int) (q1 : Int) (q2 : Int) (q3 : Int) (q4 : Int) (q5 : Int) (q6 : Int) (q7 : Int) (a1 : Int) (a2 : Int) : Option (Int) := mooringsref08_Who.l0 k a1 a2 0 q0 q1 q2 q3 q4 q5 q6 q7
theorem mooringsref08_Who.mono_l : ∀ k, (∀ y0 y1 y2 y3 y4 y5 y6 y7 y8 y9 y10, LeO (mooringsref08_Who.l0 k y0 y1 y2 y3 y4 y5 y6 y7 y8 y9 y10) (mooringsref08_Who.l0 (k + 1) y0 y1 y2 y3 y4 y5 y6 y7 y8 y9 y10)) ∧ (∀ y0 y1 y2 y3 y4 y5 y6 y7 y8 y9 y10 y11, LeO (mooringsref08_Who.j1 k y0 y1 y2 y3 y4 y5 y6 y7 y8 y9 y10 y11) (mooringsref08_Who.j1 (k + 1) y0 y1 y2 y3 y4 y5 y6 y7 y8 y9 y10 y11))
 | 0 => ⟨fun _ _ _ _ _ _ _ _ _ _ _ r h => by simp [mooringsref08_Who.l0] at h, fun _ _ _ _ _ _ _ _ _ _ _ _ r h => by simp [mooringsref08_Who.j1] at h⟩
 | k + 1 => by
  obtain ⟨ih0, ih1⟩ := mooringsref08_Who.mono_l k
  refine ⟨?_, ?_⟩
  ·intro y0 y1 y2 y3 y4 y5 y6 y7 y8 y9 y10
   unfold mooringsref08_Who.l0
   repeat' first
   | (with_reducible exact ih0 _ _ _ _ _ _ _ _ _ _ _)
   | (with_reducible exact ih1 _ _ _ _ _ _ _ _ _ _ _ _)
   | (with_reducible exact mooringsref08_Base.mono _ _ _ _ _ _ _ _ _ _)
   | (with_reducible exact LeO.refl _)
   | (with_reducible exact LeO.none _)
   | (with_reducible refine LeO.ite ?_ ?_)
   | (with_reducible refine LeO.bind ?_ (fun _ => ?_))
   | exact ih0 _ _ _ _ _ _ _ _ _ _ _
   | exact ih1 _ _ _ _ _ _ _ _ _ _ _ _
   | exact mooringsref08_Base.mono _ _ _ _ _ _ _ _ _ _
   | exact LeO.none _
   | refine LeO.ite ?_ ?_
   | refine LeO.bind ?_ (fun _ => ?_)
  ·intro y0 y1 y2 y3 y4 y5 y6 y7 y8 y9 y10 y11
   unfold mooringsref08_Who.j1
   repeat' first
   | (with_reducible exact ih0 _ _ _ _ _ _ _ _ _ _ _)
   | (with_reducible exact ih1 _ _ _ _ _ _ _ _ _ _ _ _)
   | (with_reducible exact mooringsref08_Base.mono _ _ _ _ _ _ _ _ _ _)
   | (with_reducible exact LeO.refl _)
   | (with_reducible exact LeO.none _)
   | (with_reducible refine LeO.ite ?_ ?_)
   | (with_reducible refine LeO.bind ?_ (fun _ => ?_))
   | exact ih0 _ _ _ _ _ _ _ _ _ _ _
   | exact ih1 _ _ _ _ _ _ _ _ _ _ _ _
   | exact mooringsref08_Base.mono _ _ _ _ _ _ _ _ _ _
   | exact LeO.none _
   | refine LeO.ite ?_ ?_
   | refine LeO.bind ?_ (fun _ => ?_)
theorem mooringsref08_Who.mono : ∀ a0 a1 a2 a3 a4 a5 a6 a7 a8 a9 k, LeO (mooringsref08_Who.f k a0 a1 a2 a3 a4 a5 a6 a7 a8 a9) (mooringsref08_Who.f (k + 1) a0 a1 a2 a3 a4 a5 a6 a7 a8 a9) := by
 intro a0 a1 a2 a3 a4 a5 a6 a7 a8 a9 k
 obtain ⟨ih0, ih1⟩ := mooringsref08_Who.mono_l k
 unfold mooringsref08_Who.f
 repeat' first
   | (with_reducible exact ih0 _ _ _ _ _ _ _ _ _ _ _)
   | (with_reducible exact ih1 _ _ _ _ _ _ _ _ _ _ _ _)
   | (with_reducible exact mooringsref08_Base.mono _ _ _ _ _ _ _ _ _ _)
   | (with_reducible exact LeO.refl _)
   | (with_reducible exact LeO.none _)
   | (with_reducible refine LeO.ite ?_ ?_)
   | (with_reducible refine LeO.bind ?_ (fun _ => ?_))
   | exact ih0 _ _ _ _ _ _ _ _ _ _ _
   | exact ih1 _ _ _ _ _ _ _ _ _ _ _ _
   | exact mooringsref08_Base.mono _ _ _ _ _ _ _ _ _ _
   | exact LeO.none _
   | refine LeO.ite ?_ ?_
   | refine LeO.bind ?_ (fun _ => ?_)
set_option maxHeartbeats 8000000 in
set_option maxRecDepth 100000 in
theorem mooringsref08_Who.calls (k : Nat) (q0 : Int) (q1 : Int) (q2 : Int) (q3 : Int) (q4 : Int) (q5 : Int) (q6 : Int) (q7 : Int) (a1 : Int) (a2 : Int) (r : Int) (w : World) (h : mooringsref08_Who.f k q0 q1 q2 q3 q4 q5 q6 q7 a1 a2 = some r) :
  Calls Try.prog 18 #[.agg #[.int .i64 q0, .int .i64 q1, .int .i64 q2, .int .i64 q3, .int .i64 q4, .int .i64 q5, .int .i64 q6, .int .i64 q7], .int .i64 a1, .int .i64 a2] w fun e w' => e = .returned (.int .i64 r) ∧ Below w.heap.size w w' := by
 have hu25 := Try.underlying25
 have hu28 := Try.underlying28
 have HB := Ym (Below.refl w.heap.size w)
 have H : (mooringsref08_Who.l0 k a1 a2 0 q0 q1 q2 q3 q4 q5 q6 q7) = some r := h
 clear h
 have H' := Ym H
 clear H
 go_enter Try.func18, Try.ntmps18
 go_wp2_with (first | ((with_reducible refine gate_dst (N := 3) rfl ?_); refine box_event ?hg (N := 3) ?hd (cs := #[.int .i64 q0, .int .i64 q1, .int .i64 q2, .int .i64 q3, .int .i64 q4, .int .i64 q5, .int .i64 q6, .int .i64 q7]) (t := 25) ?hr ?_; (case hd => rfl); (case hg => rfl); (case hr => first | (go_simp; done) | (go_simp; rfl)); intro gb185 hg w4 hbox hb; have n0_ := Ym (Yj (by repeat (first | (with_reducible first | exact HB.out | apply Yc | apply Ya | apply Yb) | exact HB.out)) hb); have n1_ := Ym (hbox); have n2_ := Ym ((by rw [hg]; exact (Yk (by repeat (first | (with_reducible first | exact HB.out | apply Yc | apply Ya | apply Yb) | exact HB.out))) : w.heap.size ≤ gb185)); have n3_ := Ym ((by rw [hg]; exact (Yk (by repeat (first | (with_reducible first | exact HB.out | apply Yc | apply Ya | apply Yb) | exact HB.out))) : w.heap.size ≤ gb185)); clear HB; have HB := n0_; have BK185 := n1_; have GW185 := n2_; have GE185 := n3_; clear n0_ n1_ n2_ n3_; clear hb hbox hg))
 go_loopg [7] k (fun kq v7 w' => ∃ (x7_1 : Int), v7 = .int .i64 x7_1 ∧ Aside0 (mooringsref08_Who.l0 kq a1 a2 x7_1 q0 q1 q2 q3 q4 q5 q6 q7 = some r) ∧ Aside0 (kq ≤ k) ∧ Aside0 (w'.heap[gb185]? = some (.cells #[.int .i64 q0, .int .i64 q1, .int .i64 q2, .int .i64 q3, .int .i64 q4, .int .i64 q5, .int .i64 q6, .int .i64 q7] 25 (0, 0))) ∧ Aside0 (Below w.heap.size w w'))
 case atStart => exact ⟨(0), (by first | rfl | (simp; done) | (simp [*]; done)), H', ⟨Nat.le_refl _⟩, ⟨by (with_reducible repeat (first | refine Yd ?_ _ | refine Yf ?_ | refine Ye ?_ _)); exact BK185.out⟩, ⟨by repeat (first | (with_reducible first | exact HB.out | apply Yc | apply Ya | apply Yb | refine Yg ?_ GE185.out) | exact HB.out)⟩⟩
 case round =>
  clear H'
  try clear c1
  try clear p2
  obtain ⟨x7_1, rfl, HA, HK1, BK185, HB⟩ := hrel
  cases gk with
  | zero => exact absurd HA.out (by simp [mooringsref08_Who.l0])
  | succ k1 =>
   have H := HA.out
   clear HA
   simp only [mooringsref08_Who.l0] at H
   by_cases c5 : x7_1 < 32
   ·rw [if_pos c5] at H
    have c5b0 : decide (x7_1 < 32) = true := decide_eq_true c5
    clear c5
    replace H := Option.bind_eq_some_iff.mp H
    obtain ⟨⟨t186, t187, t188, t189⟩, A60, H⟩ := H
    replace H : (if t189 = true then (if t186 = a1 then (if a2 ≥ t187 then (mooringsref08_Who.j1 k1 a1 a2 x7_1 (decide (a2 ≤ t188)) q0 q1 q2 q3 q4 q5 q6 q7) else (mooringsref08_Who.j1 k1 a1 a2 x7_1 false q0 q1 q2 q3 q4 q5 q6 q7)) else (mooringsref08_Who.j1 k1 a1 a2 x7_1 false q0 q1 q2 q3 q4 q5 q6 q7)) else (mooringsref08_Who.j1 k1 a1 a2 x7_1 false q0 q1 q2 q3 q4 q5 q6 q7)) = some r := H
    have A6 := Ym A60
    clear A60
    have HC7 := Ym H
    clear H
    have hcz8_0 : wr.cell? ⟨gb185, 0, none⟩ = some (.int .i64 q0) := (Yh BK185.out 0).trans rfl
    have hcz8_1 : wr.cell? ⟨gb185, 1, none⟩ = some (.int .i64 q1) := (Yh BK185.out 1).trans rfl
    have hcz8_2 : wr.cell? ⟨gb185, 2, none⟩ = some (.int .i64 q2) := (Yh BK185.out 2).trans rfl
    have hcz8_3 : wr.cell? ⟨gb185, 3, none⟩ = some (.int .i64 q3) := (Yh BK185.out 3).trans rfl
    have hcz8_4 : wr.cell? ⟨gb185, 4, none⟩ = some (.int .i64 q4) := (Yh BK185.out 4).trans rfl
    have hcz8_5 : wr.cell? ⟨gb185, 5, none⟩ = some (.int .i64 q5) := (Yh BK185.out 5).trans rfl
    have hcz8_6 : wr.cell? ⟨gb185, 6, none⟩ = some (.int .i64 q6) := (Yh BK185.out 6).trans rfl
    have hcz8_7 : wr.cell? ⟨gb185, 7, none⟩ = some (.int .i64 q7) := (Yh BK185.out 7).trans rfl
    have hfz8_0 := Yi BK185.out 0
    have hfz8_1 := Yi BK185.out 1
    have hfz8_2 := Yi BK185.out 2
    have hfz8_3 := Yi BK185.out 3
    have hfz8_4 := Yi BK185.out 4
    have hfz8_5 := Yi BK185.out 5
    have hfz8_6 := Yi BK185.out 6
    have hfz8_7 := Yi BK185.out 7
    go_upto_region 5 with (first | ((with_reducible refine gate_callee (f := 12) rfl ?_); refine goesL_ (some 17) rfl rfl Try.func12 (by kernel_rfl) rfl #[.agg #[.int .i64 q0, .int .i64 q1, .int .i64 q2, .int .i64 q3, .int .i64 q4, .int .i64 q5, .int .i64 q6, .int .i64 q7], .int .i64 x7_1] rfl (by (try simp only [List.map_toArray, List.map_cons, List.map_nil]); first | done | rfl | (simp only [List.length_drop, List.length_take]; rfl)) ?_; (with_reducible refine (mooringsref08_Base.calls k1 q0 q1 q2 q3 q4 q5 q6 q7 x7_1 t186 t187 t188 t189 _ A6.out).mono ?_); rintro e w9 ⟨rfl, hb⟩; refine ⟨_, rfl, ?_⟩; have n0_ := Ym (Yl (g := gb185) (o := .cells #[.int .i64 q0, .int .i64 q1, .int .i64 q2, .int .i64 q3, .int .i64 q4, .int .i64 q5, .int .i64 q6, .int .i64 q7] 25 (0, 0)) (by (with_reducible repeat (first | refine Yd ?_ _ | refine Yf ?_ | refine Ye ?_ _)); exact BK185.out) hb); have n1_ := Ym (Yj (by repeat (first | (with_reducible first | exact HB.out | apply Yc | apply Ya | apply Yb | refine Yg ?_ GE185.out) | exact HB.out)) hb); clear BK185; clear HB; have BK185 := n0_; have HB := n1_; clear n0_ n1_; (try clear hb); (try clear hb2); (try clear hk); (try clear hi)) | ((with_reducible refine gate_dst (N := 8) rfl ?_); refine box_event ?hg (N := 8) ?hd (cs := #[.int .i64 0, .int .i64 0, .int .i64 0]) (t := 28) ?hr ?_; (case hd => rfl); (case hg => rfl); (case hr => first | (go_simp; done) | (go_simp; rfl)); intro gb190 hg w10 hbox hb; have n0_ := Ym (Yl (g := gb185) (o := .cells #[.int .i64 q0, .int .i64 q1, .int .i64 q2, .int .i64 q3, .int .i64 q4, .int .i64 q5, .int .i64 q6, .int .i64 q7] 25 (0, 0)) (by (with_reducible repeat (first | refine Yd ?_ _ | refine Yf ?_ | refine Ye ?_ _)); exact BK185.out) hb); have n1_ := Ym (Yj (by repeat (first | (with_reducible first | exact HB.out | apply Yc | apply Ya | apply Yb | refine Yg ?_ GE185.out) | exact HB.out)) hb); have n2_ := Ym (hbox); have n3_ := Ym ((by rw [hg]; exact (Yk (by repeat (first | (with_reducible first | exact HB.out | apply Yc | apply Ya | apply Yb | refine Yg ?_ GE185.out) | exact HB.out))) : w.heap.size ≤ gb190)); have n4_ := Ym ((by rw [hg]; exact (Yk (by repeat (first | (with_reducible first | exact HB.out | apply Yc | apply Ya | apply Yb | refine Yg ?_ GE185.out) | exact HB.out))) : w.heap.size ≤ gb190)); have n5_ := Ym ((by rw [hg]; exact Nat.ne_of_lt (blk_lt (g := gb185) (o := .cells #[.int .i64 q0, .int .i64 q1, .int .i64 q2, .int .i64 q3, .int .i64 q4, .int .i64 q5, .int .i64 q6, .int .i64 q7] 25 (0, 0)) (by (with_reducible repeat (first | refine Yd ?_ _ | refine Yf ?_ | refine Ye ?_ _)); exact BK185.out)) : gb185 ≠ gb190)); have n6_ := Ym ((by rw [hg]; exact Nat.ne_of_gt (blk_lt (g := gb185) (o := .cells #[.int .i64 q0, .int .i64 q1, .int .i64 q2, .int .i64 q3, .int .i64 q4, .int .i64 q5, .int .i64 q6, .int .i64 q7] 25 (0, 0)) (by (with_reducible repeat (first | refine Yd ?_ _ | refine Yf ?_ | refine Ye ?_ _)); exact BK185.out)) : gb190 ≠ gb185)); clear BK185; clear HB; have BK185 := n0_; have HB := n1_; have BK190 := n2_; have GW190 := n3_; have GE190 := n4_; have NB185_190 := n5_; have NB190_185 := n6_; clear n0_ n1_ n2_ n3_ n4_ n5_ n6_; clear hb hbox hg; have hnb11 := NB190_185.out; have hnc11 := NB185_190.out; have hcz12_0 : w10.cell? ⟨gb190, 0, none⟩ = some (.int .i64 0) := (Yh BK190.out 0).trans rfl; have hcz12_1 : w10.cell? ⟨gb190, 1, none⟩ = some (.int .i64 0) := (Yh BK190.out 1).trans rfl; have hcz12_2 : w10.cell? ⟨gb190, 2, none⟩ = some (.int .i64 0) := (Yh BK190.out 2).trans rfl; have hfz12_0 := Yi BK190.out 0; have hfz12_1 := Yi BK190.out 1; have hfz12_2 := Yi BK190.out 2))
    (try simp only [Act.put, Yo, Yp, Yq])
    go_cut [38] (fun v38 wc => ∃ (kq : Nat) (x38_6 : Bool), v38 = .bool x38_6 ∧ Aside0 (mooringsref08_Who.j1 kq a1 a2 x7_1 x38_6 q0 q1 q2 q3 q4 q5 q6 q7 = some r) ∧ Aside0 (kq ≤ k1) ∧ Aside0 (wc.heap[gb185]? = some (.cells #[.int .i64 q0, .int .i64 q1, .int .i64 q2, .int .i64 q3, .int .i64 q4, .int .i64 q5, .int .i64 q6, .int .i64 q7] 25 (0, 0))) ∧ Aside0 (wc.heap[gb190]? = some (.cells #[.int .i64 t186, .int .i64 t187, .int .i64 t188] 28 (0, 0))) ∧ Aside0 (Below w.heap.size w wc))
    case first =>
     have H := HC7.out
     clear HC7
     by_cases c13 : t189 = true
     ·subst c13
      have H1 : (if t186 = a1 then (if a2 ≥ t187 then (mooringsref08_Who.j1 k1 a1 a2 x7_1 (decide (a2 ≤ t188)) q0 q1 q2 q3 q4 q5 q6 q7) else (mooringsref08_Who.j1 k1 a1 a2 x7_1 false q0 q1 q2 q3 q4 q5 q6 q7)) else (mooringsref08_Who.j1 k1 a1 a2 x7_1 false q0 q1 q2 q3 q4 q5 q6 q7)) = some r := by rw [if_pos rfl] at H; exact H
      clear H
      have H := H1
      clear H1
      by_cases c14 : t186 = a1
      ·rw [if_pos c14] at H
       have c14b0 : (t186 == a1) = true := beq_iff_eq.mpr c14
       have c14b1 : (t186 != a1) = false := bne_eq_false_iff_eq.mpr c14
       clear c14
       (first | rw [c14b0] | (simp only [i64_w, i32_w]; rw [c14b0]) | skip)
       by_cases c15 : a2 ≥ t187
       ·rw [if_pos c15] at H
        have c15b0 : decide (t187 ≤ a2) = true := decide_eq_true c15
        clear c15
        have H' := Ym H
        clear H
        have hnb16 := NB190_185.out
        have hnc16 := NB185_190.out
        have hcz17_0 : w10.cell? ⟨gb190, 0, none⟩ = some (.int .i64 0) := (Yh BK190.out 0).trans rfl
        have hcz17_1 : w10.cell? ⟨gb190, 1, none⟩ = some (.int .i64 0) := (Yh BK190.out 1).trans rfl
        have hcz17_2 : w10.cell? ⟨gb190, 2, none⟩ = some (.int .i64 0) := (Yh BK190.out 2).trans rfl
        have hfz17_0 := Yi BK190.out 0
        have hfz17_1 := Yi BK190.out 1
        have hfz17_2 := Yi BK190.out 2
        go_wp2
        go_meet
        case rel => exact ⟨_, (decide (a2 ≤ t188)), (by first | rfl | (simp; done) | (simp [*]; done)), H', ⟨by have := HK1.out; first | omega | exact Nat.le_refl _⟩, ⟨by (with_reducible repeat (first | refine Yd ?_ _ | refine Yf ?_ | refine Ye ?_ _)); refine blk_far ?_ NB185_190.out _; (with_reducible repeat (first | refine Yd ?_ _ | refine Yf ?_ | refine Ye ?_ _)); refine blk_far ?_ NB185_190.out _; (with_reducible repeat (first | refine Yd ?_ _ | refine Yf ?_ | refine Ye ?_ _)); refine blk_far ?_ NB185_190.out _; (with_reducible repeat (first | refine Yd ?_ _ | refine Yf ?_ | refine Ye ?_ _)); exact BK185.out⟩, ⟨by (with_reducible repeat (first | refine Yd ?_ _ | refine Yf ?_ | refine Ye ?_ _)); refine blk_put (cs := #[.int .i64 t186, .int .i64 t187, .int .i64 0]) ?_ 2 _ rfl; (with_reducible repeat (first | refine Yd ?_ _ | refine Yf ?_ | refine Ye ?_ _)); refine blk_put (cs := #[.int .i64 t186, .int .i64 0, .int .i64 0]) ?_ 1 _ rfl; (with_reducible repeat (first | refine Yd ?_ _ | refine Yf ?_ | refine Ye ?_ _)); refine blk_put (cs := #[.int .i64 0, .int .i64 0, .int .i64 0]) ?_ 0 _ rfl; (with_reducible repeat (first | refine Yd ?_ _ | refine Yf ?_ | refine Ye ?_ _)); exact BK190.out⟩, ⟨by repeat (first | (with_reducible first | exact HB.out | apply Yc | apply Ya | apply Yb | refine Yg ?_ GE185.out | refine Yg ?_ GE190.out) | exact HB.out)⟩⟩
       ·rw [if_neg c15] at H
        have c15b0 : decide (t187 ≤ a2) = false := decide_eq_false c15
        clear c15
        have H' := Ym H
        clear H
        have hnb18 := NB190_185.out
        have hnc18 := NB185_190.out
        have hcz19_0 : w10.cell? ⟨gb190, 0, none⟩ = some (.int .i64 0) := (Yh BK190.out 0).trans rfl
        have hcz19_1 : w10.cell? ⟨gb190, 1, none⟩ = some (.int .i64 0) := (Yh BK190.out 1).trans rfl
        have hcz19_2 : w10.cell? ⟨gb190, 2, none⟩ = some (.int .i64 0) := (Yh BK190.out 2).trans rfl
        have hfz19_0 := Yi BK190.out 0
        have hfz19_1 := Yi BK190.out 1
        have hfz19_2 := Yi BK190.out 2
        go_wp2
        go_meet
        case rel => exact ⟨_, (false), (by first | rfl | (simp; done) | (simp [*]; done)), H', ⟨by have := HK1.out; first | omega | exact Nat.le_refl _⟩, ⟨by (with_reducible repeat (first | refine Yd ?_ _ | refine Yf ?_ | refine Ye ?_ _)); refine blk_far ?_ NB185_190.out _; (with_reducible repeat (first | refine Yd ?_ _ | refine Yf ?_ | refine Ye ?_ _)); refine blk_far ?_ NB185_190.out _; (with_reducible repeat (first | refine Yd ?_ _ | refine Yf ?_ | refine Ye ?_ _)); refine blk_far ?_ NB185_190.out _; (with_reducible repeat (first | refine Yd ?_ _ | refine Yf ?_ | refine Ye ?_ _)); exact BK185.out⟩, ⟨by (with_reducible repeat (first | refine Yd ?_ _ | refine Yf ?_ | refine Ye ?_ _)); refine blk_put (cs := #[.int .i64 t186, .int .i64 t187, .int .i64 0]) ?_ 2 _ rfl; (with_reducible repeat (first | refine Yd ?_ _ | refine Yf ?_ | refine Ye ?_ _)); refine blk_put (cs := #[.int .i64 t186, .int .i64 0, .int .i64 0]) ?_ 1 _ rfl; (with_reducible repeat (first | refine Yd ?_ _ | refine Yf ?_ | refine Ye ?_ _)); refine blk_put (cs := #[.int .i64 0, .int .i64 0, .int .i64 0]) ?_ 0 _ rfl; (with_reducible repeat (first | refine Yd ?_ _ | refine Yf ?_ | refine Ye ?_ _)); exact BK190.out⟩, ⟨by repeat (first | (with_reducible first | exact HB.out | apply Yc | apply Ya | apply Yb | refine Yg ?_ GE185.out | refine Yg ?_ GE190.out) | exact HB.out)⟩⟩
      ·rw [if_neg c14] at H
       have c14b0 : (t186 == a1) = false := beq_eq_false_iff_ne.mpr c14
       have c14b1 : (t186 != a1) = true := bne_iff_ne.mpr c14
       (first | rw [c14b0] | (simp only [i64_w, i32_w]; rw [c14b0]) | skip)
       have H' := Ym H
       clear H
       have hnb20 := NB190_185.out
       have hnc20 := NB185_190.out
       have hcz21_0 : w10.cell? ⟨gb190, 0, none⟩ = some (.int .i64 0) := (Yh BK190.out 0).trans rfl
       have hcz21_1 : w10.cell? ⟨gb190, 1, none⟩ = some (.int .i64 0) := (Yh BK190.out 1).trans rfl
       have hcz21_2 : w10.cell? ⟨gb190, 2, none⟩ = some (.int .i64 0) := (Yh BK190.out 2).trans rfl
       have hfz21_0 := Yi BK190.out 0
       have hfz21_1 := Yi BK190.out 1
       have hfz21_2 := Yi BK190.out 2
       go_wp2
       go_meet
       case rel => exact ⟨_, (false), (by first | rfl | (simp; done) | (simp [*]; done)), H', ⟨by have := HK1.out; first | omega | exact Nat.le_refl _⟩, ⟨by (with_reducible repeat (first | refine Yd ?_ _ | refine Yf ?_ | refine Ye ?_ _)); refine blk_far ?_ NB185_190.out _; (with_reducible repeat (first | refine Yd ?_ _ | refine Yf ?_ | refine Ye ?_ _)); refine blk_far ?_ NB185_190.out _; (with_reducible repeat (first | refine Yd ?_ _ | refine Yf ?_ | refine Ye ?_ _)); refine blk_far ?_ NB185_190.out _; (with_reducible repeat (first | refine Yd ?_ _ | refine Yf ?_ | refine Ye ?_ _)); exact BK185.out⟩, ⟨by (with_reducible repeat (first | refine Yd ?_ _ | refine Yf ?_ | refine Ye ?_ _)); refine blk_put (cs := #[.int .i64 t186, .int .i64 t187, .int .i64 0]) ?_ 2 _ rfl; (with_reducible repeat (first | refine Yd ?_ _ | refine Yf ?_ | refine Ye ?_ _)); refine blk_put (cs := #[.int .i64 t186, .int .i64 0, .int .i64 0]) ?_ 1 _ rfl; (with_reducible repeat (first | refine Yd ?_ _ | refine Yf ?_ | refine Ye ?_ _)); refine blk_put (cs := #[.int .i64 0, .int .i64 0, .int .i64 0]) ?_ 0 _ rfl; (with_reducible repeat (first | refine Yd ?_ _ | refine Yf ?_ | refine Ye ?_ _)); exact BK190.out⟩, ⟨by repeat (first | (with_reducible first | exact HB.out | apply Yc | apply Ya | apply Yb | refine Yg ?_ GE185.out | refine Yg ?_ GE190.out) | exact HB.out)⟩⟩
     ·replace c13 := Bool.eq_false_iff.mpr c13
      subst c13
      have H1 : (mooringsref08_Who.j1 k1 a1 a2 x7_1 false q0 q1 q2 q3 q4 q5 q6 q7) = some r := by rw [if_neg (show ¬ (false = true) by decide)] at H; exact H
      clear H
      have H := H1
      clear H1
      have H' := Ym H
      clear H
      go_wp2
      go_meet
      case rel => exact ⟨_, (false), (by first | rfl | (simp; done) | (simp [*]; done)), H', ⟨by have := HK1.out; first | omega | exact Nat.le_refl _⟩, ⟨by (with_reducible repeat (first | refine Yd ?_ _ | refine Yf ?_ | refine Ye ?_ _)); refine blk_far ?_ NB185_190.out _; (with_reducible repeat (first | refine Yd ?_ _ | refine Yf ?_ | refine Ye ?_ _)); refine blk_far ?_ NB185_190.out _; (with_reducible repeat (first | refine Yd ?_ _ | refine Yf ?_ | refine Ye ?_ _)); refine blk_far ?_ NB185_190.out _; (with_reducible repeat (first | refine Yd ?_ _ | refine Yf ?_ | refine Ye ?_ _)); exact BK185.out⟩, ⟨by (with_reducible repeat (first | refine Yd ?_ _ | refine Yf ?_ | refine Ye ?_ _)); refine blk_put (cs := #[.int .i64 t186, .int .i64 t187, .int .i64 0]) ?_ 2 _ rfl; (with_reducible repeat (first | refine Yd ?_ _ | refine Yf ?_ | refine Ye ?_ _)); refine blk_put (cs := #[.int .i64 t186, .int .i64 0, .int .i64 0]) ?_ 1 _ rfl; (with_reducible repeat (first | refine Yd ?_ _ | refine Yf ?_ | refine Ye ?_ _)); refine blk_put (cs := #[.int .i64 0, .int .i64 0, .int .i64 0]) ?_ 0 _ rfl; (with_reducible repeat (first | refine Yd ?_ _ | refine Yf ?_ | refine Ye ?_ _)); exact BK190.out⟩, ⟨by repeat (first | (with_reducible first | exact HB.out | apply Yc | apply Ya | apply Yb | refine Yg ?_ GE185.out | refine Yg ?_ GE190.out) | exact HB.out)⟩⟩
    case rest =>
     clear HC7
     try clear c1
     try clear c2
     try clear p2
     try clear c5
     try clear c5b0
     try clear c11
     try clear c12
     try clear c13
     try clear c14
     try clear c14b0
     try clear c14b1
     try clear c15
     try clear c15b0
     try clear c16
     try clear c18
     try clear c20
     try clear hcz12_0
     try clear hcz12_1
     try clear hcz12_2
     try clear hcz17_0
     try clear hcz17_1
     try clear hcz17_2
     try clear hcz19_0
     try clear hcz19_1
     try clear hcz19_2
     try clear hcz21_0
     try clear hcz21_1
     try clear hcz21_2
     try clear hcz8_0
     try clear hcz8_1
     try clear hcz8_2
     try clear hcz8_3
     try clear hcz8_4
     try clear hcz8_5
     try clear hcz8_6
     try clear hcz8_7
     try clear hfz12_0
     try clear hfz12_1
     try clear hfz12_2
     try clear hfz17_0
     try clear hfz17_1
     try clear hfz17_2
     try clear hfz19_0
     try clear hfz19_1
     try clear hfz19_2
     try clear hfz21_0
     try clear hfz21_1
     try clear hfz21_2
     try clear hfz8_0
     try clear hfz8_1
     try clear hfz8_2
     try clear hfz8_3
     try clear hfz8_4
     try clear hfz8_5
     try clear hfz8_6
     try clear hfz8_7
     try clear p2
     obtain ⟨kq, x38_6, rfl, HA, HJ6, BK185, BK190, HB⟩ := hcut
     cases kq with
     | zero => exact absurd HA.out (by simp [mooringsref08_Who.j1])
     | succ kj6 =>
      have H := HA.out
      clear HA
      simp only [mooringsref08_Who.j1] at H
      by_cases c22 : x38_6 = true
      ·subst c22
       have H1 : (some x7_1) = some r := by rw [if_pos rfl] at H; exact H
       clear H
       have H := H1
       clear H1
       obtain rfl := Option.some.inj H
       go_wp2
       go_ret
       exact ⟨by first | rfl | (simp [errW_none, errW_some] <;> rfl) | (simp [*, errW_none, errW_some] <;> rfl), by repeat (first | (with_reducible first | exact HB.out | apply Yc | apply Ya | apply Yb | refine Yg ?_ GE185.out | refine Yg ?_ GE190.out) | exact HB.out)⟩
      ·replace c22 := Bool.eq_false_iff.mpr c22
       subst c22
       have H1 : (mooringsref08_Who.l0 kj6 a1 a2 (wrap64 (x7_1 + 1)) q0 q1 q2 q3 q4 q5 q6 q7) = some r := by rw [if_neg (show ¬ (false = true) by decide)] at H; exact H
       clear H
       have H := H1
       clear H1
       have H' := Ym H
       clear H
       go_wp2
       go_roundg kj6
       case measure => have := HK1.out; have := HJ6.out; omega
       case rel => exact ⟨(wrap64 (x7_1 + 1)), (by first | rfl | (simp; done) | (simp [*]; done)), H', ⟨by have := HK1.out; have := HJ6.out; omega⟩, ⟨by (with_reducible repeat (first | refine Yd ?_ _ | refine Yf ?_ | refine Ye ?_ _)); exact BK185.out⟩, ⟨by repeat (first | (with_reducible first | exact HB.out | apply Yc | apply Ya | apply Yb | refine Yg ?_ GE185.out | refine Yg ?_ GE190.out) | exact HB.out)⟩⟩
   ·rw [if_neg c5] at H
    have c5b0 : decide (x7_1 < 32) = false := decide_eq_false c5
    clear c5
    obtain rfl := Option.some.inj H
    go_wp2
    go_ret
    exact ⟨by first | rfl | (simp [errW_none, errW_some] <;> rfl) | (simp [*, errW_none, errW_some] <;> rfl), by repeat (first | (with_reducible first | exact HB.out | apply Yc | apply Ya | apply Yb | refine Yg ?_ GE185.out) | exact HB.out)⟩

end Go.Proofs.Ytfkdflhijfkjoaa.P
