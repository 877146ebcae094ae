-- Laid by this session's own program (wip/myprint.py): Lean functions for the Go functions that a law reaches, and their contracts. Not trusted: Lean checks it. (slimmed by wip/slim08.py)
import Derived.Test.YtfkdflhijfkjoaaP0
namespace Go.Proofs.Ytfkdflhijfkjoaa.P
open Go.RowKit Go.Proofs.YtfkdflhijfkjoaaW.PrintWords Go.Proofs.YtfkdflhijfkjoaaW.PrintLast Go.Proofs.YtfkdflhijfkjoaaW.PrintMore
attribute [local go_sem] max2_int min2_int max_two min_two max_three min_three max_four min_four   -- for this text's walks alone
set_option linter.unusedVariables false
set_option linter.unusedSimpArgs false

/-! ### addr_May: function 40 -/
def addr_May.f (q0 : Int) (q1 : Int) : Option (Bool) := if q1 ≥ 0 then (if q1 ≤ 32 then (if q0 ≥ 0 then (if q0 < 4294967296 then (if 0 ≤ (wrap64 (32 - q1)) then (some ((Go.bits .and .i64 q0 (wrap64 ((shl .i64 1 (wrap64 (32 - q1))) - 1))) == 0)) else (none)) else (some false)) else (some false)) else (some false)) else (some false)
set_option maxHeartbeats 8000000 in
set_option maxRecDepth 100000 in
theorem addr_May.calls (q0 : Int) (q1 : Int) (r : Bool) (w : World) (h : addr_May.f q0 q1 = some r) :
  Calls Try.prog 40 #[.agg #[.int .i64 q0, .int .i64 q1]] w fun e w' => e = .returned (.bool r) ∧ Below w.heap.size w w' := by
 have hu23 := Try.underlying23
 have HB := Ym (Below.refl w.heap.size w)
 have H : (if q1 ≥ 0 then (if q1 ≤ 32 then (if q0 ≥ 0 then (if q0 < 4294967296 then (if 0 ≤ (wrap64 (32 - q1)) then (some ((Go.bits .and .i64 q0 (wrap64 ((shl .i64 1 (wrap64 (32 - q1))) - 1))) == 0)) else (none)) else (some false)) else (some false)) else (some false)) else (some false)) = some r := h
 clear h
 by_cases c2 : q1 ≥ 0
 ·rw [if_pos c2] at H
  have c2b0 : decide (0 ≤ q1) = true := decide_eq_true c2
  clear c2
  by_cases c3 : q1 ≤ 32
  ·rw [if_pos c3] at H
   have c3b0 : decide (q1 ≤ 32) = true := decide_eq_true c3
   clear c3
   by_cases c4 : q0 ≥ 0
   ·rw [if_pos c4] at H
    have c4b0 : decide (0 ≤ q0) = true := decide_eq_true c4
    clear c4
    by_cases c5 : q0 < 4294967296
    ·rw [if_pos c5] at H
     have c5b0 : decide (q0 < 4294967296) = true := decide_eq_true c5
     clear c5
     obtain ⟨ji6, hji6⟩ : ∃ j_ : Int, (wrap64 (32 - q1)) = j_ := ⟨_, rfl⟩
     replace H : (if 0 ≤ (ji6) then (some ((Go.bits .and .i64 q0 (wrap64 ((shl .i64 1 (ji6)) - 1))) == 0)) else (none)) = some r := by first | (rw [hji6] at H; exact H) | (simp only [hji6] at H ⊢; exact H)
     have hji6w : (IntKind.i64.wrap (32 - q1)) = ji6 := (i64_w _).trans hji6
     by_cases c7 : 0 ≤ (ji6)
     ·rw [if_pos c7] at H
      have c7b0 := eq_true c7
      have c7b1 : decide (0 ≤ (ji6)) = true := decide_eq_true c7
      clear c7
      obtain ⟨ji8, hji8⟩ : ∃ j_ : Int, (shl .i64 1 (ji6)) = j_ := ⟨_, rfl⟩
      replace H : (some ((Go.bits .and .i64 q0 (wrap64 ((ji8) - 1))) == 0)) = some r := by first | (rw [hji8] at H; exact H) | (simp only [hji8] at H ⊢; exact H)
      have hji8_ : (IntKind.i64.wrap (1 * 2 ^ min (ji6).toNat 64)) = ji8 := hji8
      have hji8z : (ji6) ≤ 64 → (IntKind.i64.wrap (1 * 2 ^ (ji6).toNat)) = ji8 := shl_small hji8
      have hji8u : (IntKind.i64.wrap (2 ^ min (ji6).toNat 64)) = ji8 := by have h_ := hji8_; rw [Int.one_mul] at h_; exact h_
      have hji8v : (ji6) ≤ 64 → (IntKind.i64.wrap (2 ^ (ji6).toNat)) = ji8 := fun hle_ => by have h_ := hji8z hle_; rw [Int.one_mul] at h_; exact h_
      have hji8y : (wrap64 (1 * 2 ^ min (ji6).toNat 64)) = ji8 := (i64_w _).symm.trans hji8_
      have hji8x : (ji6) ≤ 64 → (wrap64 (1 * 2 ^ (ji6).toNat)) = ji8 := fun h_ => (i64_w _).symm.trans (hji8z h_)
      obtain rfl := Option.some.inj H
      go_enter Try.func40, Try.ntmps40
      go_wp2_with (first | ((with_reducible refine gate_dst (N := 1) rfl ?_); refine box_event ?hg (N := 1) ?hd (cs := #[.int .i64 q0, .int .i64 q1]) (t := 23) ?hr ?_; (case hd => rfl); (case hg => rfl); (case hr => first | (go_simp; done) | (go_simp; rfl)); intro gb101 hg w9 hbox hb; have n0_ := Ym (Yj (by repeat (first | (with_reducible first | exact HB.out | apply Yc | apply Ya | apply Yb) | exact HB.out)) hb); have n1_ := Ym (hbox); have n2_ := Ym ((by rw [hg]; exact (Yk (by repeat (first | (with_reducible first | exact HB.out | apply Yc | apply Ya | apply Yb) | exact HB.out))) : w.heap.size ≤ gb101)); have n3_ := Ym ((by rw [hg]; exact (Yk (by repeat (first | (with_reducible first | exact HB.out | apply Yc | apply Ya | apply Yb) | exact HB.out))) : w.heap.size ≤ gb101)); clear HB; have HB := n0_; have BK101 := n1_; have GW101 := n2_; have GE101 := n3_; clear n0_ n1_ n2_ n3_; clear hb hbox hg; have hcz10_0 : w9.cell? ⟨gb101, 0, none⟩ = some (.int .i64 q0) := (Yh BK101.out 0).trans rfl; have hcz10_1 : w9.cell? ⟨gb101, 1, none⟩ = some (.int .i64 q1) := (Yh BK101.out 1).trans rfl; have hfz10_0 := Yi BK101.out 0; have hfz10_1 := Yi BK101.out 1))
      repeat (go_quiet (first | ((with_reducible refine gate_dst (N := 1) rfl ?_); refine box_event ?hg (N := 1) ?hd (cs := #[.int .i64 q0, .int .i64 q1]) (t := 23) ?hr ?_; (case hd => rfl); (case hg => rfl); (case hr => first | (go_simp; done) | (go_simp; rfl)); intro gb101 hg w9 hbox hb; have n0_ := Ym (Yj (by repeat (first | (with_reducible first | exact HB.out | apply Yc | apply Ya | apply Yb) | exact HB.out)) hb); have n1_ := Ym (hbox); have n2_ := Ym ((by rw [hg]; exact (Yk (by repeat (first | (with_reducible first | exact HB.out | apply Yc | apply Ya | apply Yb) | exact HB.out))) : w.heap.size ≤ gb101)); have n3_ := Ym ((by rw [hg]; exact (Yk (by repeat (first | (with_reducible first | exact HB.out | apply Yc | apply Ya | apply Yb) | exact HB.out))) : w.heap.size ≤ gb101)); clear HB; have HB := n0_; have BK101 := n1_; have GW101 := n2_; have GE101 := n3_; clear n0_ n1_ n2_ n3_; clear hb hbox hg; have hcz10_0 : w9.cell? ⟨gb101, 0, none⟩ = some (.int .i64 q0) := (Yh BK101.out 0).trans rfl; have hcz10_1 : w9.cell? ⟨gb101, 1, none⟩ = some (.int .i64 q1) := (Yh BK101.out 1).trans rfl; have hfz10_0 := Yi BK101.out 0; have hfz10_1 := Yi BK101.out 1)); try go_wp2_with (first | ((with_reducible refine gate_dst (N := 1) rfl ?_); refine box_event ?hg (N := 1) ?hd (cs := #[.int .i64 q0, .int .i64 q1]) (t := 23) ?hr ?_; (case hd => rfl); (case hg => rfl); (case hr => first | (go_simp; done) | (go_simp; rfl)); intro gb101 hg w9 hbox hb; have n0_ := Ym (Yj (by repeat (first | (with_reducible first | exact HB.out | apply Yc | apply Ya | apply Yb) | exact HB.out)) hb); have n1_ := Ym (hbox); have n2_ := Ym ((by rw [hg]; exact (Yk (by repeat (first | (with_reducible first | exact HB.out | apply Yc | apply Ya | apply Yb) | exact HB.out))) : w.heap.size ≤ gb101)); have n3_ := Ym ((by rw [hg]; exact (Yk (by repeat (first | (with_reducible first | exact HB.out | apply Yc | apply Ya | apply Yb) | exact HB.out))) : w.heap.size ≤ gb101)); clear HB; have HB := n0_; have BK101 := n1_; have GW101 := n2_; have GE101 := n3_; clear n0_ n1_ n2_ n3_; clear hb hbox hg; have hcz10_0 : w9.cell? ⟨gb101, 0, none⟩ = some (.int .i64 q0) := (Yh BK101.out 0).trans rfl; have hcz10_1 : w9.cell? ⟨gb101, 1, none⟩ = some (.int .i64 q1) := (Yh BK101.out 1).trans rfl; have hfz10_0 := Yi BK101.out 0; have hfz10_1 := Yi BK101.out 1)))
      go_ret
      exact ⟨by first | rfl | (simp [errW_none, errW_some] <;> rfl) | (simp only [← hji6, ← hji8]; first | rfl | (simp [errW_none, errW_some] <;> rfl)) | (simp [*, errW_none, errW_some] <;> rfl), by repeat (first | (with_reducible first | exact HB.out | apply Yc | apply Ya | apply Yb | refine Yg ?_ GE101.out) | exact HB.out)⟩
     ·rw [if_neg c7] at H
      exact absurd H (by simp)
    ·rw [if_neg c5] at H
     have c5b0 : decide (q0 < 4294967296) = false := decide_eq_false c5
     clear c5
     obtain rfl := Option.some.inj H
     go_enter Try.func40, Try.ntmps40
     go_wp2_with (first | ((with_reducible refine gate_dst (N := 1) rfl ?_); refine box_event ?hg (N := 1) ?hd (cs := #[.int .i64 q0, .int .i64 q1]) (t := 23) ?hr ?_; (case hd => rfl); (case hg => rfl); (case hr => first | (go_simp; done) | (go_simp; rfl)); intro gb101 hg w11 hbox hb; have n0_ := Ym (Yj (by repeat (first | (with_reducible first | exact HB.out | apply Yc | apply Ya | apply Yb) | exact HB.out)) hb); have n1_ := Ym (hbox); have n2_ := Ym ((by rw [hg]; exact (Yk (by repeat (first | (with_reducible first | exact HB.out | apply Yc | apply Ya | apply Yb) | exact HB.out))) : w.heap.size ≤ gb101)); have n3_ := Ym ((by rw [hg]; exact (Yk (by repeat (first | (with_reducible first | exact HB.out | apply Yc | apply Ya | apply Yb) | exact HB.out))) : w.heap.size ≤ gb101)); clear HB; have HB := n0_; have BK101 := n1_; have GW101 := n2_; have GE101 := n3_; clear n0_ n1_ n2_ n3_; clear hb hbox hg; have hcz12_0 : w11.cell? ⟨gb101, 0, none⟩ = some (.int .i64 q0) := (Yh BK101.out 0).trans rfl; have hcz12_1 : w11.cell? ⟨gb101, 1, none⟩ = some (.int .i64 q1) := (Yh BK101.out 1).trans rfl; have hfz12_0 := Yi BK101.out 0; have hfz12_1 := Yi BK101.out 1))
     repeat (go_quiet (first | ((with_reducible refine gate_dst (N := 1) rfl ?_); refine box_event ?hg (N := 1) ?hd (cs := #[.int .i64 q0, .int .i64 q1]) (t := 23) ?hr ?_; (case hd => rfl); (case hg => rfl); (case hr => first | (go_simp; done) | (go_simp; rfl)); intro gb101 hg w11 hbox hb; have n0_ := Ym (Yj (by repeat (first | (with_reducible first | exact HB.out | apply Yc | apply Ya | apply Yb) | exact HB.out)) hb); have n1_ := Ym (hbox); have n2_ := Ym ((by rw [hg]; exact (Yk (by repeat (first | (with_reducible first | exact HB.out | apply Yc | apply Ya | apply Yb) | exact HB.out))) : w.heap.size ≤ gb101)); have n3_ := Ym ((by rw [hg]; exact (Yk (by repeat (first | (with_reducible first | exact HB.out | apply Yc | apply Ya | apply Yb) | exact HB.out))) : w.heap.size ≤ gb101)); clear HB; have HB := n0_; have BK101 := n1_; have GW101 := n2_; have GE101 := n3_; clear n0_ n1_ n2_ n3_; clear hb hbox hg; have hcz12_0 : w11.cell? ⟨gb101, 0, none⟩ = some (.int .i64 q0) := (Yh BK101.out 0).trans rfl; have hcz12_1 : w11.cell? ⟨gb101, 1, none⟩ = some (.int .i64 q1) := (Yh BK101.out 1).trans rfl; have hfz12_0 := Yi BK101.out 0; have hfz12_1 := Yi BK101.out 1)); try go_wp2_with (first | ((with_reducible refine gate_dst (N := 1) rfl ?_); refine box_event ?hg (N := 1) ?hd (cs := #[.int .i64 q0, .int .i64 q1]) (t := 23) ?hr ?_; (case hd => rfl); (case hg => rfl); (case hr => first | (go_simp; done) | (go_simp; rfl)); intro gb101 hg w11 hbox hb; have n0_ := Ym (Yj (by repeat (first | (with_reducible first | exact HB.out | apply Yc | apply Ya | apply Yb) | exact HB.out)) hb); have n1_ := Ym (hbox); have n2_ := Ym ((by rw [hg]; exact (Yk (by repeat (first | (with_reducible first | exact HB.out | apply Yc | apply Ya | apply Yb) | exact HB.out))) : w.heap.size ≤ gb101)); have n3_ := Ym ((by rw [hg]; exact (Yk (by repeat (first | (with_reducible first | exact HB.out | apply Yc | apply Ya | apply Yb) | exact HB.out))) : w.heap.size ≤ gb101)); clear HB; have HB := n0_; have BK101 := n1_; have GW101 := n2_; have GE101 := n3_; clear n0_ n1_ n2_ n3_; clear hb hbox hg; have hcz12_0 : w11.cell? ⟨gb101, 0, none⟩ = some (.int .i64 q0) := (Yh BK101.out 0).trans rfl; have hcz12_1 : w11.cell? ⟨gb101, 1, none⟩ = some (.int .i64 q1) := (Yh BK101.out 1).trans rfl; have hfz12_0 := Yi BK101.out 0; have hfz12_1 := Yi BK101.out 1)))
     go_ret
     exact ⟨by first | rfl | (simp [errW_none, errW_some] <;> rfl) | (simp [*, errW_none, errW_some] <;> rfl), by repeat (first | (with_reducible first | exact HB.out | apply Yc | apply Ya | apply Yb | refine Yg ?_ GE101.out) | exact HB.out)⟩
   ·rw [if_neg c4] at H
    have c4b0 : decide (0 ≤ q0) = false := decide_eq_false c4
    clear c4
    obtain rfl := Option.some.inj H
    go_enter Try.func40, Try.ntmps40
    go_wp2_with (first | ((with_reducible refine gate_dst (N := 1) rfl ?_); refine box_event ?hg (N := 1) ?hd (cs := #[.int .i64 q0, .int .i64 q1]) (t := 23) ?hr ?_; (case hd => rfl); (case hg => rfl); (case hr => first | (go_simp; done) | (go_simp; rfl)); intro gb101 hg w13 hbox hb; have n0_ := Ym (Yj (by repeat (first | (with_reducible first | exact HB.out | apply Yc | apply Ya | apply Yb) | exact HB.out)) hb); have n1_ := Ym (hbox); have n2_ := Ym ((by rw [hg]; exact (Yk (by repeat (first | (with_reducible first | exact HB.out | apply Yc | apply Ya | apply Yb) | exact HB.out))) : w.heap.size ≤ gb101)); have n3_ := Ym ((by rw [hg]; exact (Yk (by repeat (first | (with_reducible first | exact HB.out | apply Yc | apply Ya | apply Yb) | exact HB.out))) : w.heap.size ≤ gb101)); clear HB; have HB := n0_; have BK101 := n1_; have GW101 := n2_; have GE101 := n3_; clear n0_ n1_ n2_ n3_; clear hb hbox hg; have hcz14_0 : w13.cell? ⟨gb101, 0, none⟩ = some (.int .i64 q0) := (Yh BK101.out 0).trans rfl; have hcz14_1 : w13.cell? ⟨gb101, 1, none⟩ = some (.int .i64 q1) := (Yh BK101.out 1).trans rfl; have hfz14_0 := Yi BK101.out 0; have hfz14_1 := Yi BK101.out 1))
    repeat (go_quiet (first | ((with_reducible refine gate_dst (N := 1) rfl ?_); refine box_event ?hg (N := 1) ?hd (cs := #[.int .i64 q0, .int .i64 q1]) (t := 23) ?hr ?_; (case hd => rfl); (case hg => rfl); (case hr => first | (go_simp; done) | (go_simp; rfl)); intro gb101 hg w13 hbox hb; have n0_ := Ym (Yj (by repeat (first | (with_reducible first | exact HB.out | apply Yc | apply Ya | apply Yb) | exact HB.out)) hb); have n1_ := Ym (hbox); have n2_ := Ym ((by rw [hg]; exact (Yk (by repeat (first | (with_reducible first | exact HB.out | apply Yc | apply Ya | apply Yb) | exact HB.out))) : w.heap.size ≤ gb101)); have n3_ := Ym ((by rw [hg]; exact (Yk (by repeat (first | (with_reducible first | exact HB.out | apply Yc | apply Ya | apply Yb) | exact HB.out))) : w.heap.size ≤ gb101)); clear HB; have HB := n0_; have BK101 := n1_; have GW101 := n2_; have GE101 := n3_; clear n0_ n1_ n2_ n3_; clear hb hbox hg; have hcz14_0 : w13.cell? ⟨gb101, 0, none⟩ = some (.int .i64 q0) := (Yh BK101.out 0).trans rfl; have hcz14_1 : w13.cell? ⟨gb101, 1, none⟩ = some (.int .i64 q1) := (Yh BK101.out 1).trans rfl; have hfz14_0 := Yi BK101.out 0; have hfz14_1 := Yi BK101.out 1)); try go_wp2_with (first | ((with_reducible refine gate_dst (N := 1) rfl ?_); refine box_event ?hg (N := 1) ?hd (cs := #[.int .i64 q0, .int .i64 q1]) (t := 23) ?hr ?_; (case hd => rfl); (case hg => rfl); (case hr => first | (go_simp; done) | (go_simp; rfl)); intro gb101 hg w13 hbox hb; have n0_ := Ym (Yj (by repeat (first | (with_reducible first | exact HB.out | apply Yc | apply Ya | apply Yb) | exact HB.out)) hb); have n1_ := Ym (hbox); have n2_ := Ym ((by rw [hg]; exact (Yk (by repeat (first | (with_reducible first | exact HB.out | apply Yc | apply Ya | apply Yb) | exact HB.out))) : w.heap.size ≤ gb101)); have n3_ := Ym ((by rw [hg]; exact (Yk (by repeat (first | (with_reducible first | exact HB.out | apply Yc | apply Ya | apply Yb) | exact HB.out))) : w.heap.size ≤ gb101)); clear HB; have HB := n0_; have BK101 := n1_; have GW101 := n2_; have GE101 := n3_; clear n0_ n1_ n2_ n3_; clear hb hbox hg; have hcz14_0 : w13.cell? ⟨gb101, 0, none⟩ = some (.int .i64 q0) := (Yh BK101.out 0).trans rfl; have hcz14_1 : w13.cell? ⟨gb101, 1, none⟩ = some (.int .i64 q1) := (Yh BK101.out 1).trans rfl; have hfz14_0 := Yi BK101.out 0; have hfz14_1 := Yi BK101.out 1)))
    go_ret
    exact ⟨by first | rfl | (simp [errW_none, errW_some] <;> rfl) | (simp [*, errW_none, errW_some] <;> rfl), by repeat (first | (with_reducible first | exact HB.out | apply Yc | apply Ya | apply Yb | refine Yg ?_ GE101.out) | exact HB.out)⟩
  ·rw [if_neg c3] at H
   have c3b0 : decide (q1 ≤ 32) = false := decide_eq_false c3
   clear c3
   obtain rfl := Option.some.inj H
   go_enter Try.func40, Try.ntmps40
   go_wp2_with (first | ((with_reducible refine gate_dst (N := 1) rfl ?_); refine box_event ?hg (N := 1) ?hd (cs := #[.int .i64 q0, .int .i64 q1]) (t := 23) ?hr ?_; (case hd => rfl); (case hg => rfl); (case hr => first | (go_simp; done) | (go_simp; rfl)); intro gb101 hg w15 hbox hb; have n0_ := Ym (Yj (by repeat (first | (with_reducible first | exact HB.out | apply Yc | apply Ya | apply Yb) | exact HB.out)) hb); have n1_ := Ym (hbox); have n2_ := Ym ((by rw [hg]; exact (Yk (by repeat (first | (with_reducible first | exact HB.out | apply Yc | apply Ya | apply Yb) | exact HB.out))) : w.heap.size ≤ gb101)); have n3_ := Ym ((by rw [hg]; exact (Yk (by repeat (first | (with_reducible first | exact HB.out | apply Yc | apply Ya | apply Yb) | exact HB.out))) : w.heap.size ≤ gb101)); clear HB; have HB := n0_; have BK101 := n1_; have GW101 := n2_; have GE101 := n3_; clear n0_ n1_ n2_ n3_; clear hb hbox hg; have hcz16_0 : w15.cell? ⟨gb101, 0, none⟩ = some (.int .i64 q0) := (Yh BK101.out 0).trans rfl; have hcz16_1 : w15.cell? ⟨gb101, 1, none⟩ = some (.int .i64 q1) := (Yh BK101.out 1).trans rfl; have hfz16_0 := Yi BK101.out 0; have hfz16_1 := Yi BK101.out 1))
   repeat (go_quiet (first | ((with_reducible refine gate_dst (N := 1) rfl ?_); refine box_event ?hg (N := 1) ?hd (cs := #[.int .i64 q0, .int .i64 q1]) (t := 23) ?hr ?_; (case hd => rfl); (case hg => rfl); (case hr => first | (go_simp; done) | (go_simp; rfl)); intro gb101 hg w15 hbox hb; have n0_ := Ym (Yj (by repeat (first | (with_reducible first | exact HB.out | apply Yc | apply Ya | apply Yb) | exact HB.out)) hb); have n1_ := Ym (hbox); have n2_ := Ym ((by rw [hg]; exact (Yk (by repeat (first | (with_reducible first | exact HB.out | apply Yc | apply Ya | apply Yb) | exact HB.out))) : w.heap.size ≤ gb101)); have n3_ := Ym ((by rw [hg]; exact (Yk (by repeat (first | (with_reducible first | exact HB.out | apply Yc | apply Ya | apply Yb) | exact HB.out))) : w.heap.size ≤ gb101)); clear HB; have HB := n0_; have BK101 := n1_; have GW101 := n2_; have GE101 := n3_; clear n0_ n1_ n2_ n3_; clear hb hbox hg; have hcz16_0 : w15.cell? ⟨gb101, 0, none⟩ = some (.int .i64 q0) := (Yh BK101.out 0).trans rfl; have hcz16_1 : w15.cell? ⟨gb101, 1, none⟩ = some (.int .i64 q1) := (Yh BK101.out 1).trans rfl; have hfz16_0 := Yi BK101.out 0; have hfz16_1 := Yi BK101.out 1)); try go_wp2_with (first | ((with_reducible refine gate_dst (N := 1) rfl ?_); refine box_event ?hg (N := 1) ?hd (cs := #[.int .i64 q0, .int .i64 q1]) (t := 23) ?hr ?_; (case hd => rfl); (case hg => rfl); (case hr => first | (go_simp; done) | (go_simp; rfl)); intro gb101 hg w15 hbox hb; have n0_ := Ym (Yj (by repeat (first | (with_reducible first | exact HB.out | apply Yc | apply Ya | apply Yb) | exact HB.out)) hb); have n1_ := Ym (hbox); have n2_ := Ym ((by rw [hg]; exact (Yk (by repeat (first | (with_reducible first | exact HB.out | apply Yc | apply Ya | apply Yb) | exact HB.out))) : w.heap.size ≤ gb101)); have n3_ := Ym ((by rw [hg]; exact (Yk (by repeat (first | (with_reducible first | exact HB.out | apply Yc | apply Ya | apply Yb) | exact HB.out))) : w.heap.size ≤ gb101)); clear HB; have HB := n0_; have BK101 := n1_; have GW101 := n2_; have GE101 := n3_; clear n0_ n1_ n2_ n3_; clear hb hbox hg; have hcz16_0 : w15.cell? ⟨gb101, 0, none⟩ = some (.int .i64 q0) := (Yh BK101.out 0).trans rfl; have hcz16_1 : w15.cell? ⟨gb101, 1, none⟩ = some (.int .i64 q1) := (Yh BK101.out 1).trans rfl; have hfz16_0 := Yi BK101.out 0; have hfz16_1 := Yi BK101.out 1)))
   go_ret
   exact ⟨by first | rfl | (simp [errW_none, errW_some] <;> rfl) | (simp [*, errW_none, errW_some] <;> rfl), by repeat (first | (with_reducible first | exact HB.out | apply Yc | apply Ya | apply Yb | refine Yg ?_ GE101.out) | exact HB.out)⟩
 ·rw [if_neg c2] at H
  have c2b0 : decide (0 ≤ q1) = false := decide_eq_false c2
  clear c2
  obtain rfl := Option.some.inj H
  go_enter Try.func40, Try.ntmps40
  go_wp2_with (first | ((with_reducible refine gate_dst (N := 1) rfl ?_); refine box_event ?hg (N := 1) ?hd (cs := #[.int .i64 q0, .int .i64 q1]) (t := 23) ?hr ?_; (case hd => rfl); (case hg => rfl); (case hr => first | (go_simp; done) | (go_simp; rfl)); intro gb101 hg w17 hbox hb; have n0_ := Ym (Yj (by repeat (first | (with_reducible first | exact HB.out | apply Yc | apply Ya | apply Yb) | exact HB.out)) hb); have n1_ := Ym (hbox); have n2_ := Ym ((by rw [hg]; exact (Yk (by repeat (first | (with_reducible first | exact HB.out | apply Yc | apply Ya | apply Yb) | exact HB.out))) : w.heap.size ≤ gb101)); have n3_ := Ym ((by rw [hg]; exact (Yk (by repeat (first | (with_reducible first | exact HB.out | apply Yc | apply Ya | apply Yb) | exact HB.out))) : w.heap.size ≤ gb101)); clear HB; have HB := n0_; have BK101 := n1_; have GW101 := n2_; have GE101 := n3_; clear n0_ n1_ n2_ n3_; clear hb hbox hg; have hcz18_0 : w17.cell? ⟨gb101, 0, none⟩ = some (.int .i64 q0) := (Yh BK101.out 0).trans rfl; have hcz18_1 : w17.cell? ⟨gb101, 1, none⟩ = some (.int .i64 q1) := (Yh BK101.out 1).trans rfl; have hfz18_0 := Yi BK101.out 0; have hfz18_1 := Yi BK101.out 1))
  repeat (go_quiet (first | ((with_reducible refine gate_dst (N := 1) rfl ?_); refine box_event ?hg (N := 1) ?hd (cs := #[.int .i64 q0, .int .i64 q1]) (t := 23) ?hr ?_; (case hd => rfl); (case hg => rfl); (case hr => first | (go_simp; done) | (go_simp; rfl)); intro gb101 hg w17 hbox hb; have n0_ := Ym (Yj (by repeat (first | (with_reducible first | exact HB.out | apply Yc | apply Ya | apply Yb) | exact HB.out)) hb); have n1_ := Ym (hbox); have n2_ := Ym ((by rw [hg]; exact (Yk (by repeat (first | (with_reducible first | exact HB.out | apply Yc | apply Ya | apply Yb) | exact HB.out))) : w.heap.size ≤ gb101)); have n3_ := Ym ((by rw [hg]; exact (Yk (by repeat (first | (with_reducible first | exact HB.out | apply Yc | apply Ya | apply Yb) | exact HB.out))) : w.heap.size ≤ gb101)); clear HB; have HB := n0_; have BK101 := n1_; have GW101 := n2_; have GE101 := n3_; clear n0_ n1_ n2_ n3_; clear hb hbox hg; have hcz18_0 : w17.cell? ⟨gb101, 0, none⟩ = some (.int .i64 q0) := (Yh BK101.out 0).trans rfl; have hcz18_1 : w17.cell? ⟨gb101, 1, none⟩ = some (.int .i64 q1) := (Yh BK101.out 1).trans rfl; have hfz18_0 := Yi BK101.out 0; have hfz18_1 := Yi BK101.out 1)); try go_wp2_with (first | ((with_reducible refine gate_dst (N := 1) rfl ?_); refine box_event ?hg (N := 1) ?hd (cs := #[.int .i64 q0, .int .i64 q1]) (t := 23) ?hr ?_; (case hd => rfl); (case hg => rfl); (case hr => first | (go_simp; done) | (go_simp; rfl)); intro gb101 hg w17 hbox hb; have n0_ := Ym (Yj (by repeat (first | (with_reducible first | exact HB.out | apply Yc | apply Ya | apply Yb) | exact HB.out)) hb); have n1_ := Ym (hbox); have n2_ := Ym ((by rw [hg]; exact (Yk (by repeat (first | (with_reducible first | exact HB.out | apply Yc | apply Ya | apply Yb) | exact HB.out))) : w.heap.size ≤ gb101)); have n3_ := Ym ((by rw [hg]; exact (Yk (by repeat (first | (with_reducible first | exact HB.out | apply Yc | apply Ya | apply Yb) | exact HB.out))) : w.heap.size ≤ gb101)); clear HB; have HB := n0_; have BK101 := n1_; have GW101 := n2_; have GE101 := n3_; clear n0_ n1_ n2_ n3_; clear hb hbox hg; have hcz18_0 : w17.cell? ⟨gb101, 0, none⟩ = some (.int .i64 q0) := (Yh BK101.out 0).trans rfl; have hcz18_1 : w17.cell? ⟨gb101, 1, none⟩ = some (.int .i64 q1) := (Yh BK101.out 1).trans rfl; have hfz18_0 := Yi BK101.out 0; have hfz18_1 := Yi BK101.out 1)))
  go_ret
  exact ⟨by first | rfl | (simp [errW_none, errW_some] <;> rfl) | (simp [*, errW_none, errW_some] <;> rfl), by repeat (first | (with_reducible first | exact HB.out | apply Yc | apply Ya | apply Yb | refine Yg ?_ GE101.out) | exact HB.out)⟩

/-! ### addr_Index: function 44 -/
def addr_Index.j0 : Nat → Int → Bool → Int → Int → Option (Int)
 | 0, _, _, _, _ => none
 | k + 1, x1, x26, x103000, x103001 => if x26 = true then (some (-1)) else (some (wrap64 (x1 - x103000)))
def addr_Index.f (k : Nat) (q0 : Int) (q1 : Int) (a1 : Int) : Option (Int) := (addr_May.f q0 q1).bind fun t103 => (if t103 = true then (if a1 < 0 then (addr_Index.j0 k a1 true q0 q1) else (if a1 ≥ 4294967296 then (addr_Index.j0 k a1 true q0 q1) else (if 0 ≤ (wrap64 (32 - q1)) then (addr_Index.j0 k a1 ((shr .i64 (Go.bits .xor .i64 a1 q0) (wrap64 (32 - q1))) != 0) q0 q1) else (none)))) else (addr_Index.j0 k a1 true q0 q1))
theorem addr_Index.mono_l : ∀ k, (∀ y0 y1 y2 y3, LeO (addr_Index.j0 k y0 y1 y2 y3) (addr_Index.j0 (k + 1) y0 y1 y2 y3))
 | 0 => fun _ _ _ _ r h => by simp [addr_Index.j0] at h
 | k + 1 => by
  have ih0 := addr_Index.mono_l k
  ·intro y0 y1 y2 y3
   unfold addr_Index.j0
   repeat' first
   | (with_reducible exact ih0 _ _ _ _)
   | (with_reducible exact LeO.refl _)
   | (with_reducible exact LeO.none _)
   | (with_reducible refine LeO.ite ?_ ?_)
   | (with_reducible refine LeO.bind ?_ (fun _ => ?_))
   | exact ih0 _ _ _ _
   | exact LeO.none _
   | refine LeO.ite ?_ ?_
   | refine LeO.bind ?_ (fun _ => ?_)
theorem addr_Index.mono : ∀ a0 a1 a2 k, LeO (addr_Index.f k a0 a1 a2) (addr_Index.f (k + 1) a0 a1 a2) := by
 intro a0 a1 a2 k
 have ih0 := addr_Index.mono_l k
 unfold addr_Index.f
 repeat' first
   | (with_reducible exact ih0 _ _ _ _)
   | (with_reducible exact LeO.refl _)
   | (with_reducible exact LeO.none _)
   | (with_reducible refine LeO.ite ?_ ?_)
   | (with_reducible refine LeO.bind ?_ (fun _ => ?_))
   | exact ih0 _ _ _ _
   | exact LeO.none _
   | refine LeO.ite ?_ ?_
   | refine LeO.bind ?_ (fun _ => ?_)
set_option maxHeartbeats 8000000 in
set_option maxRecDepth 100000 in
theorem addr_Index.calls (k : Nat) (q0 : Int) (q1 : Int) (a1 : Int) (r : Int) (w : World) (h : addr_Index.f k q0 q1 a1 = some r) :
  Calls Try.prog 44 #[.agg #[.int .i64 q0, .int .i64 q1], .int .i64 a1] w fun e w' => e = .returned (.int .i64 r) ∧ Below w.heap.size w w' := by
 have hu23 := Try.underlying23
 have HB := Ym (Below.refl w.heap.size w)
 have H : ((addr_May.f q0 q1).bind fun t103 => (if t103 = true then (if a1 < 0 then (addr_Index.j0 k a1 true q0 q1) else (if a1 ≥ 4294967296 then (addr_Index.j0 k a1 true q0 q1) else (if 0 ≤ (wrap64 (32 - q1)) then (addr_Index.j0 k a1 ((shr .i64 (Go.bits .xor .i64 a1 q0) (wrap64 (32 - q1))) != 0) q0 q1) else (none)))) else (addr_Index.j0 k a1 true q0 q1))) = some r := h
 clear h
 have HC3 := Ym H
 clear H
 go_enter Try.func44, Try.ntmps44
 go_upto_region 1 with (first | ((with_reducible refine gate_dst (N := 2) rfl ?_); refine box_event ?hg (N := 2) ?hd (cs := #[.int .i64 q0, .int .i64 q1]) (t := 23) ?hr ?_; (case hd => rfl); (case hg => rfl); (case hr => first | (go_simp; done) | (go_simp; rfl)); intro gb102 hg w4 hbox hb; have n0_ := Ym (Yj (by repeat (first | (with_reducible first | exact HB.out | apply Yc | apply Ya | apply Yb) | exact HB.out)) hb); have n1_ := Ym (hbox); have n2_ := Ym ((by rw [hg]; exact (Yk (by repeat (first | (with_reducible first | exact HB.out | apply Yc | apply Ya | apply Yb) | exact HB.out))) : w.heap.size ≤ gb102)); have n3_ := Ym ((by rw [hg]; exact (Yk (by repeat (first | (with_reducible first | exact HB.out | apply Yc | apply Ya | apply Yb) | exact HB.out))) : w.heap.size ≤ gb102)); clear HB; have HB := n0_; have BK102 := n1_; have GW102 := n2_; have GE102 := n3_; clear n0_ n1_ n2_ n3_; clear hb hbox hg))
 (try simp only [Act.put, Yo, Yp, Yq])
 go_cut [26] (fun v26 wc => ∃ (kq : Nat) (x26_2 : Bool), v26 = .bool x26_2 ∧ Aside0 (addr_Index.j0 kq a1 x26_2 q0 q1 = some r) ∧ Aside0 (kq ≤ k) ∧ Aside0 (wc.heap[gb102]? = some (.cells #[.int .i64 q0, .int .i64 q1] 23 (0, 0))) ∧ Aside0 (Below w.heap.size w wc))
 case first =>
  have H := HC3.out
  clear HC3
  replace H := Option.bind_eq_some_iff.mp H
  obtain ⟨t103, A50, H⟩ := H
  replace H : (if t103 = true then (if a1 < 0 then (addr_Index.j0 k a1 true q0 q1) else (if a1 ≥ 4294967296 then (addr_Index.j0 k a1 true q0 q1) else (if 0 ≤ (wrap64 (32 - q1)) then (addr_Index.j0 k a1 ((shr .i64 (Go.bits .xor .i64 a1 q0) (wrap64 (32 - q1))) != 0) q0 q1) else (none)))) else (addr_Index.j0 k a1 true q0 q1)) = some r := H
  have A5 := Ym A50
  clear A50
  by_cases c6 : t103 = true
  ·subst c6
   have H1 : (if a1 < 0 then (addr_Index.j0 k a1 true q0 q1) else (if a1 ≥ 4294967296 then (addr_Index.j0 k a1 true q0 q1) else (if 0 ≤ (wrap64 (32 - q1)) then (addr_Index.j0 k a1 ((shr .i64 (Go.bits .xor .i64 a1 q0) (wrap64 (32 - q1))) != 0) q0 q1) else (none)))) = some r := by rw [if_pos rfl] at H; exact H
   clear H
   have H := H1
   clear H1
   by_cases c7 : a1 < 0
   ·rw [if_pos c7] at H
    have c7b0 : decide (a1 < 0) = true := decide_eq_true c7
    clear c7
    (first | rw [c7b0] | (simp only [i64_w, i32_w]; rw [c7b0]) | skip)
    have H' := Ym H
    clear H
    have hcz8_0 : w4.cell? ⟨gb102, 0, none⟩ = some (.int .i64 q0) := (Yh BK102.out 0).trans rfl
    have hcz8_1 : w4.cell? ⟨gb102, 1, none⟩ = some (.int .i64 q1) := (Yh BK102.out 1).trans rfl
    have hfz8_0 := Yi BK102.out 0
    have hfz8_1 := Yi BK102.out 1
    go_wp2_with (first | ((with_reducible refine gate_callee (f := 40) rfl ?_); refine goesL_ (some 6) rfl rfl Try.func40 (by kernel_rfl) rfl #[.agg #[.int .i64 q0, .int .i64 q1]] rfl (by (try simp only [List.map_toArray, List.map_cons, List.map_nil]); first | done | rfl | (simp only [List.length_drop, List.length_take]; rfl)) ?_; (with_reducible refine (addr_May.calls q0 q1 true _ A5.out).mono ?_); rintro e w9 ⟨rfl, hb⟩; refine ⟨_, rfl, ?_⟩; have n0_ := Ym (Yl (g := gb102) (o := .cells #[.int .i64 q0, .int .i64 q1] 23 (0, 0)) (by (with_reducible repeat (first | refine Yd ?_ _ | refine Yf ?_ | refine Ye ?_ _)); exact BK102.out) hb); have n1_ := Ym (Yj (by repeat (first | (with_reducible first | exact HB.out | apply Yc | apply Ya | apply Yb | refine Yg ?_ GE102.out) | exact HB.out)) hb); clear BK102; clear HB; have BK102 := n0_; have HB := n1_; clear n0_ n1_; (try clear hb); (try clear hb2); (try clear hk); (try clear hi)))
    go_meet
    case rel => exact ⟨_, (true), (by first | rfl | (simp; done) | (simp [*]; done)), H', ⟨by first | omega | exact Nat.le_refl _⟩, ⟨by (with_reducible repeat (first | refine Yd ?_ _ | refine Yf ?_ | refine Ye ?_ _)); exact BK102.out⟩, ⟨by repeat (first | (with_reducible first | exact HB.out | apply Yc | apply Ya | apply Yb | refine Yg ?_ GE102.out) | exact HB.out)⟩⟩
   ·rw [if_neg c7] at H
    have c7b0 : decide (a1 < 0) = false := decide_eq_false c7
    clear c7
    (first | rw [c7b0] | (simp only [i64_w, i32_w]; rw [c7b0]) | skip)
    by_cases c10 : a1 ≥ 4294967296
    ·rw [if_pos c10] at H
     have c10b0 : decide (4294967296 ≤ a1) = true := decide_eq_true c10
     clear c10
     have H' := Ym H
     clear H
     have hcz11_0 : w4.cell? ⟨gb102, 0, none⟩ = some (.int .i64 q0) := (Yh BK102.out 0).trans rfl
     have hcz11_1 : w4.cell? ⟨gb102, 1, none⟩ = some (.int .i64 q1) := (Yh BK102.out 1).trans rfl
     have hfz11_0 := Yi BK102.out 0
     have hfz11_1 := Yi BK102.out 1
     go_wp2_with (first | ((with_reducible refine gate_callee (f := 40) rfl ?_); refine goesL_ (some 6) rfl rfl Try.func40 (by kernel_rfl) rfl #[.agg #[.int .i64 q0, .int .i64 q1]] rfl (by (try simp only [List.map_toArray, List.map_cons, List.map_nil]); first | done | rfl | (simp only [List.length_drop, List.length_take]; rfl)) ?_; (with_reducible refine (addr_May.calls q0 q1 true _ A5.out).mono ?_); rintro e w12 ⟨rfl, hb⟩; refine ⟨_, rfl, ?_⟩; have n0_ := Ym (Yl (g := gb102) (o := .cells #[.int .i64 q0, .int .i64 q1] 23 (0, 0)) (by (with_reducible repeat (first | refine Yd ?_ _ | refine Yf ?_ | refine Ye ?_ _)); exact BK102.out) hb); have n1_ := Ym (Yj (by repeat (first | (with_reducible first | exact HB.out | apply Yc | apply Ya | apply Yb | refine Yg ?_ GE102.out) | exact HB.out)) hb); clear BK102; clear HB; have BK102 := n0_; have HB := n1_; clear n0_ n1_; (try clear hb); (try clear hb2); (try clear hk); (try clear hi)))
     go_meet
     case rel => exact ⟨_, (true), (by first | rfl | (simp; done) | (simp [*]; done)), H', ⟨by first | omega | exact Nat.le_refl _⟩, ⟨by (with_reducible repeat (first | refine Yd ?_ _ | refine Yf ?_ | refine Ye ?_ _)); exact BK102.out⟩, ⟨by repeat (first | (with_reducible first | exact HB.out | apply Yc | apply Ya | apply Yb | refine Yg ?_ GE102.out) | exact HB.out)⟩⟩
    ·rw [if_neg c10] at H
     have c10b0 : decide (4294967296 ≤ a1) = false := decide_eq_false c10
     clear c10
     obtain ⟨ji13, hji13⟩ : ∃ j_ : Int, (wrap64 (32 - q1)) = j_ := ⟨_, rfl⟩
     replace H : (if 0 ≤ (ji13) then (addr_Index.j0 k a1 ((shr .i64 (Go.bits .xor .i64 a1 q0) (ji13)) != 0) q0 q1) else (none)) = some r := by first | (rw [hji13] at H; exact H) | (simp only [hji13] at H ⊢; exact H)
     (try rw [hji13] at A5)
     have hji13w : (IntKind.i64.wrap (32 - q1)) = ji13 := (i64_w _).trans hji13
     by_cases c14 : 0 ≤ (ji13)
     ·rw [if_pos c14] at H
      have c14b0 := eq_true c14
      have c14b1 : decide (0 ≤ (ji13)) = true := decide_eq_true c14
      clear c14
      obtain ⟨ji15, hji15⟩ : ∃ j_ : Int, (shr .i64 (Go.bits .xor .i64 a1 q0) (ji13)) = j_ := ⟨_, rfl⟩
      replace H : (addr_Index.j0 k a1 ((ji15) != 0) q0 q1) = some r := by first | (rw [hji15] at H; exact H) | (simp only [hji15] at H ⊢; exact H)
      (try rw [hji15] at A5)
      have hji15_ : ((Go.bits .xor .i64 a1 q0) / 2 ^ min (ji13).toNat 64) = ji15 := hji15
      have hji15z : (ji13) ≤ 64 → ((Go.bits .xor .i64 a1 q0) / 2 ^ (ji13).toNat) = ji15 := shr_small hji15
      have H' := Ym H
      clear H
      have hcz16_0 : w4.cell? ⟨gb102, 0, none⟩ = some (.int .i64 q0) := (Yh BK102.out 0).trans rfl
      have hcz16_1 : w4.cell? ⟨gb102, 1, none⟩ = some (.int .i64 q1) := (Yh BK102.out 1).trans rfl
      have hfz16_0 := Yi BK102.out 0
      have hfz16_1 := Yi BK102.out 1
      go_wp2_with (first | ((with_reducible refine gate_callee (f := 40) rfl ?_); refine goesL_ (some 6) rfl rfl Try.func40 (by kernel_rfl) rfl #[.agg #[.int .i64 q0, .int .i64 q1]] rfl (by (try simp only [List.map_toArray, List.map_cons, List.map_nil]); first | done | rfl | (simp only [List.length_drop, List.length_take]; rfl)) ?_; (with_reducible refine (addr_May.calls q0 q1 true _ A5.out).mono ?_); rintro e w17 ⟨rfl, hb⟩; refine ⟨_, rfl, ?_⟩; have n0_ := Ym (Yl (g := gb102) (o := .cells #[.int .i64 q0, .int .i64 q1] 23 (0, 0)) (by (with_reducible repeat (first | refine Yd ?_ _ | refine Yf ?_ | refine Ye ?_ _)); exact BK102.out) hb); have n1_ := Ym (Yj (by repeat (first | (with_reducible first | exact HB.out | apply Yc | apply Ya | apply Yb | refine Yg ?_ GE102.out) | exact HB.out)) hb); clear BK102; clear HB; have BK102 := n0_; have HB := n1_; clear n0_ n1_; (try clear hb); (try clear hb2); (try clear hk); (try clear hi); have hcz18_0 : w17.cell? ⟨gb102, 0, none⟩ = some (.int .i64 q0) := (Yh BK102.out 0).trans rfl; have hcz18_1 : w17.cell? ⟨gb102, 1, none⟩ = some (.int .i64 q1) := (Yh BK102.out 1).trans rfl; have hfz18_0 := Yi BK102.out 0; have hfz18_1 := Yi BK102.out 1))
      go_meet
      case rel => exact ⟨_, (((ji15) != 0)), (by first | rfl | (simp; done) | (simp only [← hji15] <;> (first | rfl | simp)) | (simp [*]; done)), H', ⟨by first | omega | exact Nat.le_refl _⟩, ⟨by (with_reducible repeat (first | refine Yd ?_ _ | refine Yf ?_ | refine Ye ?_ _)); exact BK102.out⟩, ⟨by repeat (first | (with_reducible first | exact HB.out | apply Yc | apply Ya | apply Yb | refine Yg ?_ GE102.out) | exact HB.out)⟩⟩
     ·rw [if_neg c14] at H
      exact absurd H (by simp)
  ·replace c6 := Bool.eq_false_iff.mpr c6
   subst c6
   have H1 : (addr_Index.j0 k a1 true q0 q1) = some r := by rw [if_neg (show ¬ (false = true) by decide)] at H; exact H
   clear H
   have H := H1
   clear H1
   have H' := Ym H
   clear H
   have hcz19_0 : w4.cell? ⟨gb102, 0, none⟩ = some (.int .i64 q0) := (Yh BK102.out 0).trans rfl
   have hcz19_1 : w4.cell? ⟨gb102, 1, none⟩ = some (.int .i64 q1) := (Yh BK102.out 1).trans rfl
   have hfz19_0 := Yi BK102.out 0
   have hfz19_1 := Yi BK102.out 1
   go_wp2_with (first | ((with_reducible refine gate_callee (f := 40) rfl ?_); refine goesL_ (some 6) rfl rfl Try.func40 (by kernel_rfl) rfl #[.agg #[.int .i64 q0, .int .i64 q1]] rfl (by (try simp only [List.map_toArray, List.map_cons, List.map_nil]); first | done | rfl | (simp only [List.length_drop, List.length_take]; rfl)) ?_; (with_reducible refine (addr_May.calls q0 q1 false _ A5.out).mono ?_); rintro e w20 ⟨rfl, hb⟩; refine ⟨_, rfl, ?_⟩; have n0_ := Ym (Yl (g := gb102) (o := .cells #[.int .i64 q0, .int .i64 q1] 23 (0, 0)) (by (with_reducible repeat (first | refine Yd ?_ _ | refine Yf ?_ | refine Ye ?_ _)); exact BK102.out) hb); have n1_ := Ym (Yj (by repeat (first | (with_reducible first | exact HB.out | apply Yc | apply Ya | apply Yb | refine Yg ?_ GE102.out) | exact HB.out)) hb); clear BK102; clear HB; have BK102 := n0_; have HB := n1_; clear n0_ n1_; (try clear hb); (try clear hb2); (try clear hk); (try clear hi)))
   go_meet
   case rel => exact ⟨_, (true), (by first | rfl | (simp; done) | (simp [*]; done)), H', ⟨by first | omega | exact Nat.le_refl _⟩, ⟨by (with_reducible repeat (first | refine Yd ?_ _ | refine Yf ?_ | refine Ye ?_ _)); exact BK102.out⟩, ⟨by repeat (first | (with_reducible first | exact HB.out | apply Yc | apply Ya | apply Yb | refine Yg ?_ GE102.out) | exact HB.out)⟩⟩
 case rest =>
  clear HC3
  try clear c1
  try clear p2
  try clear c4
  try clear c6
  try clear p6
  try clear c7
  try clear c7b0
  try clear c10
  try clear c10b0
  try clear c14
  try clear c14b0
  try clear c14b1
  try clear hcz11_0
  try clear hcz11_1
  try clear hcz16_0
  try clear hcz16_1
  try clear hcz18_0
  try clear hcz18_1
  try clear hcz19_0
  try clear hcz19_1
  try clear hcz8_0
  try clear hcz8_1
  try clear hfz11_0
  try clear hfz11_1
  try clear hfz16_0
  try clear hfz16_1
  try clear hfz18_0
  try clear hfz18_1
  try clear hfz19_0
  try clear hfz19_1
  try clear hfz8_0
  try clear hfz8_1
  obtain ⟨kq, x26_2, rfl, HA, HJ2, BK102, HB⟩ := hcut
  cases kq with
  | zero => exact absurd HA.out (by simp [addr_Index.j0])
  | succ kj2 =>
   have H := HA.out
   clear HA
   simp only [addr_Index.j0] at H
   by_cases c21 : x26_2 = true
   ·subst c21
    have H1 : (some (-1)) = some r := by rw [if_pos rfl] at H; exact H
    clear H
    have H := H1
    clear H1
    obtain rfl := Option.some.inj H
    go_wp2
    go_ret
    exact ⟨by first | rfl | (simp [errW_none, errW_some] <;> rfl) | (simp [*, errW_none, errW_some] <;> rfl), by repeat (first | (with_reducible first | exact HB.out | apply Yc | apply Ya | apply Yb | refine Yg ?_ GE102.out) | exact HB.out)⟩
   ·replace c21 := Bool.eq_false_iff.mpr c21
    subst c21
    have H1 : (some (wrap64 (a1 - q0))) = some r := by rw [if_neg (show ¬ (false = true) by decide)] at H; exact H
    clear H
    have H := H1
    clear H1
    obtain rfl := Option.some.inj H
    have hcz22_0 : wc.cell? ⟨gb102, 0, none⟩ = some (.int .i64 q0) := (Yh BK102.out 0).trans rfl
    have hcz22_1 : wc.cell? ⟨gb102, 1, none⟩ = some (.int .i64 q1) := (Yh BK102.out 1).trans rfl
    have hfz22_0 := Yi BK102.out 0
    have hfz22_1 := Yi BK102.out 1
    go_wp2
    go_ret
    exact ⟨by first | rfl | (simp [errW_none, errW_some] <;> rfl) | (simp [*, errW_none, errW_some] <;> rfl), by repeat (first | (with_reducible first | exact HB.out | apply Yc | apply Ya | apply Yb | refine Yg ?_ GE102.out) | exact HB.out)⟩

/-! ### addr_Meet: function 33 -/
def addr_Meet.f (k : Nat) (q0 : Int) (q1 : Int) (a1_0 : Int) (a1_1 : Int) : Option (Bool) := (addr_May.f q0 q1).bind fun t106 => (if t106 = true then ((addr_May.f a1_0 a1_1).bind fun t107 => (if t107 = true then ((addr_Index.f k q0 q1 a1_0).bind fun t108 => (if t108 = (-1) then ((addr_Index.f k a1_0 a1_1 q0).bind fun t109 => (some (t109 != (-1)))) else (some true))) else (some false))) else (some false))
theorem addr_Meet.mono : ∀ a0 a1 a2 a3 k, LeO (addr_Meet.f k a0 a1 a2 a3) (addr_Meet.f (k + 1) a0 a1 a2 a3) := by
 intro a0 a1 a2 a3 k
 unfold addr_Meet.f
 repeat' first
   | (with_reducible exact addr_Index.mono _ _ _ _)
   | (with_reducible exact LeO.refl _)
   | (with_reducible exact LeO.none _)
   | (with_reducible refine LeO.ite ?_ ?_)
   | (with_reducible refine LeO.bind ?_ (fun _ => ?_))
   | exact addr_Index.mono _ _ _ _
   | exact LeO.none _
   | refine LeO.ite ?_ ?_
   | refine LeO.bind ?_ (fun _ => ?_)
set_option maxHeartbeats 8000000 in
set_option maxRecDepth 100000 in
theorem addr_Meet.calls (k : Nat) (q0 : Int) (q1 : Int) (a1_0 : Int) (a1_1 : Int) (r : Bool) (w : World) (h : addr_Meet.f k q0 q1 a1_0 a1_1 = some r) :
  Calls Try.prog 33 #[.agg #[.int .i64 q0, .int .i64 q1], .agg #[.int .i64 a1_0, .int .i64 a1_1]] w fun e w' => e = .returned (.bool r) ∧ Below w.heap.size w w' := by
 have hu23 := Try.underlying23
 have HB := Ym (Below.refl w.heap.size w)
 have H : ((addr_May.f q0 q1).bind fun t106 => (if t106 = true then ((addr_May.f a1_0 a1_1).bind fun t107 => (if t107 = true then ((addr_Index.f k q0 q1 a1_0).bind fun t108 => (if t108 = (-1) then ((addr_Index.f k a1_0 a1_1 q0).bind fun t109 => (some (t109 != (-1)))) else (some true))) else (some false))) else (some false))) = some r := h
 clear h
 replace H := Option.bind_eq_some_iff.mp H
 obtain ⟨t106, A30, H⟩ := H
 replace H : (if t106 = true then ((addr_May.f a1_0 a1_1).bind fun t107 => (if t107 = true then ((addr_Index.f k q0 q1 a1_0).bind fun t108 => (if t108 = (-1) then ((addr_Index.f k a1_0 a1_1 q0).bind fun t109 => (some (t109 != (-1)))) else (some true))) else (some false))) else (some false)) = some r := H
 have A3 := Ym A30
 clear A30
 by_cases c4 : t106 = true
 ·subst c4
  have H1 : ((addr_May.f a1_0 a1_1).bind fun t107 => (if t107 = true then ((addr_Index.f k q0 q1 a1_0).bind fun t108 => (if t108 = (-1) then ((addr_Index.f k a1_0 a1_1 q0).bind fun t109 => (some (t109 != (-1)))) else (some true))) else (some false))) = some r := by rw [if_pos rfl] at H; exact H
  clear H
  have H := H1
  clear H1
  replace H := Option.bind_eq_some_iff.mp H
  obtain ⟨t107, A50, H⟩ := H
  replace H : (if t107 = true then ((addr_Index.f k q0 q1 a1_0).bind fun t108 => (if t108 = (-1) then ((addr_Index.f k a1_0 a1_1 q0).bind fun t109 => (some (t109 != (-1)))) else (some true))) else (some false)) = some r := H
  have A5 := Ym A50
  clear A50
  by_cases c6 : t107 = true
  ·subst c6
   have H1 : ((addr_Index.f k q0 q1 a1_0).bind fun t108 => (if t108 = (-1) then ((addr_Index.f k a1_0 a1_1 q0).bind fun t109 => (some (t109 != (-1)))) else (some true))) = some r := by rw [if_pos rfl] at H; exact H
   clear H
   have H := H1
   clear H1
   replace H := Option.bind_eq_some_iff.mp H
   obtain ⟨t108, A70, H⟩ := H
   replace H : (if t108 = (-1) then ((addr_Index.f k a1_0 a1_1 q0).bind fun t109 => (some (t109 != (-1)))) else (some true)) = some r := H
   have A7 := Ym A70
   clear A70
   by_cases c8 : t108 = (-1)
   ·rw [if_pos c8] at H
    have c8b0 : (t108 == (-1)) = true := beq_iff_eq.mpr c8
    have c8b1 : (t108 != (-1)) = false := bne_eq_false_iff_eq.mpr c8
    clear c8
    replace H := Option.bind_eq_some_iff.mp H
    obtain ⟨t109, A90, H⟩ := H
    replace H : (some (t109 != (-1))) = some r := H
    have A9 := Ym A90
    clear A90
    obtain rfl := Option.some.inj H
    go_enter Try.func33, Try.ntmps33
    go_wp2_with (first | ((with_reducible refine gate_dst (N := 2) rfl ?_); refine box_event ?hg (N := 2) ?hd (cs := #[.int .i64 q0, .int .i64 q1]) (t := 23) ?hr ?_; (case hd => rfl); (case hg => rfl); (case hr => first | (go_simp; done) | (go_simp; rfl)); intro gb104 hg w10 hbox hb; have n0_ := Ym (Yj (by repeat (first | (with_reducible first | exact HB.out | apply Yc | apply Ya | apply Yb) | exact HB.out)) hb); have n1_ := Ym (hbox); have n2_ := Ym ((by rw [hg]; exact (Yk (by repeat (first | (with_reducible first | exact HB.out | apply Yc | apply Ya | apply Yb) | exact HB.out))) : w.heap.size ≤ gb104)); have n3_ := Ym ((by rw [hg]; exact (Yk (by repeat (first | (with_reducible first | exact HB.out | apply Yc | apply Ya | apply Yb) | exact HB.out))) : w.heap.size ≤ gb104)); clear HB; have HB := n0_; have BK104 := n1_; have GW104 := n2_; have GE104 := n3_; clear n0_ n1_ n2_ n3_; clear hb hbox hg) | ((with_reducible refine gate_dst (N := 3) rfl ?_); refine box_event ?hg (N := 3) ?hd (cs := #[.int .i64 a1_0, .int .i64 a1_1]) (t := 23) ?hr ?_; (case hd => rfl); (case hg => rfl); (case hr => first | (go_simp; done) | (go_simp; rfl)); intro gb105 hg w11 hbox hb; have n0_ := Ym (Yl (g := gb104) (o := .cells #[.int .i64 q0, .int .i64 q1] 23 (0, 0)) (by (with_reducible repeat (first | refine Yd ?_ _ | refine Yf ?_ | refine Ye ?_ _)); exact BK104.out) hb); have n1_ := Ym (Yj (by repeat (first | (with_reducible first | exact HB.out | apply Yc | apply Ya | apply Yb | refine Yg ?_ GE104.out) | exact HB.out)) hb); have n2_ := Ym (hbox); have n3_ := Ym ((by rw [hg]; exact (Yk (by repeat (first | (with_reducible first | exact HB.out | apply Yc | apply Ya | apply Yb | refine Yg ?_ GE104.out) | exact HB.out))) : w.heap.size ≤ gb105)); have n4_ := Ym ((by rw [hg]; exact (Yk (by repeat (first | (with_reducible first | exact HB.out | apply Yc | apply Ya | apply Yb | refine Yg ?_ GE104.out) | exact HB.out))) : w.heap.size ≤ gb105)); have n5_ := Ym ((by rw [hg]; exact Nat.ne_of_lt (blk_lt (g := gb104) (o := .cells #[.int .i64 q0, .int .i64 q1] 23 (0, 0)) (by (with_reducible repeat (first | refine Yd ?_ _ | refine Yf ?_ | refine Ye ?_ _)); exact BK104.out)) : gb104 ≠ gb105)); have n6_ := Ym ((by rw [hg]; exact Nat.ne_of_gt (blk_lt (g := gb104) (o := .cells #[.int .i64 q0, .int .i64 q1] 23 (0, 0)) (by (with_reducible repeat (first | refine Yd ?_ _ | refine Yf ?_ | refine Ye ?_ _)); exact BK104.out)) : gb105 ≠ gb104)); clear BK104; clear HB; have BK104 := n0_; have HB := n1_; have BK105 := n2_; have GW105 := n3_; have GE105 := n4_; have NB104_105 := n5_; have NB105_104 := n6_; clear n0_ n1_ n2_ n3_ n4_ n5_ n6_; clear hb hbox hg; have hnb12 := NB104_105.out; have hnc12 := NB105_104.out; have hcz13_0 : w11.cell? ⟨gb104, 0, none⟩ = some (.int .i64 q0) := (Yh BK104.out 0).trans rfl; have hcz13_1 : w11.cell? ⟨gb104, 1, none⟩ = some (.int .i64 q1) := (Yh BK104.out 1).trans rfl; have hfz13_0 := Yi BK104.out 0; have hfz13_1 := Yi BK104.out 1) | ((with_reducible refine gate_callee (f := 40) rfl ?_); refine goesL_ (some 6) rfl rfl Try.func40 (by kernel_rfl) rfl #[.agg #[.int .i64 q0, .int .i64 q1]] rfl (by (try simp only [List.map_toArray, List.map_cons, List.map_nil]); first | done | rfl | (simp only [List.length_drop, List.length_take]; rfl)) ?_; (with_reducible refine (addr_May.calls q0 q1 true _ A3.out).mono ?_); rintro e w14 ⟨rfl, hb⟩; refine ⟨_, rfl, ?_⟩; have n0_ := Ym (Yl (g := gb104) (o := .cells #[.int .i64 q0, .int .i64 q1] 23 (0, 0)) (by (with_reducible repeat (first | refine Yd ?_ _ | refine Yf ?_ | refine Ye ?_ _)); exact BK104.out) hb); have n1_ := Ym (Yl (g := gb105) (o := .cells #[.int .i64 a1_0, .int .i64 a1_1] 23 (0, 0)) (by (with_reducible repeat (first | refine Yd ?_ _ | refine Yf ?_ | refine Ye ?_ _)); exact BK105.out) hb); have n2_ := Ym (Yj (by repeat (first | (with_reducible first | exact HB.out | apply Yc | apply Ya | apply Yb | refine Yg ?_ GE104.out | refine Yg ?_ GE105.out) | exact HB.out)) hb); clear BK104; clear BK105; clear HB; have BK104 := n0_; have BK105 := n1_; have HB := n2_; clear n0_ n1_ n2_; (try clear hb); (try clear hb2); (try clear hk); (try clear hi); have hcz15_0 : w14.cell? ⟨gb105, 0, none⟩ = some (.int .i64 a1_0) := (Yh BK105.out 0).trans rfl; have hcz15_1 : w14.cell? ⟨gb105, 1, none⟩ = some (.int .i64 a1_1) := (Yh BK105.out 1).trans rfl; have hfz15_0 := Yi BK105.out 0; have hfz15_1 := Yi BK105.out 1) | (go_at_call 40; (with_reducible refine (addr_May.calls a1_0 a1_1 true _ A5.out).mono ?_); rintro e w16 ⟨rfl, hb⟩; have n0_ := Ym (Yl (g := gb104) (o := .cells #[.int .i64 q0, .int .i64 q1] 23 (0, 0)) (by (with_reducible repeat (first | refine Yd ?_ _ | refine Yf ?_ | refine Ye ?_ _)); exact BK104.out) hb); have n1_ := Ym (Yl (g := gb105) (o := .cells #[.int .i64 a1_0, .int .i64 a1_1] 23 (0, 0)) (by (with_reducible repeat (first | refine Yd ?_ _ | refine Yf ?_ | refine Ye ?_ _)); exact BK105.out) hb); have n2_ := Ym (Yj (by repeat (first | (with_reducible first | exact HB.out | apply Yc | apply Ya | apply Yb | refine Yg ?_ GE104.out | refine Yg ?_ GE105.out) | exact HB.out)) hb); clear BK104; clear BK105; clear HB; have BK104 := n0_; have BK105 := n1_; have HB := n2_; clear n0_ n1_ n2_; (try clear hb); (try clear hb2); (try clear hk); (try clear hi); have hcz17_0 : w16.cell? ⟨gb104, 0, none⟩ = some (.int .i64 q0) := (Yh BK104.out 0).trans rfl; have hcz17_1 : w16.cell? ⟨gb104, 1, none⟩ = some (.int .i64 q1) := (Yh BK104.out 1).trans rfl; have hfz17_0 := Yi BK104.out 0; have hfz17_1 := Yi BK104.out 1; have hcz18_0 : w16.cell? ⟨gb105, 0, none⟩ = some (.int .i64 a1_0) := (Yh BK105.out 0).trans rfl; have hcz18_1 : w16.cell? ⟨gb105, 1, none⟩ = some (.int .i64 a1_1) := (Yh BK105.out 1).trans rfl; have hfz18_0 := Yi BK105.out 0; have hfz18_1 := Yi BK105.out 1) | (go_at_call 44; (with_reducible refine (addr_Index.calls k q0 q1 a1_0 t108 _ A7.out).mono ?_); rintro e w19 ⟨rfl, hb⟩; have n0_ := Ym (Yl (g := gb104) (o := .cells #[.int .i64 q0, .int .i64 q1] 23 (0, 0)) (by (with_reducible repeat (first | refine Yd ?_ _ | refine Yf ?_ | refine Ye ?_ _)); exact BK104.out) hb); have n1_ := Ym (Yl (g := gb105) (o := .cells #[.int .i64 a1_0, .int .i64 a1_1] 23 (0, 0)) (by (with_reducible repeat (first | refine Yd ?_ _ | refine Yf ?_ | refine Ye ?_ _)); exact BK105.out) hb); have n2_ := Ym (Yj (by repeat (first | (with_reducible first | exact HB.out | apply Yc | apply Ya | apply Yb | refine Yg ?_ GE104.out | refine Yg ?_ GE105.out) | exact HB.out)) hb); clear BK104; clear BK105; clear HB; have BK104 := n0_; have BK105 := n1_; have HB := n2_; clear n0_ n1_ n2_; (try clear hb); (try clear hb2); (try clear hk); (try clear hi); have hcz20_0 : w19.cell? ⟨gb105, 0, none⟩ = some (.int .i64 a1_0) := (Yh BK105.out 0).trans rfl; have hcz20_1 : w19.cell? ⟨gb105, 1, none⟩ = some (.int .i64 a1_1) := (Yh BK105.out 1).trans rfl; have hfz20_0 := Yi BK105.out 0; have hfz20_1 := Yi BK105.out 1; have hcz21_0 : w19.cell? ⟨gb104, 0, none⟩ = some (.int .i64 q0) := (Yh BK104.out 0).trans rfl; have hcz21_1 : w19.cell? ⟨gb104, 1, none⟩ = some (.int .i64 q1) := (Yh BK104.out 1).trans rfl; have hfz21_0 := Yi BK104.out 0; have hfz21_1 := Yi BK104.out 1) | (go_at_call 44; (with_reducible refine (addr_Index.calls k a1_0 a1_1 q0 t109 _ A9.out).mono ?_); rintro e w22 ⟨rfl, hb⟩; have n0_ := Ym (Yl (g := gb104) (o := .cells #[.int .i64 q0, .int .i64 q1] 23 (0, 0)) (by (with_reducible repeat (first | refine Yd ?_ _ | refine Yf ?_ | refine Ye ?_ _)); exact BK104.out) hb); have n1_ := Ym (Yl (g := gb105) (o := .cells #[.int .i64 a1_0, .int .i64 a1_1] 23 (0, 0)) (by (with_reducible repeat (first | refine Yd ?_ _ | refine Yf ?_ | refine Ye ?_ _)); exact BK105.out) hb); have n2_ := Ym (Yj (by repeat (first | (with_reducible first | exact HB.out | apply Yc | apply Ya | apply Yb | refine Yg ?_ GE104.out | refine Yg ?_ GE105.out) | exact HB.out)) hb); clear BK104; clear BK105; clear HB; have BK104 := n0_; have BK105 := n1_; have HB := n2_; clear n0_ n1_ n2_; (try clear hb); (try clear hb2); (try clear hk); (try clear hi)))
    go_ret
    exact ⟨by first | rfl | (simp [errW_none, errW_some] <;> rfl) | (simp [*, errW_none, errW_some] <;> rfl), by repeat (first | (with_reducible first | exact HB.out | apply Yc | apply Ya | apply Yb | refine Yg ?_ GE104.out | refine Yg ?_ GE105.out) | exact HB.out)⟩
   ·rw [if_neg c8] at H
    have c8b0 : (t108 == (-1)) = false := beq_eq_false_iff_ne.mpr c8
    have c8b1 : (t108 != (-1)) = true := bne_iff_ne.mpr c8
    obtain rfl := Option.some.inj H
    go_enter Try.func33, Try.ntmps33
    go_wp2_with (first | ((with_reducible refine gate_dst (N := 2) rfl ?_); refine box_event ?hg (N := 2) ?hd (cs := #[.int .i64 q0, .int .i64 q1]) (t := 23) ?hr ?_; (case hd => rfl); (case hg => rfl); (case hr => first | (go_simp; done) | (go_simp; rfl)); intro gb104 hg w23 hbox hb; have n0_ := Ym (Yj (by repeat (first | (with_reducible first | exact HB.out | apply Yc | apply Ya | apply Yb) | exact HB.out)) hb); have n1_ := Ym (hbox); have n2_ := Ym ((by rw [hg]; exact (Yk (by repeat (first | (with_reducible first | exact HB.out | apply Yc | apply Ya | apply Yb) | exact HB.out))) : w.heap.size ≤ gb104)); have n3_ := Ym ((by rw [hg]; exact (Yk (by repeat (first | (with_reducible first | exact HB.out | apply Yc | apply Ya | apply Yb) | exact HB.out))) : w.heap.size ≤ gb104)); clear HB; have HB := n0_; have BK104 := n1_; have GW104 := n2_; have GE104 := n3_; clear n0_ n1_ n2_ n3_; clear hb hbox hg) | ((with_reducible refine gate_dst (N := 3) rfl ?_); refine box_event ?hg (N := 3) ?hd (cs := #[.int .i64 a1_0, .int .i64 a1_1]) (t := 23) ?hr ?_; (case hd => rfl); (case hg => rfl); (case hr => first | (go_simp; done) | (go_simp; rfl)); intro gb105 hg w24 hbox hb; have n0_ := Ym (Yl (g := gb104) (o := .cells #[.int .i64 q0, .int .i64 q1] 23 (0, 0)) (by (with_reducible repeat (first | refine Yd ?_ _ | refine Yf ?_ | refine Ye ?_ _)); exact BK104.out) hb); have n1_ := Ym (Yj (by repeat (first | (with_reducible first | exact HB.out | apply Yc | apply Ya | apply Yb | refine Yg ?_ GE104.out) | exact HB.out)) hb); have n2_ := Ym (hbox); have n3_ := Ym ((by rw [hg]; exact (Yk (by repeat (first | (with_reducible first | exact HB.out | apply Yc | apply Ya | apply Yb | refine Yg ?_ GE104.out) | exact HB.out))) : w.heap.size ≤ gb105)); have n4_ := Ym ((by rw [hg]; exact (Yk (by repeat (first | (with_reducible first | exact HB.out | apply Yc | apply Ya | apply Yb | refine Yg ?_ GE104.out) | exact HB.out))) : w.heap.size ≤ gb105)); have n5_ := Ym ((by rw [hg]; exact Nat.ne_of_lt (blk_lt (g := gb104) (o := .cells #[.int .i64 q0, .int .i64 q1] 23 (0, 0)) (by (with_reducible repeat (first | refine Yd ?_ _ | refine Yf ?_ | refine Ye ?_ _)); exact BK104.out)) : gb104 ≠ gb105)); have n6_ := Ym ((by rw [hg]; exact Nat.ne_of_gt (blk_lt (g := gb104) (o := .cells #[.int .i64 q0, .int .i64 q1] 23 (0, 0)) (by (with_reducible repeat (first | refine Yd ?_ _ | refine Yf ?_ | refine Ye ?_ _)); exact BK104.out)) : gb105 ≠ gb104)); clear BK104; clear HB; have BK104 := n0_; have HB := n1_; have BK105 := n2_; have GW105 := n3_; have GE105 := n4_; have NB104_105 := n5_; have NB105_104 := n6_; clear n0_ n1_ n2_ n3_ n4_ n5_ n6_; clear hb hbox hg; have hnb25 := NB104_105.out; have hnc25 := NB105_104.out; have hcz26_0 : w24.cell? ⟨gb104, 0, none⟩ = some (.int .i64 q0) := (Yh BK104.out 0).trans rfl; have hcz26_1 : w24.cell? ⟨gb104, 1, none⟩ = some (.int .i64 q1) := (Yh BK104.out 1).trans rfl; have hfz26_0 := Yi BK104.out 0; have hfz26_1 := Yi BK104.out 1) | ((with_reducible refine gate_callee (f := 40) rfl ?_); refine goesL_ (some 6) rfl rfl Try.func40 (by kernel_rfl) rfl #[.agg #[.int .i64 q0, .int .i64 q1]] rfl (by (try simp only [List.map_toArray, List.map_cons, List.map_nil]); first | done | rfl | (simp only [List.length_drop, List.length_take]; rfl)) ?_; (with_reducible refine (addr_May.calls q0 q1 true _ A3.out).mono ?_); rintro e w27 ⟨rfl, hb⟩; refine ⟨_, rfl, ?_⟩; have n0_ := Ym (Yl (g := gb104) (o := .cells #[.int .i64 q0, .int .i64 q1] 23 (0, 0)) (by (with_reducible repeat (first | refine Yd ?_ _ | refine Yf ?_ | refine Ye ?_ _)); exact BK104.out) hb); have n1_ := Ym (Yl (g := gb105) (o := .cells #[.int .i64 a1_0, .int .i64 a1_1] 23 (0, 0)) (by (with_reducible repeat (first | refine Yd ?_ _ | refine Yf ?_ | refine Ye ?_ _)); exact BK105.out) hb); have n2_ := Ym (Yj (by repeat (first | (with_reducible first | exact HB.out | apply Yc | apply Ya | apply Yb | refine Yg ?_ GE104.out | refine Yg ?_ GE105.out) | exact HB.out)) hb); clear BK104; clear BK105; clear HB; have BK104 := n0_; have BK105 := n1_; have HB := n2_; clear n0_ n1_ n2_; (try clear hb); (try clear hb2); (try clear hk); (try clear hi); have hcz28_0 : w27.cell? ⟨gb105, 0, none⟩ = some (.int .i64 a1_0) := (Yh BK105.out 0).trans rfl; have hcz28_1 : w27.cell? ⟨gb105, 1, none⟩ = some (.int .i64 a1_1) := (Yh BK105.out 1).trans rfl; have hfz28_0 := Yi BK105.out 0; have hfz28_1 := Yi BK105.out 1) | (go_at_call 40; (with_reducible refine (addr_May.calls a1_0 a1_1 true _ A5.out).mono ?_); rintro e w29 ⟨rfl, hb⟩; have n0_ := Ym (Yl (g := gb104) (o := .cells #[.int .i64 q0, .int .i64 q1] 23 (0, 0)) (by (with_reducible repeat (first | refine Yd ?_ _ | refine Yf ?_ | refine Ye ?_ _)); exact BK104.out) hb); have n1_ := Ym (Yl (g := gb105) (o := .cells #[.int .i64 a1_0, .int .i64 a1_1] 23 (0, 0)) (by (with_reducible repeat (first | refine Yd ?_ _ | refine Yf ?_ | refine Ye ?_ _)); exact BK105.out) hb); have n2_ := Ym (Yj (by repeat (first | (with_reducible first | exact HB.out | apply Yc | apply Ya | apply Yb | refine Yg ?_ GE104.out | refine Yg ?_ GE105.out) | exact HB.out)) hb); clear BK104; clear BK105; clear HB; have BK104 := n0_; have BK105 := n1_; have HB := n2_; clear n0_ n1_ n2_; (try clear hb); (try clear hb2); (try clear hk); (try clear hi); have hcz30_0 : w29.cell? ⟨gb104, 0, none⟩ = some (.int .i64 q0) := (Yh BK104.out 0).trans rfl; have hcz30_1 : w29.cell? ⟨gb104, 1, none⟩ = some (.int .i64 q1) := (Yh BK104.out 1).trans rfl; have hfz30_0 := Yi BK104.out 0; have hfz30_1 := Yi BK104.out 1; have hcz31_0 : w29.cell? ⟨gb105, 0, none⟩ = some (.int .i64 a1_0) := (Yh BK105.out 0).trans rfl; have hcz31_1 : w29.cell? ⟨gb105, 1, none⟩ = some (.int .i64 a1_1) := (Yh BK105.out 1).trans rfl; have hfz31_0 := Yi BK105.out 0; have hfz31_1 := Yi BK105.out 1) | (go_at_call 44; (with_reducible refine (addr_Index.calls k q0 q1 a1_0 t108 _ A7.out).mono ?_); rintro e w32 ⟨rfl, hb⟩; have n0_ := Ym (Yl (g := gb104) (o := .cells #[.int .i64 q0, .int .i64 q1] 23 (0, 0)) (by (with_reducible repeat (first | refine Yd ?_ _ | refine Yf ?_ | refine Ye ?_ _)); exact BK104.out) hb); have n1_ := Ym (Yl (g := gb105) (o := .cells #[.int .i64 a1_0, .int .i64 a1_1] 23 (0, 0)) (by (with_reducible repeat (first | refine Yd ?_ _ | refine Yf ?_ | refine Ye ?_ _)); exact BK105.out) hb); have n2_ := Ym (Yj (by repeat (first | (with_reducible first | exact HB.out | apply Yc | apply Ya | apply Yb | refine Yg ?_ GE104.out | refine Yg ?_ GE105.out) | exact HB.out)) hb); clear BK104; clear BK105; clear HB; have BK104 := n0_; have BK105 := n1_; have HB := n2_; clear n0_ n1_ n2_; (try clear hb); (try clear hb2); (try clear hk); (try clear hi)))
    go_ret
    exact ⟨by first | rfl | (simp [errW_none, errW_some] <;> rfl) | (simp [*, errW_none, errW_some] <;> rfl), by repeat (first | (with_reducible first | exact HB.out | apply Yc | apply Ya | apply Yb | refine Yg ?_ GE104.out | refine Yg ?_ GE105.out) | exact HB.out)⟩
  ·replace c6 := Bool.eq_false_iff.mpr c6
   subst c6
   have H1 : (some false) = some r := by rw [if_neg (show ¬ (false = true) by decide)] at H; exact H
   clear H
   have H := H1
   clear H1
   obtain rfl := Option.some.inj H
   go_enter Try.func33, Try.ntmps33
   go_wp2_with (first | ((with_reducible refine gate_dst (N := 2) rfl ?_); refine box_event ?hg (N := 2) ?hd (cs := #[.int .i64 q0, .int .i64 q1]) (t := 23) ?hr ?_; (case hd => rfl); (case hg => rfl); (case hr => first | (go_simp; done) | (go_simp; rfl)); intro gb104 hg w33 hbox hb; have n0_ := Ym (Yj (by repeat (first | (with_reducible first | exact HB.out | apply Yc | apply Ya | apply Yb) | exact HB.out)) hb); have n1_ := Ym (hbox); have n2_ := Ym ((by rw [hg]; exact (Yk (by repeat (first | (with_reducible first | exact HB.out | apply Yc | apply Ya | apply Yb) | exact HB.out))) : w.heap.size ≤ gb104)); have n3_ := Ym ((by rw [hg]; exact (Yk (by repeat (first | (with_reducible first | exact HB.out | apply Yc | apply Ya | apply Yb) | exact HB.out))) : w.heap.size ≤ gb104)); clear HB; have HB := n0_; have BK104 := n1_; have GW104 := n2_; have GE104 := n3_; clear n0_ n1_ n2_ n3_; clear hb hbox hg) | ((with_reducible refine gate_dst (N := 3) rfl ?_); refine box_event ?hg (N := 3) ?hd (cs := #[.int .i64 a1_0, .int .i64 a1_1]) (t := 23) ?hr ?_; (case hd => rfl); (case hg => rfl); (case hr => first | (go_simp; done) | (go_simp; rfl)); intro gb105 hg w34 hbox hb; have n0_ := Ym (Yl (g := gb104) (o := .cells #[.int .i64 q0, .int .i64 q1] 23 (0, 0)) (by (with_reducible repeat (first | refine Yd ?_ _ | refine Yf ?_ | refine Ye ?_ _)); exact BK104.out) hb); have n1_ := Ym (Yj (by repeat (first | (with_reducible first | exact HB.out | apply Yc | apply Ya | apply Yb | refine Yg ?_ GE104.out) | exact HB.out)) hb); have n2_ := Ym (hbox); have n3_ := Ym ((by rw [hg]; exact (Yk (by repeat (first | (with_reducible first | exact HB.out | apply Yc | apply Ya | apply Yb | refine Yg ?_ GE104.out) | exact HB.out))) : w.heap.size ≤ gb105)); have n4_ := Ym ((by rw [hg]; exact (Yk (by repeat (first | (with_reducible first | exact HB.out | apply Yc | apply Ya | apply Yb | refine Yg ?_ GE104.out) | exact HB.out))) : w.heap.size ≤ gb105)); have n5_ := Ym ((by rw [hg]; exact Nat.ne_of_lt (blk_lt (g := gb104) (o := .cells #[.int .i64 q0, .int .i64 q1] 23 (0, 0)) (by (with_reducible repeat (first | refine Yd ?_ _ | refine Yf ?_ | refine Ye ?_ _)); exact BK104.out)) : gb104 ≠ gb105)); have n6_ := Ym ((by rw [hg]; exact Nat.ne_of_gt (blk_lt (g := gb104) (o := .cells #[.int .i64 q0, .int .i64 q1] 23 (0, 0)) (by (with_reducible repeat (first | refine Yd ?_ _ | refine Yf ?_ | refine Ye ?_ _)); exact BK104.out)) : gb105 ≠ gb104)); clear BK104; clear HB; have BK104 := n0_; have HB := n1_; have BK105 := n2_; have GW105 := n3_; have GE105 := n4_; have NB104_105 := n5_; have NB105_104 := n6_; clear n0_ n1_ n2_ n3_ n4_ n5_ n6_; clear hb hbox hg; have hnb35 := NB104_105.out; have hnc35 := NB105_104.out; have hcz36_0 : w34.cell? ⟨gb104, 0, none⟩ = some (.int .i64 q0) := (Yh BK104.out 0).trans rfl; have hcz36_1 : w34.cell? ⟨gb104, 1, none⟩ = some (.int .i64 q1) := (Yh BK104.out 1).trans rfl; have hfz36_0 := Yi BK104.out 0; have hfz36_1 := Yi BK104.out 1) | ((with_reducible refine gate_callee (f := 40) rfl ?_); refine goesL_ (some 6) rfl rfl Try.func40 (by kernel_rfl) rfl #[.agg #[.int .i64 q0, .int .i64 q1]] rfl (by (try simp only [List.map_toArray, List.map_cons, List.map_nil]); first | done | rfl | (simp only [List.length_drop, List.length_take]; rfl)) ?_; (with_reducible refine (addr_May.calls q0 q1 true _ A3.out).mono ?_); rintro e w37 ⟨rfl, hb⟩; refine ⟨_, rfl, ?_⟩; have n0_ := Ym (Yl (g := gb104) (o := .cells #[.int .i64 q0, .int .i64 q1] 23 (0, 0)) (by (with_reducible repeat (first | refine Yd ?_ _ | refine Yf ?_ | refine Ye ?_ _)); exact BK104.out) hb); have n1_ := Ym (Yl (g := gb105) (o := .cells #[.int .i64 a1_0, .int .i64 a1_1] 23 (0, 0)) (by (with_reducible repeat (first | refine Yd ?_ _ | refine Yf ?_ | refine Ye ?_ _)); exact BK105.out) hb); have n2_ := Ym (Yj (by repeat (first | (with_reducible first | exact HB.out | apply Yc | apply Ya | apply Yb | refine Yg ?_ GE104.out | refine Yg ?_ GE105.out) | exact HB.out)) hb); clear BK104; clear BK105; clear HB; have BK104 := n0_; have BK105 := n1_; have HB := n2_; clear n0_ n1_ n2_; (try clear hb); (try clear hb2); (try clear hk); (try clear hi); have hcz38_0 : w37.cell? ⟨gb105, 0, none⟩ = some (.int .i64 a1_0) := (Yh BK105.out 0).trans rfl; have hcz38_1 : w37.cell? ⟨gb105, 1, none⟩ = some (.int .i64 a1_1) := (Yh BK105.out 1).trans rfl; have hfz38_0 := Yi BK105.out 0; have hfz38_1 := Yi BK105.out 1) | (go_at_call 40; (with_reducible refine (addr_May.calls a1_0 a1_1 false _ A5.out).mono ?_); rintro e w39 ⟨rfl, hb⟩; have n0_ := Ym (Yl (g := gb104) (o := .cells #[.int .i64 q0, .int .i64 q1] 23 (0, 0)) (by (with_reducible repeat (first | refine Yd ?_ _ | refine Yf ?_ | refine Ye ?_ _)); exact BK104.out) hb); have n1_ := Ym (Yl (g := gb105) (o := .cells #[.int .i64 a1_0, .int .i64 a1_1] 23 (0, 0)) (by (with_reducible repeat (first | refine Yd ?_ _ | refine Yf ?_ | refine Ye ?_ _)); exact BK105.out) hb); have n2_ := Ym (Yj (by repeat (first | (with_reducible first | exact HB.out | apply Yc | apply Ya | apply Yb | refine Yg ?_ GE104.out | refine Yg ?_ GE105.out) | exact HB.out)) hb); clear BK104; clear BK105; clear HB; have BK104 := n0_; have BK105 := n1_; have HB := n2_; clear n0_ n1_ n2_; (try clear hb); (try clear hb2); (try clear hk); (try clear hi)))
   go_ret
   exact ⟨by first | rfl | (simp [errW_none, errW_some] <;> rfl) | (simp [*, errW_none, errW_some] <;> rfl), by repeat (first | (with_reducible first | exact HB.out | apply Yc | apply Ya | apply Yb | refine Yg ?_ GE104.out | refine Yg ?_ GE105.out) | exact HB.out)⟩
 ·replace c4 := Bool.eq_false_iff.mpr c4
  subst c4
  have H1 : (some false) = some r := by rw [if_neg (show ¬ (false = true) by decide)] at H; exact H
  clear H
  have H := H1
  clear H1
  obtain rfl := Option.some.inj H
  go_enter Try.func33, Try.ntmps33
  go_wp2_with (first | ((with_reducible refine gate_dst (N := 2) rfl ?_); refine box_event ?hg (N := 2) ?hd (cs := #[.int .i64 q0, .int .i64 q1]) (t := 23) ?hr ?_; (case hd => rfl); (case hg => rfl); (case hr => first | (go_simp; done) | (go_simp; rfl)); intro gb104 hg w40 hbox hb; have n0_ := Ym (Yj (by repeat (first | (with_reducible first | exact HB.out | apply Yc | apply Ya | apply Yb) | exact HB.out)) hb); have n1_ := Ym (hbox); have n2_ := Ym ((by rw [hg]; exact (Yk (by repeat (first | (with_reducible first | exact HB.out | apply Yc | apply Ya | apply Yb) | exact HB.out))) : w.heap.size ≤ gb104)); have n3_ := Ym ((by rw [hg]; exact (Yk (by repeat (first | (with_reducible first | exact HB.out | apply Yc | apply Ya | apply Yb) | exact HB.out))) : w.heap.size ≤ gb104)); clear HB; have HB := n0_; have BK104 := n1_; have GW104 := n2_; have GE104 := n3_; clear n0_ n1_ n2_ n3_; clear hb hbox hg) | ((with_reducible refine gate_dst (N := 3) rfl ?_); refine box_event ?hg (N := 3) ?hd (cs := #[.int .i64 a1_0, .int .i64 a1_1]) (t := 23) ?hr ?_; (case hd => rfl); (case hg => rfl); (case hr => first | (go_simp; done) | (go_simp; rfl)); intro gb105 hg w41 hbox hb; have n0_ := Ym (Yl (g := gb104) (o := .cells #[.int .i64 q0, .int .i64 q1] 23 (0, 0)) (by (with_reducible repeat (first | refine Yd ?_ _ | refine Yf ?_ | refine Ye ?_ _)); exact BK104.out) hb); have n1_ := Ym (Yj (by repeat (first | (with_reducible first | exact HB.out | apply Yc | apply Ya | apply Yb | refine Yg ?_ GE104.out) | exact HB.out)) hb); have n2_ := Ym (hbox); have n3_ := Ym ((by rw [hg]; exact (Yk (by repeat (first | (with_reducible first | exact HB.out | apply Yc | apply Ya | apply Yb | refine Yg ?_ GE104.out) | exact HB.out))) : w.heap.size ≤ gb105)); have n4_ := Ym ((by rw [hg]; exact (Yk (by repeat (first | (with_reducible first | exact HB.out | apply Yc | apply Ya | apply Yb | refine Yg ?_ GE104.out) | exact HB.out))) : w.heap.size ≤ gb105)); have n5_ := Ym ((by rw [hg]; exact Nat.ne_of_lt (blk_lt (g := gb104) (o := .cells #[.int .i64 q0, .int .i64 q1] 23 (0, 0)) (by (with_reducible repeat (first | refine Yd ?_ _ | refine Yf ?_ | refine Ye ?_ _)); exact BK104.out)) : gb104 ≠ gb105)); have n6_ := Ym ((by rw [hg]; exact Nat.ne_of_gt (blk_lt (g := gb104) (o := .cells #[.int .i64 q0, .int .i64 q1] 23 (0, 0)) (by (with_reducible repeat (first | refine Yd ?_ _ | refine Yf ?_ | refine Ye ?_ _)); exact BK104.out)) : gb105 ≠ gb104)); clear BK104; clear HB; have BK104 := n0_; have HB := n1_; have BK105 := n2_; have GW105 := n3_; have GE105 := n4_; have NB104_105 := n5_; have NB105_104 := n6_; clear n0_ n1_ n2_ n3_ n4_ n5_ n6_; clear hb hbox hg; have hnb42 := NB104_105.out; have hnc42 := NB105_104.out; have hcz43_0 : w41.cell? ⟨gb104, 0, none⟩ = some (.int .i64 q0) := (Yh BK104.out 0).trans rfl; have hcz43_1 : w41.cell? ⟨gb104, 1, none⟩ = some (.int .i64 q1) := (Yh BK104.out 1).trans rfl; have hfz43_0 := Yi BK104.out 0; have hfz43_1 := Yi BK104.out 1) | ((with_reducible refine gate_callee (f := 40) rfl ?_); refine goesL_ (some 6) rfl rfl Try.func40 (by kernel_rfl) rfl #[.agg #[.int .i64 q0, .int .i64 q1]] rfl (by (try simp only [List.map_toArray, List.map_cons, List.map_nil]); first | done | rfl | (simp only [List.length_drop, List.length_take]; rfl)) ?_; (with_reducible refine (addr_May.calls q0 q1 false _ A3.out).mono ?_); rintro e w44 ⟨rfl, hb⟩; refine ⟨_, rfl, ?_⟩; have n0_ := Ym (Yl (g := gb104) (o := .cells #[.int .i64 q0, .int .i64 q1] 23 (0, 0)) (by (with_reducible repeat (first | refine Yd ?_ _ | refine Yf ?_ | refine Ye ?_ _)); exact BK104.out) hb); have n1_ := Ym (Yl (g := gb105) (o := .cells #[.int .i64 a1_0, .int .i64 a1_1] 23 (0, 0)) (by (with_reducible repeat (first | refine Yd ?_ _ | refine Yf ?_ | refine Ye ?_ _)); exact BK105.out) hb); have n2_ := Ym (Yj (by repeat (first | (with_reducible first | exact HB.out | apply Yc | apply Ya | apply Yb | refine Yg ?_ GE104.out | refine Yg ?_ GE105.out) | exact HB.out)) hb); clear BK104; clear BK105; clear HB; have BK104 := n0_; have BK105 := n1_; have HB := n2_; clear n0_ n1_ n2_; (try clear hb); (try clear hb2); (try clear hk); (try clear hi)))
  go_ret
  exact ⟨by first | rfl | (simp [errW_none, errW_some] <;> rfl) | (simp [*, errW_none, errW_some] <;> rfl), by repeat (first | (with_reducible first | exact HB.out | apply Yc | apply Ya | apply Yb | refine Yg ?_ GE104.out | refine Yg ?_ GE105.out) | exact HB.out)⟩

/-! ### detmap_shared: function 37 -/
def detmap_shared.f (q0 : Int) (q1 : Int) (q2 : Int) (q3 : Int) (q4 : Int) (q5 : Int) (q6 : Int) (q7 : Int) : Option (Int) := some (wrap64 ((wrap64 ((wrap64 (q5 - q4)) + 1)) - q6))
set_option maxHeartbeats 8000000 in
set_option maxRecDepth 100000 in
theorem detmap_shared.calls (q0 : Int) (q1 : Int) (q2 : Int) (q3 : Int) (q4 : Int) (q5 : Int) (q6 : Int) (q7 : Int) (r : Int) (w : World) (h : detmap_shared.f q0 q1 q2 q3 q4 q5 q6 q7 = some r) :
  Calls Try.prog 37 #[.agg #[.int .i64 q0, .int .i64 q1, .int .i64 q2, .int .i64 q3, .int .i64 q4, .int .i64 q5, .int .i64 q6, .int .i64 q7]] w fun e w' => e = .returned (.int .i64 r) ∧ Below w.heap.size w w' := by
 have hu25 := Try.underlying25
 have HB := Ym (Below.refl w.heap.size w)
 have H : (some (wrap64 ((wrap64 ((wrap64 (q5 - q4)) + 1)) - q6))) = some r := h
 clear h
 obtain rfl := Option.some.inj H
 go_enter Try.func37, Try.ntmps37
 go_wp2_with (first | ((with_reducible refine gate_dst (N := 1) rfl ?_); refine box_event ?hg (N := 1) ?hd (cs := #[.int .i64 q0, .int .i64 q1, .int .i64 q2, .int .i64 q3, .int .i64 q4, .int .i64 q5, .int .i64 q6, .int .i64 q7]) (t := 25) ?hr ?_; (case hd => rfl); (case hg => rfl); (case hr => first | (go_simp; done) | (go_simp; rfl)); intro gb110 hg w2 hbox hb; have n0_ := Ym (Yj (by repeat (first | (with_reducible first | exact HB.out | apply Yc | apply Ya | apply Yb) | exact HB.out)) hb); have n1_ := Ym (hbox); have n2_ := Ym ((by rw [hg]; exact (Yk (by repeat (first | (with_reducible first | exact HB.out | apply Yc | apply Ya | apply Yb) | exact HB.out))) : w.heap.size ≤ gb110)); have n3_ := Ym ((by rw [hg]; exact (Yk (by repeat (first | (with_reducible first | exact HB.out | apply Yc | apply Ya | apply Yb) | exact HB.out))) : w.heap.size ≤ gb110)); clear HB; have HB := n0_; have BK110 := n1_; have GW110 := n2_; have GE110 := n3_; clear n0_ n1_ n2_ n3_; clear hb hbox hg; have hcz3_0 : w2.cell? ⟨gb110, 0, none⟩ = some (.int .i64 q0) := (Yh BK110.out 0).trans rfl; have hcz3_1 : w2.cell? ⟨gb110, 1, none⟩ = some (.int .i64 q1) := (Yh BK110.out 1).trans rfl; have hcz3_2 : w2.cell? ⟨gb110, 2, none⟩ = some (.int .i64 q2) := (Yh BK110.out 2).trans rfl; have hcz3_3 : w2.cell? ⟨gb110, 3, none⟩ = some (.int .i64 q3) := (Yh BK110.out 3).trans rfl; have hcz3_4 : w2.cell? ⟨gb110, 4, none⟩ = some (.int .i64 q4) := (Yh BK110.out 4).trans rfl; have hcz3_5 : w2.cell? ⟨gb110, 5, none⟩ = some (.int .i64 q5) := (Yh BK110.out 5).trans rfl; have hcz3_6 : w2.cell? ⟨gb110, 6, none⟩ = some (.int .i64 q6) := (Yh BK110.out 6).trans rfl; have hcz3_7 : w2.cell? ⟨gb110, 7, none⟩ = some (.int .i64 q7) := (Yh BK110.out 7).trans rfl; have hfz3_0 := Yi BK110.out 0; have hfz3_1 := Yi BK110.out 1; have hfz3_2 := Yi BK110.out 2; have hfz3_3 := Yi BK110.out 3; have hfz3_4 := Yi BK110.out 4; have hfz3_5 := Yi BK110.out 5; have hfz3_6 := Yi BK110.out 6; have hfz3_7 := Yi BK110.out 7))
 go_ret
 exact ⟨by first | rfl | (simp [errW_none, errW_some] <;> rfl) | (simp [*, errW_none, errW_some] <;> rfl), by repeat (first | (with_reducible first | exact HB.out | apply Yc | apply Ya | apply Yb | refine Yg ?_ GE110.out) | exact HB.out)⟩

/-! ### addr_Size: function 27 -/
def addr_Size.f (q0 : Int) (q1 : Int) : Option (Int) := (addr_May.f q0 q1).bind fun t112 => (if t112 = true then (if 0 ≤ (wrap64 (32 - q1)) then (some (shl .i64 1 (wrap64 (32 - q1)))) else (none)) else (some 0))
set_option maxHeartbeats 8000000 in
set_option maxRecDepth 100000 in
theorem addr_Size.calls (q0 : Int) (q1 : Int) (r : Int) (w : World) (h : addr_Size.f q0 q1 = some r) :
  Calls Try.prog 27 #[.agg #[.int .i64 q0, .int .i64 q1]] w fun e w' => e = .returned (.int .i64 r) ∧ Below w.heap.size w w' := by
 have hu23 := Try.underlying23
 have HB := Ym (Below.refl w.heap.size w)
 have H : ((addr_May.f q0 q1).bind fun t112 => (if t112 = true then (if 0 ≤ (wrap64 (32 - q1)) then (some (shl .i64 1 (wrap64 (32 - q1)))) else (none)) else (some 0))) = some r := h
 clear h
 replace H := Option.bind_eq_some_iff.mp H
 obtain ⟨t112, A20, H⟩ := H
 replace H : (if t112 = true then (if 0 ≤ (wrap64 (32 - q1)) then (some (shl .i64 1 (wrap64 (32 - q1)))) else (none)) else (some 0)) = some r := H
 have A2 := Ym A20
 clear A20
 by_cases c3 : t112 = true
 ·subst c3
  have H1 : (if 0 ≤ (wrap64 (32 - q1)) then (some (shl .i64 1 (wrap64 (32 - q1)))) else (none)) = some r := by rw [if_pos rfl] at H; exact H
  clear H
  have H := H1
  clear H1
  obtain ⟨ji4, hji4⟩ : ∃ j_ : Int, (wrap64 (32 - q1)) = j_ := ⟨_, rfl⟩
  replace H : (if 0 ≤ (ji4) then (some (shl .i64 1 (ji4))) else (none)) = some r := by first | (rw [hji4] at H; exact H) | (simp only [hji4] at H ⊢; exact H)
  (try rw [hji4] at A2)
  have hji4w : (IntKind.i64.wrap (32 - q1)) = ji4 := (i64_w _).trans hji4
  by_cases c5 : 0 ≤ (ji4)
  ·rw [if_pos c5] at H
   have c5b0 := eq_true c5
   have c5b1 : decide (0 ≤ (ji4)) = true := decide_eq_true c5
   clear c5
   obtain ⟨ji6, hji6⟩ : ∃ j_ : Int, (shl .i64 1 (ji4)) = j_ := ⟨_, rfl⟩
   replace H : (some ji6) = some r := by first | (rw [hji6] at H; exact H) | (simp only [hji6] at H ⊢; exact H)
   (try rw [hji6] at A2)
   have hji6_ : (IntKind.i64.wrap (1 * 2 ^ min (ji4).toNat 64)) = ji6 := hji6
   have hji6z : (ji4) ≤ 64 → (IntKind.i64.wrap (1 * 2 ^ (ji4).toNat)) = ji6 := shl_small hji6
   have hji6u : (IntKind.i64.wrap (2 ^ min (ji4).toNat 64)) = ji6 := by have h_ := hji6_; rw [Int.one_mul] at h_; exact h_
   have hji6v : (ji4) ≤ 64 → (IntKind.i64.wrap (2 ^ (ji4).toNat)) = ji6 := fun hle_ => by have h_ := hji6z hle_; rw [Int.one_mul] at h_; exact h_
   have hji6y : (wrap64 (1 * 2 ^ min (ji4).toNat 64)) = ji6 := (i64_w _).symm.trans hji6_
   have hji6x : (ji4) ≤ 64 → (wrap64 (1 * 2 ^ (ji4).toNat)) = ji6 := fun h_ => (i64_w _).symm.trans (hji6z h_)
   obtain rfl := Option.some.inj H
   go_enter Try.func27, Try.ntmps27
   go_wp2_with (first | ((with_reducible refine gate_dst (N := 1) rfl ?_); refine box_event ?hg (N := 1) ?hd (cs := #[.int .i64 q0, .int .i64 q1]) (t := 23) ?hr ?_; (case hd => rfl); (case hg => rfl); (case hr => first | (go_simp; done) | (go_simp; rfl)); intro gb111 hg w7 hbox hb; have n0_ := Ym (Yj (by repeat (first | (with_reducible first | exact HB.out | apply Yc | apply Ya | apply Yb) | exact HB.out)) hb); have n1_ := Ym (hbox); have n2_ := Ym ((by rw [hg]; exact (Yk (by repeat (first | (with_reducible first | exact HB.out | apply Yc | apply Ya | apply Yb) | exact HB.out))) : w.heap.size ≤ gb111)); have n3_ := Ym ((by rw [hg]; exact (Yk (by repeat (first | (with_reducible first | exact HB.out | apply Yc | apply Ya | apply Yb) | exact HB.out))) : w.heap.size ≤ gb111)); clear HB; have HB := n0_; have BK111 := n1_; have GW111 := n2_; have GE111 := n3_; clear n0_ n1_ n2_ n3_; clear hb hbox hg; have hcz8_0 : w7.cell? ⟨gb111, 0, none⟩ = some (.int .i64 q0) := (Yh BK111.out 0).trans rfl; have hcz8_1 : w7.cell? ⟨gb111, 1, none⟩ = some (.int .i64 q1) := (Yh BK111.out 1).trans rfl; have hfz8_0 := Yi BK111.out 0; have hfz8_1 := Yi BK111.out 1) | ((with_reducible refine gate_callee (f := 40) rfl ?_); refine goesL_ (some 4) rfl rfl Try.func40 (by kernel_rfl) rfl #[.agg #[.int .i64 q0, .int .i64 q1]] rfl (by (try simp only [List.map_toArray, List.map_cons, List.map_nil]); first | done | rfl | (simp only [List.length_drop, List.length_take]; rfl)) ?_; (with_reducible refine (addr_May.calls q0 q1 true _ A2.out).mono ?_); rintro e w9 ⟨rfl, hb⟩; refine ⟨_, rfl, ?_⟩; have n0_ := Ym (Yl (g := gb111) (o := .cells #[.int .i64 q0, .int .i64 q1] 23 (0, 0)) (by (with_reducible repeat (first | refine Yd ?_ _ | refine Yf ?_ | refine Ye ?_ _)); exact BK111.out) hb); have n1_ := Ym (Yj (by repeat (first | (with_reducible first | exact HB.out | apply Yc | apply Ya | apply Yb | refine Yg ?_ GE111.out) | exact HB.out)) hb); clear BK111; clear HB; have BK111 := n0_; have HB := n1_; clear n0_ n1_; (try clear hb); (try clear hb2); (try clear hk); (try clear hi); have hcz10_0 : w9.cell? ⟨gb111, 0, none⟩ = some (.int .i64 q0) := (Yh BK111.out 0).trans rfl; have hcz10_1 : w9.cell? ⟨gb111, 1, none⟩ = some (.int .i64 q1) := (Yh BK111.out 1).trans rfl; have hfz10_0 := Yi BK111.out 0; have hfz10_1 := Yi BK111.out 1))
   go_ret
   exact ⟨by first | rfl | (simp [errW_none, errW_some] <;> rfl) | (simp only [← hji4, ← hji6]; first | rfl | (simp [errW_none, errW_some] <;> rfl)) | (simp [*, errW_none, errW_some] <;> rfl), by repeat (first | (with_reducible first | exact HB.out | apply Yc | apply Ya | apply Yb | refine Yg ?_ GE111.out) | exact HB.out)⟩
  ·rw [if_neg c5] at H
   exact absurd H (by simp)
 ·replace c3 := Bool.eq_false_iff.mpr c3
  subst c3
  have H1 : (some 0) = some r := by rw [if_neg (show ¬ (false = true) by decide)] at H; exact H
  clear H
  have H := H1
  clear H1
  obtain rfl := Option.some.inj H
  go_enter Try.func27, Try.ntmps27
  go_wp2_with (first | ((with_reducible refine gate_dst (N := 1) rfl ?_); refine box_event ?hg (N := 1) ?hd (cs := #[.int .i64 q0, .int .i64 q1]) (t := 23) ?hr ?_; (case hd => rfl); (case hg => rfl); (case hr => first | (go_simp; done) | (go_simp; rfl)); intro gb111 hg w11 hbox hb; have n0_ := Ym (Yj (by repeat (first | (with_reducible first | exact HB.out | apply Yc | apply Ya | apply Yb) | exact HB.out)) hb); have n1_ := Ym (hbox); have n2_ := Ym ((by rw [hg]; exact (Yk (by repeat (first | (with_reducible first | exact HB.out | apply Yc | apply Ya | apply Yb) | exact HB.out))) : w.heap.size ≤ gb111)); have n3_ := Ym ((by rw [hg]; exact (Yk (by repeat (first | (with_reducible first | exact HB.out | apply Yc | apply Ya | apply Yb) | exact HB.out))) : w.heap.size ≤ gb111)); clear HB; have HB := n0_; have BK111 := n1_; have GW111 := n2_; have GE111 := n3_; clear n0_ n1_ n2_ n3_; clear hb hbox hg; have hcz12_0 : w11.cell? ⟨gb111, 0, none⟩ = some (.int .i64 q0) := (Yh BK111.out 0).trans rfl; have hcz12_1 : w11.cell? ⟨gb111, 1, none⟩ = some (.int .i64 q1) := (Yh BK111.out 1).trans rfl; have hfz12_0 := Yi BK111.out 0; have hfz12_1 := Yi BK111.out 1) | ((with_reducible refine gate_callee (f := 40) rfl ?_); refine goesL_ (some 4) rfl rfl Try.func40 (by kernel_rfl) rfl #[.agg #[.int .i64 q0, .int .i64 q1]] rfl (by (try simp only [List.map_toArray, List.map_cons, List.map_nil]); first | done | rfl | (simp only [List.length_drop, List.length_take]; rfl)) ?_; (with_reducible refine (addr_May.calls q0 q1 false _ A2.out).mono ?_); rintro e w13 ⟨rfl, hb⟩; refine ⟨_, rfl, ?_⟩; have n0_ := Ym (Yl (g := gb111) (o := .cells #[.int .i64 q0, .int .i64 q1] 23 (0, 0)) (by (with_reducible repeat (first | refine Yd ?_ _ | refine Yf ?_ | refine Ye ?_ _)); exact BK111.out) hb); have n1_ := Ym (Yj (by repeat (first | (with_reducible first | exact HB.out | apply Yc | apply Ya | apply Yb | refine Yg ?_ GE111.out) | exact HB.out)) hb); clear BK111; clear HB; have BK111 := n0_; have HB := n1_; clear n0_ n1_; (try clear hb); (try clear hb2); (try clear hk); (try clear hi)))
  go_ret
  exact ⟨by first | rfl | (simp [errW_none, errW_some] <;> rfl) | (simp [*, errW_none, errW_some] <;> rfl), by repeat (first | (with_reducible first | exact HB.out | apply Yc | apply Ya | apply Yb | refine Yg ?_ GE111.out) | exact HB.out)⟩

end Go.Proofs.Ytfkdflhijfkjoaa.P
