-- Laid by this session's own program (wip/myprint.py): Lean functions for the Go functions that a law reaches, and their contracts. Not trusted: Lean checks it. (slimmed by wip/slim10.py)
import Derived.Test.YtggkealdbebbkaaP0
import Derived.Test.YtggkealdbebbkaaP1
namespace Go.Proofs.Ytggkealdbebbkaa.P
noncomputable section
open Go.RowKit Go.Proofs.YtggkealdbebbkaaW.PrintWords Go.Proofs.YtggkealdbebbkaaW.PrintLast Go.Proofs.YtggkealdbebbkaaW.PrintMore
attribute [local go_sem] max2_int min2_int max_two min_two max_three min_three max_four min_four   -- for this text's walks alone
set_option linter.unusedVariables false
set_option linter.unusedSimpArgs false

attribute [local go_sem high] eqA33
/-! ### wheel_May: function 23 (given) -/
section
open Go.Proofs.Ytggkealdbebbkaa.W10
namespace Dev
def toT (l : List S33) : List W10.T := l.map fun s => (s.f0, s.f1)
def ofT (l : List W10.T) : List S33 := l.map fun t => ⟨t.1, t.2⟩
/-- The rows that the hand walks speak of. -/
def okL (l : List S33) : Bool := decide (l.length < 1000) && l.all fun s => (Lit.int .i64 s.f0).wf
theorem toT_len (l : List S33) : (toT l).length = l.length := by simp [toT]
theorem okL_len {l : List S33} (h : okL l = true) : (toT l).length < 1000 := by
 unfold okL at h
 simp only [Bool.and_eq_true, decide_eq_true_eq] at h
 rw [toT_len]
 exact h.1
theorem okL_wf {l : List S33} (h : okL l = true) : ∀ x ∈ toT l, (Lit.int .i64 x.1).wf = true := by
 unfold okL at h
 simp only [Bool.and_eq_true, decide_eq_true_eq, List.all_eq_true] at h
 intro x hx
 unfold toT at hx
 obtain ⟨s, hs, rfl⟩ := List.mem_map.1 hx
 exact h.2 s hs
theorem cell_lt {w : World} {a : Addr} {v : Value} (h : w.cell? a = some v) : a.block < w.heap.size := by
 refine Nat.lt_of_not_le fun hn => ?_
 unfold World.cell? at h
 rw [Array.getElem?_eq_none hn] at h
 cases h
theorem reads_of {w : World} {A : Option Addr} {l : List S33} (h : Kd.C k33 w A l.length l) : W10.ReadsT w A (toT l) := by
 intro j x hx
 unfold toT at hx
 rw [List.getElem?_map] at hx
 obtain ⟨s, hs, rfl⟩ := Option.map_eq_some_iff.1 hx
 have hj := (List.getElem?_eq_some_iff.1 hs).1
 obtain ⟨ad, e, h0, h1⟩ := at_T33 h (j : Int) (by omega) (by omega)
 have hr : rd_T33 l (j : Int) = s := by
  unfold rd_T33
  rw [Int.toNat_natCast, List.getD_eq_getElem?_getD, hs]
  rfl
 rw [hr, Int.toNat_natCast] at h0 h1
 exact ⟨ad, e, by have := cell_lt h0; rwa [W10.add_block'] at this, h0, h1⟩
theorem row_of {w : World} {base : Nat} {ok : Nat → Prop} {v : Value} {xs : List W10.T} (h : W10.Own1 w base v xs) (hok : ∀ k, v.ownBlock = some k → ok k) : Kd.R k33 33 w base ok v (ofT xs) := by
 refine ⟨hok, W10.flat xs, by have : (ofT xs).length = xs.length := (by simp [ofT]); rw [this]; exact h, ?_, ?_⟩
 ·rw [W10.flat_len]
  simp only [ofT, List.length_map]
  rfl
 ·intro j p hp
  unfold ofT at hp
  rw [List.getElem?_map] at hp
  obtain ⟨x, hx, rfl⟩ := Option.map_eq_some_iff.1 hp
  have hj := (List.getElem?_eq_some_iff.1 hx).1
  have key : ∀ (ys : List W10.T) (j : Nat) (y : W10.T), ys[j]? = some y → ((W10.flat ys).drop (j * 2)).take 2 = [.int .i64 y.1, .int .i64 y.2] := by
   intro ys
   induction ys with
   |nil => intro j y h; simp at h
   |cons z r ih =>
    intro j y h
    cases j with
    |zero => simp at h; subst h; simp [W10.flat, W10.enc2]
    |succ j =>
     have := ih j y (by simpa using h)
     have e1 : (j + 1) * 2 = j * 2 + 2 := by omega
     rw [e1]
     simpa [W10.flat, W10.enc2] using this
  have e : (k33.sz : Nat) = 2 := rfl
  rw [e, key xs j x hx]
  exact k33_mkM _ _ _ _
end Dev
end
theorem wheel_May.ex : ∃ g : Int → List (S33) → Option (Bool), ∀ qa ql, g qa ql = if Dev.okL ql = true then some (W10.mayB qa (Dev.toT ql)) else none := ⟨fun qa ql => if Dev.okL ql = true then some (W10.mayB qa (Dev.toT ql)) else none, fun _ _ => rfl⟩
def wheel_May.f (qa : Int) (ql : List (S33)) : Option (Bool) := Classical.choose wheel_May.ex qa ql
theorem wheel_May.f_eq (qa : Int) (ql : List (S33)) : wheel_May.f qa ql = if Dev.okL ql = true then some (W10.mayB qa (Dev.toT ql)) else none := Classical.choose_spec wheel_May.ex qa ql
theorem wheel_May.calls (qa : Int) (qA : Option Addr) (qc : Nat) (ql : List (S33)) (r : Bool) (w : World) (hr0_1 : Kd.C k33 w qA ql.length ql) (hc0_1 : ql.length ≤ qc) (h : wheel_May.f qa ql = some r) :
  Calls Try.prog 23 #[.agg #[.int .i64 qa, .slice qA ql.length qc]] w fun e w' => e = .returned (.bool r) ∧ Below w.heap.size w w' := by
 rw [wheel_May.f_eq] at h
 split at h
 ·rename_i hk
  obtain rfl := Option.some.inj h
  have := W10.may_ qa qA qc (Dev.toT ql) w (Dev.reads_of hr0_1) (Dev.okL_len hk) (Dev.okL_wf hk)
  rw [Dev.toT_len] at this
  exact this
 ·cases h

-- NOT PRINTED: function 36 (api_Timer_36)

-- NOT PRINTED: function 24 (wheel_own)

/-! ### wheel_slot: function 40 -/
def wheel_slot.f (a0 : Int) : Option (Int) := some (Go.bits .and .i64 a0 7)
set_option maxHeartbeats 8000000 in
set_option maxRecDepth 100000 in
theorem wheel_slot.calls (a0 : Int) (r : Int) (w : World) (h : wheel_slot.f a0 = some r) :
  Calls Try.prog 40 #[.int .i64 a0] w fun e w' => e = .returned (.int .i64 r) ∧ Drawn0 w w' := by
 have H : (some (Go.bits .and .i64 a0 7)) = some r := h
 clear h
 obtain rfl := Option.some.inj H
 go_enter Try.func40, Try.ntmps40
 go_wp2
 go_ret
 exact ⟨by first | rfl | (simp; done) | (simp [*]; done), by repeat (first | exact Drawn0.refl _ | apply Drawn0.step)⟩

-- NOT PRINTED: function 32 (wheel_hub_put)

-- NOT PRINTED: function 25 (wheel_open)

-- NOT PRINTED: function 46 (api_Timer_46)

-- NOT PRINTED: function 56 (api_Timer_56)

-- NOT PRINTED: function 47 (api_Timer_47)

-- NOT PRINTED: function 54 (bits_Len32)

-- NOT PRINTED: function 55 (bits_Len64)

-- NOT PRINTED: function 44 (bits_Len)

-- NOT PRINTED: function 57 (slices_nextPowerOfTwo)

-- NOT PRINTED: function 58 (slices_xorshift_Next)

-- NOT PRINTED: function 48 (api_Timer_48)

-- NOT PRINTED: function 61 (api_Timer_61)

-- NOT PRINTED: function 60 (api_Timer_60)

-- NOT PRINTED: function 59 (api_Timer_59)

-- NOT PRINTED: function 49 (api_Timer_49)

-- NOT PRINTED: function 50 (api_Timer_50)

-- NOT PRINTED: function 51 (api_Timer_51)

-- NOT PRINTED: function 52 (api_Timer_52)

-- NOT PRINTED: function 53 (api_Timer_53)

-- NOT PRINTED: function 43 (api_Timer_43)

-- NOT PRINTED: function 37 (api_Timer_37)

-- NOT PRINTED: function 26 (wheel_hub_take)

-- NOT PRINTED: function 27 (wheel_hub_due)

-- NOT PRINTED: function 28 (wheel_hub_wheel)

/-! ### wheel_Step: function 11 (given) -/
theorem wheel_Step.ex : ∃ g : Int → List (S33) → Int → Option (Int × List (S33) × List (S33) × Int), ∀ qa ql a1, g qa ql a1 = if Dev.okL ql = true then some ((W10.stepR qa (Dev.toT ql) a1).1, Dev.ofT (W10.stepR qa (Dev.toT ql) a1).2.1, Dev.ofT (W10.stepR qa (Dev.toT ql) a1).2.2.1, (W10.stepR qa (Dev.toT ql) a1).2.2.2) else none := ⟨fun qa ql a1 => if Dev.okL ql = true then some ((W10.stepR qa (Dev.toT ql) a1).1, Dev.ofT (W10.stepR qa (Dev.toT ql) a1).2.1, Dev.ofT (W10.stepR qa (Dev.toT ql) a1).2.2.1, (W10.stepR qa (Dev.toT ql) a1).2.2.2) else none, fun _ _ _ => rfl⟩
def wheel_Step.f (qa : Int) (ql : List (S33)) (a1 : Int) : Option (Int × List (S33) × List (S33) × Int) := Classical.choose wheel_Step.ex qa ql a1
theorem wheel_Step.f_eq (qa : Int) (ql : List (S33)) (a1 : Int) : wheel_Step.f qa ql a1 = if Dev.okL ql = true then some ((W10.stepR qa (Dev.toT ql) a1).1, Dev.ofT (W10.stepR qa (Dev.toT ql) a1).2.1, Dev.ofT (W10.stepR qa (Dev.toT ql) a1).2.2.1, (W10.stepR qa (Dev.toT ql) a1).2.2.2) else none := Classical.choose_spec wheel_Step.ex qa ql a1
theorem wheel_Step.calls (qa : Int) (qA : Option Addr) (qc : Nat) (ql : List (S33)) (a1 : Int) (r1 : Int) (r2 : List (S33)) (r3 : List (S33)) (r4 : Int) (w : World) (hr0_1 : Kd.C k33 w qA ql.length ql) (hc0_1 : ql.length ≤ qc) (h : wheel_Step.f qa ql a1 = some (r1, r2, r3, r4)) :
  Calls Try.prog 11 #[.agg #[.int .i64 qa, .slice qA ql.length qc], .int .i64 a1] w fun e w' => ∃ v1_ v2_ : Value, e = .returned (.tuple #[.agg #[.int .i64 r1, v1_], v2_, .int .i64 r4]) ∧ Kd.R k33 33 w' w.heap.size (fun k_ => some k_ ≠ (v2_ : Value).ownBlock) v1_ r2 ∧ Kd.R k33 33 w' w.heap.size (fun k_ => some k_ ≠ (v1_ : Value).ownBlock) v2_ r3 ∧ Below w.heap.size w w' := by
 rw [wheel_Step.f_eq] at h
 split at h
 ·rename_i hk
  obtain ⟨e1, h2⟩ := Prod.mk.inj (Option.some.inj h)
  obtain ⟨e2, h3⟩ := Prod.mk.inj h2
  obtain ⟨e3, e4⟩ := Prod.mk.inj h3
  clear h h2 h3
  subst e1 e2 e3 e4
  have := W10.step_ qa qA qc (Dev.toT ql) a1 w (Dev.reads_of hr0_1) (by rw [Dev.toT_len]; exact hc0_1) (Dev.okL_len hk) (Dev.okL_wf hk)
  rw [Dev.toT_len] at this
  refine this.mono ?_
  rintro e w' ⟨v1, v2, he, ho1, ho2, hap, hb⟩
  refine ⟨v1, v2, he, Dev.row_of ho1 (fun k hk1 e2 => ?_), Dev.row_of ho2 (fun k hk1 e2 => ?_), hb⟩
  ·rcases hap with h | h
   ·rw [h] at hk1; cases hk1
   ·exact h (hk1.trans e2)
  ·rcases hap with h | h
   ·rw [h] at e2; cases e2
   ·exact h (e2.symm.trans hk1.symm)
 ·cases h

/-! ### api_Timer_29: function 29 -/
def api_Timer_29.l0 : Nat → List (S33) → List (S33) → Int → Int → Option (Bool)
 |0, _, _, _, _ => none
 |k + 1, x0, x1, x12, x13 => if x13 < x12 then (if 0 ≤ x13 then (if x13 < (x0.length : Int) then (if x13 < (x1.length : Int) then (if (!(((rd_T33 x0 x13).f0) == ((rd_T33 x1 x13).f0)) || (!(((rd_T33 x0 x13).f1) == ((rd_T33 x1 x13).f1)))) = true then (some false) else (api_Timer_29.l0 k x0 x1 x12 (wrap64 (x13 + 1)))) else (none)) else (none)) else (none)) else (some true)
def api_Timer_29.f (k : Nat) (l0 : List (S33)) (l1 : List (S33)) : Option (Bool) := if (l0.length : Int) = (l1.length : Int) then (api_Timer_29.l0 k l0 l1 (l0.length : Int) 0) else (some false)
set_option maxHeartbeats 8000000 in
set_option maxRecDepth 100000 in
theorem api_Timer_29.calls (k : Nat) (A0 : Option Addr) (c0 : Nat) (l0 : List (S33)) (A1 : Option Addr) (c1 : Nat) (l1 : List (S33)) (r : Bool) (w : World) (hr0 : Kd.C k33 w A0 l0.length l0) (hc0 : l0.length ≤ c0) (hr1 : Kd.C k33 w A1 l1.length l1) (hc1 : l1.length ≤ c1) (h : api_Timer_29.f k l0 l1 = some r) :
  Calls Try.prog 29 #[.slice A0 l0.length c0, .slice A1 l1.length c1] w fun e w' => e = .returned (.bool r) ∧ Drawn0 w w' := by
 have hu33 := Try.underlying33
 have HR0 := Ym hr0
 have HC0 := Ym hc0
 clear hr0 hc0
 have HR1 := Ym hr1
 have HC1 := Ym hc1
 clear hr1 hc1
 have H : (if (l0.length : Int) = (l1.length : Int) then (api_Timer_29.l0 k l0 l1 (l0.length : Int) 0) else (some false)) = some r := h
 clear h
 by_cases c3 : (l0.length : Int) = (l1.length : Int)
 ·rw [if_pos c3] at H
  have c3b0 : ((l0.length : Int) == (l1.length : Int)) = true := beq_iff_eq.mpr c3
  have c3b1 : ((l0.length : Int) != (l1.length : Int)) = false := bne_eq_false_iff_eq.mpr c3
  have c3b2 : (l0.length == l1.length) = true := by first | simpa using c3 | (simp at c3 ⊢; omega)
  clear c3
  have H' := Ym H
  clear H
  go_enter Try.func29, Try.ntmps29
  go_wp2
  repeat (go_quiet (fail); try go_wp2)
  go_loopg [13] k (fun kq v13 w' => ∃ (x13_1 : Int), v13 = .int .i64 x13_1 ∧ Aside0 (api_Timer_29.l0 kq l0 l1 (l0.length : Int) x13_1 = some r) ∧ Aside0 (kq ≤ k) ∧ Drawn0 w w')
  case atStart => exact ⟨(0), (by first | rfl | (simp; done) | (simp [*]; done)), H', ⟨Nat.le_refl _⟩, by repeat (first | exact Drawn0.refl _ | apply Drawn0.step)⟩
  case round =>
   clear H'
   try clear c1
   try clear c2
   try clear p2
   try clear c3
   try clear c3b0
   try clear c3b1
   try clear c3b2
   obtain ⟨x13_1, rfl, HA, HK1, ⟨m1, rfl⟩⟩ := hrel
   cases gk with
   |zero => exact absurd HA.out (by simp [api_Timer_29.l0])
   |succ k1 =>
    have H := HA.out
    clear HA
    simp only [api_Timer_29.l0] at H
    by_cases c4 : x13_1 < (l0.length : Int)
    ·rw [if_pos c4] at H
     have c4b0 : decide (x13_1 < (l0.length : Int)) = true := decide_eq_true c4
     clear c4
     by_cases c5 : 0 ≤ x13_1
     ·rw [if_pos c5] at H
      have c5b0 : decide (0 ≤ x13_1) = true := decide_eq_true c5
      clear c5
      by_cases c6 : x13_1 < (l0.length : Int)
      ·rw [if_pos c6] at H
       have c6b0 : decide (x13_1 < (l0.length : Int)) = true := decide_eq_true c6
       clear c6
       by_cases c7 : x13_1 < (l1.length : Int)
       ·rw [if_pos c7] at H
        have c7b0 : decide (x13_1 < (l1.length : Int)) = true := decide_eq_true c7
        clear c7
        by_cases c8 : (!(((rd_T33 l0 x13_1).f0) == ((rd_T33 l1 x13_1).f0)) || (!(((rd_T33 l0 x13_1).f1) == ((rd_T33 l1 x13_1).f1)))) = true
        ·rw [if_pos c8] at H
         have c8b0 : (!(((rd_T33 l0 x13_1).f0) == ((rd_T33 l1 x13_1).f0)) || (!(((rd_T33 l0 x13_1).f1) == ((rd_T33 l1 x13_1).f1)))) = true := c8
         clear c8
         obtain rfl := Option.some.inj H
         have p114 : 0 ≤ (x13_1 : Int) := YF (by first | (with_reducible assumption) | assumption)
         have q114 : x13_1 < (l0.length : Int) := YF (by first | (with_reducible assumption) | assumption)
         obtain ⟨ad114, e114, hx114_0, hx114_1⟩ := at_T33 HR0.out x13_1 p114 q114
         cases e114
         replace p114 := eq_true p114
         replace q114 := eq_true q114
         have p115 : 0 ≤ (x13_1 : Int) := YF (by first | (with_reducible assumption) | assumption)
         have q115 : x13_1 < (l1.length : Int) := YF (by first | (with_reducible assumption) | assumption)
         obtain ⟨ad115, e115, hx115_0, hx115_1⟩ := at_T33 HR1.out x13_1 p115 q115
         cases e115
         replace p115 := eq_true p115
         replace q115 := eq_true q115
         go_wp2
         repeat (go_quiet (fail); try go_wp2)
         go_ret
         exact ⟨by first | rfl | (simp; done) | (simp [*]; done), by repeat (first | exact Drawn0.refl _ | apply Drawn0.step)⟩
        ·rw [if_neg c8] at H
         have c8b0 : (!(((rd_T33 l0 x13_1).f0) == ((rd_T33 l1 x13_1).f0)) || (!(((rd_T33 l0 x13_1).f1) == ((rd_T33 l1 x13_1).f1)))) = false := by simpa using c8
         clear c8
         have H' := Ym H
         clear H
         have p114 : 0 ≤ (x13_1 : Int) := YF (by first | (with_reducible assumption) | assumption)
         have q114 : x13_1 < (l0.length : Int) := YF (by first | (with_reducible assumption) | assumption)
         obtain ⟨ad114, e114, hx114_0, hx114_1⟩ := at_T33 HR0.out x13_1 p114 q114
         cases e114
         replace p114 := eq_true p114
         replace q114 := eq_true q114
         have p115 : 0 ≤ (x13_1 : Int) := YF (by first | (with_reducible assumption) | assumption)
         have q115 : x13_1 < (l1.length : Int) := YF (by first | (with_reducible assumption) | assumption)
         obtain ⟨ad115, e115, hx115_0, hx115_1⟩ := at_T33 HR1.out x13_1 p115 q115
         cases e115
         replace p115 := eq_true p115
         replace q115 := eq_true q115
         go_wp2
         repeat (go_quiet (fail); try go_wp2)
         go_roundg k1
         case measure => have := HK1.out; omega
         case rel => exact ⟨(wrap64 (x13_1 + 1)), (by first | rfl | (simp; done) | (simp [*]; done)), H', ⟨by have := HK1.out; omega⟩, by repeat (first | exact Drawn0.refl _ | apply Drawn0.step)⟩
       ·rw [if_neg c7] at H
        exact absurd H (by simp)
      ·rw [if_neg c6] at H
       exact absurd H (by simp)
     ·rw [if_neg c5] at H
      exact absurd H (by simp)
    ·rw [if_neg c4] at H
     have c4b0 : decide (x13_1 < (l0.length : Int)) = false := decide_eq_false c4
     clear c4
     obtain rfl := Option.some.inj H
     go_wp2
     repeat (go_quiet (fail); try go_wp2)
     go_ret
     exact ⟨by first | rfl | (simp; done) | (simp [*]; done), by repeat (first | exact Drawn0.refl _ | apply Drawn0.step)⟩
 ·rw [if_neg c3] at H
  have c3b0 : ((l0.length : Int) == (l1.length : Int)) = false := beq_eq_false_iff_ne.mpr c3
  have c3b1 : ((l0.length : Int) != (l1.length : Int)) = true := bne_iff_ne.mpr c3
  have c3b2 : (l0.length == l1.length) = false := by first | simpa using c3 | (simp at c3 ⊢; omega)
  obtain rfl := Option.some.inj H
  go_enter Try.func29, Try.ntmps29
  go_wp2
  repeat (go_quiet (fail); try go_wp2)
  go_ret
  exact ⟨by first | rfl | (simp; done) | (simp [*]; done), by repeat (first | exact Drawn0.refl _ | apply Drawn0.step)⟩

/-! ### wheel_Same: function 13 -/
def wheel_Same.f (k : Nat) (qa : Int) (ql : List (S33)) (qb : Int) (qm : List (S33)) : Option (Bool) := if qa = qb then ((api_Timer_29.f k ql qm).bind fun t118 => (some t118)) else (some false)
set_option maxHeartbeats 8000000 in
set_option maxRecDepth 100000 in
theorem wheel_Same.calls (k : Nat) (qa : Int) (qA : Option Addr) (qc : Nat) (ql : List (S33)) (qb : Int) (qB : Option Addr) (qd : Nat) (qm : List (S33)) (r : Bool) (w : World) (hr0_1 : Kd.C k33 w qA ql.length ql) (hc0_1 : ql.length ≤ qc) (hr1_1 : Kd.C k33 w qB qm.length qm) (hc1_1 : qm.length ≤ qd) (h : wheel_Same.f k qa ql qb qm = some r) :
  Calls Try.prog 13 #[.agg #[.int .i64 qa, .slice qA ql.length qc], .agg #[.int .i64 qb, .slice qB qm.length qd]] w fun e w' => e = .returned (.bool r) ∧ Below w.heap.size w w' := by
 have hu24 := Try.underlying24
 have HR0_1 := Ym hr0_1
 have HC0_1 := Ym hc0_1
 clear hr0_1 hc0_1
 have HR1_1 := Ym hr1_1
 have HC1_1 := Ym hc1_1
 clear hr1_1 hc1_1
 have HB := Ym (Below.refl w.heap.size w)
 have H : (if qa = qb then ((api_Timer_29.f k ql qm).bind fun t118 => (some t118)) else (some false)) = some r := h
 clear h
 by_cases c3 : qa = qb
 ·rw [if_pos c3] at H
  have c3b0 : (qa == qb) = true := beq_iff_eq.mpr c3
  have c3b1 : (qa != qb) = false := bne_eq_false_iff_eq.mpr c3
  clear c3
  replace H := YB.mp H
  obtain ⟨t118, A40, H⟩ := H
  replace H : (some t118) = some r := H
  have A4 := Ym A40
  clear A40
  obtain rfl := Option.some.inj H
  go_enter Try.func13, Try.ntmps13
  go_wp2_with (first | ((with_reducible refine gate_dst (N := 2) rfl ?_); refine box_event ?hg (N := 2) ?hd (cs := #[.int .i64 qa, .slice qA ql.length qc]) (t := 24) ?hr ?_; (case hd => rfl); (case hg => rfl); (case hr => first | (go_simp; done) | (go_simp; rfl)); intro gb116 hg w5 hbox hb; have n0_ := Ym (Yj (by repeat (first | (with_reducible first | exact HB.out | apply Yc | apply Ya | apply Yb) | exact HB.out)) hb); have n1_ := Ym (hbox); have n2_ := Ym ((by rw [hg]; exact (Yk (by repeat (first | (with_reducible first | exact HB.out | apply Yc | apply Ya | apply Yb) | exact HB.out))) : w.heap.size ≤ gb116)); have n3_ := Ym ((by rw [hg]; exact (Yk (by repeat (first | (with_reducible first | exact HB.out | apply Yc | apply Ya | apply Yb) | exact HB.out))) : w.heap.size ≤ gb116)); clear HB; have HB := n0_; have BK116 := n1_; have GW116 := n2_; have GE116 := n3_; clear n0_ n1_ n2_ n3_; clear hb hbox hg) | ((with_reducible refine gate_dst (N := 3) rfl ?_); refine box_event ?hg (N := 3) ?hd (cs := #[.int .i64 qb, .slice qB qm.length qd]) (t := 24) ?hr ?_; (case hd => rfl); (case hg => rfl); (case hr => first | (go_simp; done) | (go_simp; rfl)); intro gb117 hg w6 hbox hb; have n0_ := Ym (Yl (g := gb116) (o := .cells #[.int .i64 qa, .slice qA ql.length qc] 24 (0, 0)) (by (with_reducible repeat (first | refine Yd ?_ _ | refine Yf ?_ | refine Ye ?_ _)); exact BK116.out) hb); have n1_ := Ym (Yj (by repeat (first | (with_reducible first | exact HB.out | apply Yc | apply Ya | apply Yb | refine Yg ?_ GE116.out) | exact HB.out)) hb); have n2_ := Ym (hbox); have n3_ := Ym ((by rw [hg]; exact (Yk (by repeat (first | (with_reducible first | exact HB.out | apply Yc | apply Ya | apply Yb | refine Yg ?_ GE116.out) | exact HB.out))) : w.heap.size ≤ gb117)); have n4_ := Ym ((by rw [hg]; exact (Yk (by repeat (first | (with_reducible first | exact HB.out | apply Yc | apply Ya | apply Yb | refine Yg ?_ GE116.out) | exact HB.out))) : w.heap.size ≤ gb117)); have n5_ := Ym ((by rw [hg]; exact YD (YI (g := gb116) (o := .cells #[.int .i64 qa, .slice qA ql.length qc] 24 (0, 0)) (by (with_reducible repeat (first | refine Yd ?_ _ | refine Yf ?_ | refine Ye ?_ _)); exact BK116.out)) : gb116 ≠ gb117)); have n6_ := Ym ((by rw [hg]; exact YE (YI (g := gb116) (o := .cells #[.int .i64 qa, .slice qA ql.length qc] 24 (0, 0)) (by (with_reducible repeat (first | refine Yd ?_ _ | refine Yf ?_ | refine Ye ?_ _)); exact BK116.out)) : gb117 ≠ gb116)); clear BK116; clear HB; have BK116 := n0_; have HB := n1_; have BK117 := n2_; have GW117 := n3_; have GE117 := n4_; have NB116_117 := n5_; have NB117_116 := n6_; clear n0_ n1_ n2_ n3_ n4_ n5_ n6_; clear hb hbox hg; have hnb7 := NB116_117.out; have hnc7 := NB117_116.out; have hcz8_0 : w6.cell? ⟨gb116, 0, none⟩ = some (.int .i64 qa) := (Yh BK116.out 0).trans rfl; have hcz8_1 : w6.cell? ⟨gb116, 1, none⟩ = some (.slice qA ql.length qc) := (Yh BK116.out 1).trans rfl; have hfz8_0 := Yi BK116.out 0; have hfz8_1 := Yi BK116.out 1; have hcz9_0 : w6.cell? ⟨gb117, 0, none⟩ = some (.int .i64 qb) := (Yh BK117.out 0).trans rfl; have hcz9_1 : w6.cell? ⟨gb117, 1, none⟩ = some (.slice qB qm.length qd) := (Yh BK117.out 1).trans rfl; have hfz9_0 := Yi BK117.out 0; have hfz9_1 := Yi BK117.out 1) | (go_at_call 29; (with_reducible refine (api_Timer_29.calls k _ _ ql _ _ qm t118 _ ?side1 ?side2 ?side3 ?side4 A4.out).mono ?_); (case side1 => repeat (first | exact (Kd.C_below HR0_1.out HB.out) | (with_reducible refine Kd.C_alloc ?_ _) | (with_reducible refine Kd.C_drewN ?_ _) | (with_reducible refine Kd.C_drew ?_))); (case side2 => exact HC0_1.out); (case side3 => repeat (first | exact (Kd.C_below HR1_1.out HB.out) | (with_reducible refine Kd.C_alloc ?_ _) | (with_reducible refine Kd.C_drewN ?_ _) | (with_reducible refine Kd.C_drew ?_))); (case side4 => exact HC1_1.out); rintro e w' ⟨rfl, ⟨nd, rfl⟩⟩))
  go_ret
  exact ⟨by first | rfl | (simp [errW_none, errW_some] <;> rfl) | (simp [*, errW_none, errW_some] <;> rfl), by repeat (first | (with_reducible first | exact HB.out | apply Yc | apply Ya | apply Yb | refine Yg ?_ GE116.out | refine Yg ?_ GE117.out) | exact HB.out)⟩
 ·rw [if_neg c3] at H
  have c3b0 : (qa == qb) = false := beq_eq_false_iff_ne.mpr c3
  have c3b1 : (qa != qb) = true := bne_iff_ne.mpr c3
  obtain rfl := Option.some.inj H
  go_enter Try.func13, Try.ntmps13
  go_wp2_with (first | ((with_reducible refine gate_dst (N := 2) rfl ?_); refine box_event ?hg (N := 2) ?hd (cs := #[.int .i64 qa, .slice qA ql.length qc]) (t := 24) ?hr ?_; (case hd => rfl); (case hg => rfl); (case hr => first | (go_simp; done) | (go_simp; rfl)); intro gb116 hg w10 hbox hb; have n0_ := Ym (Yj (by repeat (first | (with_reducible first | exact HB.out | apply Yc | apply Ya | apply Yb) | exact HB.out)) hb); have n1_ := Ym (hbox); have n2_ := Ym ((by rw [hg]; exact (Yk (by repeat (first | (with_reducible first | exact HB.out | apply Yc | apply Ya | apply Yb) | exact HB.out))) : w.heap.size ≤ gb116)); have n3_ := Ym ((by rw [hg]; exact (Yk (by repeat (first | (with_reducible first | exact HB.out | apply Yc | apply Ya | apply Yb) | exact HB.out))) : w.heap.size ≤ gb116)); clear HB; have HB := n0_; have BK116 := n1_; have GW116 := n2_; have GE116 := n3_; clear n0_ n1_ n2_ n3_; clear hb hbox hg) | ((with_reducible refine gate_dst (N := 3) rfl ?_); refine box_event ?hg (N := 3) ?hd (cs := #[.int .i64 qb, .slice qB qm.length qd]) (t := 24) ?hr ?_; (case hd => rfl); (case hg => rfl); (case hr => first | (go_simp; done) | (go_simp; rfl)); intro gb117 hg w11 hbox hb; have n0_ := Ym (Yl (g := gb116) (o := .cells #[.int .i64 qa, .slice qA ql.length qc] 24 (0, 0)) (by (with_reducible repeat (first | refine Yd ?_ _ | refine Yf ?_ | refine Ye ?_ _)); exact BK116.out) hb); have n1_ := Ym (Yj (by repeat (first | (with_reducible first | exact HB.out | apply Yc | apply Ya | apply Yb | refine Yg ?_ GE116.out) | exact HB.out)) hb); have n2_ := Ym (hbox); have n3_ := Ym ((by rw [hg]; exact (Yk (by repeat (first | (with_reducible first | exact HB.out | apply Yc | apply Ya | apply Yb | refine Yg ?_ GE116.out) | exact HB.out))) : w.heap.size ≤ gb117)); have n4_ := Ym ((by rw [hg]; exact (Yk (by repeat (first | (with_reducible first | exact HB.out | apply Yc | apply Ya | apply Yb | refine Yg ?_ GE116.out) | exact HB.out))) : w.heap.size ≤ gb117)); have n5_ := Ym ((by rw [hg]; exact YD (YI (g := gb116) (o := .cells #[.int .i64 qa, .slice qA ql.length qc] 24 (0, 0)) (by (with_reducible repeat (first | refine Yd ?_ _ | refine Yf ?_ | refine Ye ?_ _)); exact BK116.out)) : gb116 ≠ gb117)); have n6_ := Ym ((by rw [hg]; exact YE (YI (g := gb116) (o := .cells #[.int .i64 qa, .slice qA ql.length qc] 24 (0, 0)) (by (with_reducible repeat (first | refine Yd ?_ _ | refine Yf ?_ | refine Ye ?_ _)); exact BK116.out)) : gb117 ≠ gb116)); clear BK116; clear HB; have BK116 := n0_; have HB := n1_; have BK117 := n2_; have GW117 := n3_; have GE117 := n4_; have NB116_117 := n5_; have NB117_116 := n6_; clear n0_ n1_ n2_ n3_ n4_ n5_ n6_; clear hb hbox hg; have hnb12 := NB116_117.out; have hnc12 := NB117_116.out; have hcz13_0 : w11.cell? ⟨gb116, 0, none⟩ = some (.int .i64 qa) := (Yh BK116.out 0).trans rfl; have hcz13_1 : w11.cell? ⟨gb116, 1, none⟩ = some (.slice qA ql.length qc) := (Yh BK116.out 1).trans rfl; have hfz13_0 := Yi BK116.out 0; have hfz13_1 := Yi BK116.out 1; have hcz14_0 : w11.cell? ⟨gb117, 0, none⟩ = some (.int .i64 qb) := (Yh BK117.out 0).trans rfl; have hcz14_1 : w11.cell? ⟨gb117, 1, none⟩ = some (.slice qB qm.length qd) := (Yh BK117.out 1).trans rfl; have hfz14_0 := Yi BK117.out 0; have hfz14_1 := Yi BK117.out 1))
  go_ret
  exact ⟨by first | rfl | (simp [errW_none, errW_some] <;> rfl) | (simp [*, errW_none, errW_some] <;> rfl), by repeat (first | (with_reducible first | exact HB.out | apply Yc | apply Ya | apply Yb | refine Yg ?_ GE116.out | refine Yg ?_ GE117.out) | exact HB.out)⟩

-- NOT PRINTED: function 39 (api_Timer_39)

-- NOT PRINTED: function 31 (api_Timer_31)

/-! ### wheel_Add: function 14 (given) -/
theorem wheel_Add.ex : ∃ g : Int → List (S33) → Int → Int → Option (Int × List (S33) × Int), ∀ qa ql a1 a2, g qa ql a1 a2 = if Dev.okL ql = true then some (qa, Dev.ofT (W10.addR qa (Dev.toT ql) a1 a2).1, (W10.addR qa (Dev.toT ql) a1 a2).2) else none := ⟨fun qa ql a1 a2 => if Dev.okL ql = true then some (qa, Dev.ofT (W10.addR qa (Dev.toT ql) a1 a2).1, (W10.addR qa (Dev.toT ql) a1 a2).2) else none, fun _ _ _ _ => rfl⟩
def wheel_Add.f (qa : Int) (ql : List (S33)) (a1 : Int) (a2 : Int) : Option (Int × List (S33) × Int) := Classical.choose wheel_Add.ex qa ql a1 a2
theorem wheel_Add.f_eq (qa : Int) (ql : List (S33)) (a1 : Int) (a2 : Int) : wheel_Add.f qa ql a1 a2 = if Dev.okL ql = true then some (qa, Dev.ofT (W10.addR qa (Dev.toT ql) a1 a2).1, (W10.addR qa (Dev.toT ql) a1 a2).2) else none := Classical.choose_spec wheel_Add.ex qa ql a1 a2
theorem wheel_Add.calls (qa : Int) (qA : Option Addr) (qc : Nat) (ql : List (S33)) (a1 : Int) (a2 : Int) (r1 : Int) (r2 : List (S33)) (r3 : Int) (w : World) (hr0_1 : Kd.C k33 w qA ql.length ql) (hc0_1 : ql.length ≤ qc) (h : wheel_Add.f qa ql a1 a2 = some (r1, r2, r3)) :
  Calls Try.prog 14 #[.agg #[.int .i64 qa, .slice qA ql.length qc], .int .i64 a1, .int .i64 a2] w fun e w' => ∃ v1_ : Value, e = .returned (.tuple #[.agg #[.int .i64 r1, v1_], .int .i64 r3]) ∧ Kd.R k33 33 w' w.heap.size (fun _ => True) v1_ r2 ∧ Below w.heap.size w w' := by
 rw [wheel_Add.f_eq] at h
 split at h
 ·rename_i hk
  obtain ⟨e1, h2⟩ := Prod.mk.inj (Option.some.inj h)
  obtain ⟨e2, e3⟩ := Prod.mk.inj h2
  clear h h2
  subst e1 e2 e3
  have := W10.add_ qa qA qc (Dev.toT ql) a1 a2 w (Dev.reads_of hr0_1) (by rw [Dev.toT_len]; exact hc0_1) (Dev.okL_len hk) (Dev.okL_wf hk)
  rw [Dev.toT_len] at this
  refine this.mono ?_
  rintro e w' ⟨v, he, ho, hb⟩
  exact ⟨v, he, Dev.row_of ho (fun _ _ => trivial), hb⟩
 ·cases h

/-! ### wheel_New: function 19 -/
def wheel_New.f (a0 : Int) : Option (Int × (List (S33)) × Bool) := (wheel_May.f a0 ([] : List (S33))).bind fun t121 => (if t121 = true then (some (a0, ([] : List (S33)), true)) else (some (0, ([] : List (S33)), false)))
set_option maxHeartbeats 8000000 in
set_option maxRecDepth 100000 in
theorem wheel_New.calls (a0 : Int) (r1 : Int) (r2 : List (S33)) (r3 : Bool) (w : World) (h : wheel_New.f a0 = some (r1, r2, r3)) :
  Calls Try.prog 19 #[.int .i64 a0] w fun e w' => ∃ v1_ : Value, e = .returned (.tuple #[.agg #[.int .i64 r1, v1_], .bool r3]) ∧ Kd.R k33 33 w' w.heap.size (fun _ => True) v1_ r2 ∧ Below w.heap.size w w' := by
 have hu24 := Try.underlying24
 have HB := Ym (Below.refl w.heap.size w)
 have H : ((wheel_May.f a0 ([] : List (S33))).bind fun t121 => (if t121 = true then (some (a0, ([] : List (S33)), true)) else (some (0, ([] : List (S33)), false)))) = some (r1, r2, r3) := h
 clear h
 replace H := YB.mp H
 obtain ⟨t121, A20, H⟩ := H
 replace H : (if t121 = true then (some (a0, ([] : List (S33)), true)) else (some (0, ([] : List (S33)), false))) = some (r1, r2, r3) := H
 have A2 := Ym A20
 clear A20
 by_cases c3 : t121 = true
 ·subst c3
  have H1 : (some (a0, ([] : List (S33)), true)) = some (r1, r2, r3) := by rw [if_pos rfl] at H; exact H
  clear H
  have H := H1
  clear H1
  simp only [Option.some.injEq, Prod.mk.injEq] at H
  obtain ⟨rfl, rfl, rfl⟩ := H
  go_enter Try.func19, Try.ntmps19
  go_wp2_with (first | ((with_reducible refine gate_dst (N := 2) rfl ?_); refine box_event ?hg (N := 2) ?hd (cs := #[.int .i64 0, .slice none 0 0]) (t := 24) ?hr ?_; (case hd => rfl); (case hg => rfl); (case hr => first | (go_simp; done) | (go_simp; rfl)); intro gb119 hg w4 hbox hb; have n0_ := Ym (Yj (by repeat (first | (with_reducible first | exact HB.out | apply Yc | apply Ya | apply Yb) | exact HB.out)) hb); have n1_ := Ym (hbox); have n2_ := Ym ((by rw [hg]; exact (Yk (by repeat (first | (with_reducible first | exact HB.out | apply Yc | apply Ya | apply Yb) | exact HB.out))) : w.heap.size ≤ gb119)); have n3_ := Ym ((by rw [hg]; exact (Yk (by repeat (first | (with_reducible first | exact HB.out | apply Yc | apply Ya | apply Yb) | exact HB.out))) : w.heap.size ≤ gb119)); clear HB; have HB := n0_; have BK119 := n1_; have GW119 := n2_; have GE119 := n3_; clear n0_ n1_ n2_ n3_; clear hb hbox hg) | ((with_reducible refine gate_dst (N := 4) rfl ?_); refine box_event ?hg (N := 4) ?hd (cs := #[.int .i64 0, .slice none 0 0]) (t := 24) ?hr ?_; (case hd => rfl); (case hg => rfl); (case hr => first | (go_simp; done) | (go_simp; rfl)); intro gb120 hg w5 hbox hb; have n0_ := Ym (Yl (g := gb119) (o := .cells #[.int .i64 0, .slice none 0 0] 24 (0, 0)) (by (with_reducible repeat (first | refine Yd ?_ _ | refine Yf ?_ | refine Ye ?_ _)); exact BK119.out) hb); have n1_ := Ym (Yj (by repeat (first | (with_reducible first | exact HB.out | apply Yc | apply Ya | apply Yb | refine Yg ?_ GE119.out) | exact HB.out)) hb); have n2_ := Ym (hbox); have n3_ := Ym ((by rw [hg]; exact (Yk (by repeat (first | (with_reducible first | exact HB.out | apply Yc | apply Ya | apply Yb | refine Yg ?_ GE119.out) | exact HB.out))) : w.heap.size ≤ gb120)); have n4_ := Ym ((by rw [hg]; exact (Yk (by repeat (first | (with_reducible first | exact HB.out | apply Yc | apply Ya | apply Yb | refine Yg ?_ GE119.out) | exact HB.out))) : w.heap.size ≤ gb120)); have n5_ := Ym ((by rw [hg]; exact YD (YI (g := gb119) (o := .cells #[.int .i64 0, .slice none 0 0] 24 (0, 0)) (by (with_reducible repeat (first | refine Yd ?_ _ | refine Yf ?_ | refine Ye ?_ _)); exact BK119.out)) : gb119 ≠ gb120)); have n6_ := Ym ((by rw [hg]; exact YE (YI (g := gb119) (o := .cells #[.int .i64 0, .slice none 0 0] 24 (0, 0)) (by (with_reducible repeat (first | refine Yd ?_ _ | refine Yf ?_ | refine Ye ?_ _)); exact BK119.out)) : gb120 ≠ gb119)); clear BK119; clear HB; have BK119 := n0_; have HB := n1_; have BK120 := n2_; have GW120 := n3_; have GE120 := n4_; have NB119_120 := n5_; have NB120_119 := n6_; clear n0_ n1_ n2_ n3_ n4_ n5_ n6_; clear hb hbox hg; have hnb6 := NB120_119.out; have hnc6 := NB119_120.out; have hcz7_0 : w5.cell? ⟨gb120, 0, none⟩ = some (.int .i64 0) := (Yh BK120.out 0).trans rfl; have hcz7_1 : w5.cell? ⟨gb120, 1, none⟩ = some (.slice none 0 0) := (Yh BK120.out 1).trans rfl; have hfz7_0 := Yi BK120.out 0; have hfz7_1 := Yi BK120.out 1) | ((with_reducible refine gate_callee (f := 23) rfl ?_); refine goesL_ (some 8) rfl rfl Try.func23 (by kernel_rfl) rfl #[.agg #[.int .i64 a0, .slice none 0 0]] rfl (by (try simp only [List.map_toArray, List.map_cons, List.map_nil]); first | done | rfl | (simp only [List.length_drop, List.length_take]; rfl)) ?_; (refine (wheel_May.calls a0 _ _ ([] : List (S33)) true _ ?side1 ?side2 A2.out).mono ?_); (case side1 => exact Kd.C_nil _ _); (case side2 => exact Nat.le_refl _); rintro e w8 ⟨rfl, hb⟩; refine ⟨_, rfl, ?_⟩; have n0_ := Ym (Yl (g := gb119) (o := .cells #[.int .i64 0, .slice none 0 0] 24 (0, 0)) (by (with_reducible repeat (first | refine Yd ?_ _ | refine Yf ?_ | refine Ye ?_ _)); refine YH ?_ NB119_120.out _; (with_reducible repeat (first | refine Yd ?_ _ | refine Yf ?_ | refine Ye ?_ _)); refine YH ?_ NB119_120.out _; (with_reducible repeat (first | refine Yd ?_ _ | refine Yf ?_ | refine Ye ?_ _)); exact BK119.out) hb); have n1_ := Ym (Yl (g := gb120) (o := .cells #[.int .i64 a0, .slice none 0 0] 24 (0, 0)) (by (with_reducible repeat (first | refine Yd ?_ _ | refine Yf ?_ | refine Ye ?_ _)); refine blk_put (cs := #[.int .i64 a0, .slice none 0 0]) ?_ 1 _ rfl; (with_reducible repeat (first | refine Yd ?_ _ | refine Yf ?_ | refine Ye ?_ _)); refine blk_put (cs := #[.int .i64 0, .slice none 0 0]) ?_ 0 _ rfl; (with_reducible repeat (first | refine Yd ?_ _ | refine Yf ?_ | refine Ye ?_ _)); exact BK120.out) hb); have n2_ := Ym (Yj (by repeat (first | (with_reducible first | exact HB.out | apply Yc | apply Ya | apply Yb | refine Yg ?_ GE119.out | refine Yg ?_ GE120.out) | exact HB.out)) hb); clear BK119; clear BK120; clear HB; have BK119 := n0_; have BK120 := n1_; have HB := n2_; clear n0_ n1_ n2_; (try clear hb); (try clear hb2); (try clear hk); (try clear hi); have hcz9_0 : w8.cell? ⟨gb120, 0, none⟩ = some (.int .i64 a0) := (Yh BK120.out 0).trans rfl; have hcz9_1 : w8.cell? ⟨gb120, 1, none⟩ = some (.slice none 0 0) := (Yh BK120.out 1).trans rfl; have hfz9_0 := Yi BK120.out 0; have hfz9_1 := Yi BK120.out 1; have hcz10_0 : w8.cell? ⟨gb119, 0, none⟩ = some (.int .i64 0) := (Yh BK119.out 0).trans rfl; have hcz10_1 : w8.cell? ⟨gb119, 1, none⟩ = some (.slice none 0 0) := (Yh BK119.out 1).trans rfl; have hfz10_0 := Yi BK119.out 0; have hfz10_1 := Yi BK119.out 1))
  refine bodyPost_ret (results_ct rfl _ _ gb119 24 #[.int .i64 a0, .slice none 0 0] (0, 0) _ rfl (by (with_reducible repeat (first | refine Yd ?_ _ | refine Yf ?_ | refine Ye ?_ _)); refine blk_put (cs := #[.int .i64 a0, .slice none 0 0]) ?_ 1 _ rfl; (with_reducible repeat (first | refine Yd ?_ _ | refine Yf ?_ | refine Ye ?_ _)); refine blk_put (cs := #[.int .i64 0, .slice none 0 0]) ?_ 0 _ rfl; (with_reducible repeat (first | refine Yd ?_ _ | refine Yf ?_ | refine Ye ?_ _)); exact BK119.out) Try.underlying24 rfl (by kernel_rfl)) rfl ?_
  exact ⟨_, by first | rfl | (simp [errW_none, errW_some] <;> rfl) | (simp [*, errW_none, errW_some] <;> rfl), by first | exact Kd.R_nil _ _ _ _ _ | exact Kd.N_nil _ _ _ _ _ | exact Kd.V_nil _ _ _ _ _ | exact Kd.Q_nil _ _ _ _ _ | exact Kd.S_nil _ _ _ _ _, by repeat (first | (with_reducible first | exact HB.out | apply Yc | apply Ya | apply Yb | refine Yg ?_ GE119.out | refine Yg ?_ GE120.out) | exact HB.out)⟩
 ·replace c3 := Bool.eq_false_iff.mpr c3
  subst c3
  have H1 : (some (0, ([] : List (S33)), false)) = some (r1, r2, r3) := by rw [if_neg (show ¬ (false = true) by decide)] at H; exact H
  clear H
  have H := H1
  clear H1
  simp only [Option.some.injEq, Prod.mk.injEq] at H
  obtain ⟨rfl, rfl, rfl⟩ := H
  go_enter Try.func19, Try.ntmps19
  go_wp2_with (first | ((with_reducible refine gate_dst (N := 2) rfl ?_); refine box_event ?hg (N := 2) ?hd (cs := #[.int .i64 0, .slice none 0 0]) (t := 24) ?hr ?_; (case hd => rfl); (case hg => rfl); (case hr => first | (go_simp; done) | (go_simp; rfl)); intro gb119 hg w11 hbox hb; have n0_ := Ym (Yj (by repeat (first | (with_reducible first | exact HB.out | apply Yc | apply Ya | apply Yb) | exact HB.out)) hb); have n1_ := Ym (hbox); have n2_ := Ym ((by rw [hg]; exact (Yk (by repeat (first | (with_reducible first | exact HB.out | apply Yc | apply Ya | apply Yb) | exact HB.out))) : w.heap.size ≤ gb119)); have n3_ := Ym ((by rw [hg]; exact (Yk (by repeat (first | (with_reducible first | exact HB.out | apply Yc | apply Ya | apply Yb) | exact HB.out))) : w.heap.size ≤ gb119)); clear HB; have HB := n0_; have BK119 := n1_; have GW119 := n2_; have GE119 := n3_; clear n0_ n1_ n2_ n3_; clear hb hbox hg) | ((with_reducible refine gate_dst (N := 4) rfl ?_); refine box_event ?hg (N := 4) ?hd (cs := #[.int .i64 0, .slice none 0 0]) (t := 24) ?hr ?_; (case hd => rfl); (case hg => rfl); (case hr => first | (go_simp; done) | (go_simp; rfl)); intro gb120 hg w12 hbox hb; have n0_ := Ym (Yl (g := gb119) (o := .cells #[.int .i64 0, .slice none 0 0] 24 (0, 0)) (by (with_reducible repeat (first | refine Yd ?_ _ | refine Yf ?_ | refine Ye ?_ _)); exact BK119.out) hb); have n1_ := Ym (Yj (by repeat (first | (with_reducible first | exact HB.out | apply Yc | apply Ya | apply Yb | refine Yg ?_ GE119.out) | exact HB.out)) hb); have n2_ := Ym (hbox); have n3_ := Ym ((by rw [hg]; exact (Yk (by repeat (first | (with_reducible first | exact HB.out | apply Yc | apply Ya | apply Yb | refine Yg ?_ GE119.out) | exact HB.out))) : w.heap.size ≤ gb120)); have n4_ := Ym ((by rw [hg]; exact (Yk (by repeat (first | (with_reducible first | exact HB.out | apply Yc | apply Ya | apply Yb | refine Yg ?_ GE119.out) | exact HB.out))) : w.heap.size ≤ gb120)); have n5_ := Ym ((by rw [hg]; exact YD (YI (g := gb119) (o := .cells #[.int .i64 0, .slice none 0 0] 24 (0, 0)) (by (with_reducible repeat (first | refine Yd ?_ _ | refine Yf ?_ | refine Ye ?_ _)); exact BK119.out)) : gb119 ≠ gb120)); have n6_ := Ym ((by rw [hg]; exact YE (YI (g := gb119) (o := .cells #[.int .i64 0, .slice none 0 0] 24 (0, 0)) (by (with_reducible repeat (first | refine Yd ?_ _ | refine Yf ?_ | refine Ye ?_ _)); exact BK119.out)) : gb120 ≠ gb119)); clear BK119; clear HB; have BK119 := n0_; have HB := n1_; have BK120 := n2_; have GW120 := n3_; have GE120 := n4_; have NB119_120 := n5_; have NB120_119 := n6_; clear n0_ n1_ n2_ n3_ n4_ n5_ n6_; clear hb hbox hg; have hnb13 := NB120_119.out; have hnc13 := NB119_120.out; have hcz14_0 : w12.cell? ⟨gb120, 0, none⟩ = some (.int .i64 0) := (Yh BK120.out 0).trans rfl; have hcz14_1 : w12.cell? ⟨gb120, 1, none⟩ = some (.slice none 0 0) := (Yh BK120.out 1).trans rfl; have hfz14_0 := Yi BK120.out 0; have hfz14_1 := Yi BK120.out 1) | ((with_reducible refine gate_callee (f := 23) rfl ?_); refine goesL_ (some 8) rfl rfl Try.func23 (by kernel_rfl) rfl #[.agg #[.int .i64 a0, .slice none 0 0]] rfl (by (try simp only [List.map_toArray, List.map_cons, List.map_nil]); first | done | rfl | (simp only [List.length_drop, List.length_take]; rfl)) ?_; (refine (wheel_May.calls a0 _ _ ([] : List (S33)) false _ ?side1 ?side2 A2.out).mono ?_); (case side1 => exact Kd.C_nil _ _); (case side2 => exact Nat.le_refl _); rintro e w15 ⟨rfl, hb⟩; refine ⟨_, rfl, ?_⟩; have n0_ := Ym (Yl (g := gb119) (o := .cells #[.int .i64 0, .slice none 0 0] 24 (0, 0)) (by (with_reducible repeat (first | refine Yd ?_ _ | refine Yf ?_ | refine Ye ?_ _)); refine YH ?_ NB119_120.out _; (with_reducible repeat (first | refine Yd ?_ _ | refine Yf ?_ | refine Ye ?_ _)); refine YH ?_ NB119_120.out _; (with_reducible repeat (first | refine Yd ?_ _ | refine Yf ?_ | refine Ye ?_ _)); exact BK119.out) hb); have n1_ := Ym (Yl (g := gb120) (o := .cells #[.int .i64 a0, .slice none 0 0] 24 (0, 0)) (by (with_reducible repeat (first | refine Yd ?_ _ | refine Yf ?_ | refine Ye ?_ _)); refine blk_put (cs := #[.int .i64 a0, .slice none 0 0]) ?_ 1 _ rfl; (with_reducible repeat (first | refine Yd ?_ _ | refine Yf ?_ | refine Ye ?_ _)); refine blk_put (cs := #[.int .i64 0, .slice none 0 0]) ?_ 0 _ rfl; (with_reducible repeat (first | refine Yd ?_ _ | refine Yf ?_ | refine Ye ?_ _)); exact BK120.out) hb); have n2_ := Ym (Yj (by repeat (first | (with_reducible first | exact HB.out | apply Yc | apply Ya | apply Yb | refine Yg ?_ GE119.out | refine Yg ?_ GE120.out) | exact HB.out)) hb); clear BK119; clear BK120; clear HB; have BK119 := n0_; have BK120 := n1_; have HB := n2_; clear n0_ n1_ n2_; (try clear hb); (try clear hb2); (try clear hk); (try clear hi); have hcz16_0 : w15.cell? ⟨gb119, 0, none⟩ = some (.int .i64 0) := (Yh BK119.out 0).trans rfl; have hcz16_1 : w15.cell? ⟨gb119, 1, none⟩ = some (.slice none 0 0) := (Yh BK119.out 1).trans rfl; have hfz16_0 := Yi BK119.out 0; have hfz16_1 := Yi BK119.out 1))
  refine bodyPost_ret (results_ct rfl _ _ gb119 24 #[.int .i64 0, .slice none 0 0] (0, 0) _ rfl (by (with_reducible repeat (first | refine Yd ?_ _ | refine Yf ?_ | refine Ye ?_ _)); refine blk_put (cs := #[.int .i64 0, .slice none 0 0]) ?_ 1 _ rfl; (with_reducible repeat (first | refine Yd ?_ _ | refine Yf ?_ | refine Ye ?_ _)); refine blk_put (cs := #[.int .i64 0, .slice none 0 0]) ?_ 0 _ rfl; (with_reducible repeat (first | refine Yd ?_ _ | refine Yf ?_ | refine Ye ?_ _)); exact BK119.out) Try.underlying24 rfl (by kernel_rfl)) rfl ?_
  exact ⟨_, by first | rfl | (simp [errW_none, errW_some] <;> rfl) | (simp [*, errW_none, errW_some] <;> rfl), by first | exact Kd.R_nil _ _ _ _ _ | exact Kd.N_nil _ _ _ _ _ | exact Kd.V_nil _ _ _ _ _ | exact Kd.Q_nil _ _ _ _ _ | exact Kd.S_nil _ _ _ _ _, by repeat (first | (with_reducible first | exact HB.out | apply Yc | apply Ya | apply Yb | refine Yg ?_ GE119.out | refine Yg ?_ GE120.out) | exact HB.out)⟩

end
end Go.Proofs.Ytggkealdbebbkaa.P
