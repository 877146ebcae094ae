-- Laid by this session's own program (wip/myprint.py): Lean functions for the Go functions that a law reaches, and their contracts. Not trusted: Lean checks it.
import Derived.Test.YtikmbpkakpbjlaaP0
namespace Go.Proofs.Ytikmbpkakpbjlaa.P
open Go.RowKit Go.Proofs.YtikmbpkakpbjlaaW.PrintWords Go.Proofs.YtikmbpkakpbjlaaW.PrintLast Go.Proofs.YtikmbpkakpbjlaaW.PrintMore
attribute [local go_sem] max2_int min2_int max_two min_two max_three min_three max_four min_four   -- for this text's walks alone
set_option linter.unusedVariables false
set_option linter.unusedSimpArgs false

/-! ### pack_Size: function 17 -/
def pack_Size.f (a0 : Int) (a1 : Int) : Option (Int) := if a0 < 0 then (some (-1)) else (if a0 > 400 then (some (-1)) else (if a1 < 0 then (some (-1)) else (if a1 > 32 then (some (-1)) else (some (wrap64 (Int.tdiv (wrap64 ((wrap64 ((wrap64 (a0 * a1)) + 8)) - 1)) 8))))))
set_option maxHeartbeats 8000000 in
set_option maxRecDepth 100000 in
theorem pack_Size.calls (a0 : Int) (a1 : Int) (r : Int) (w : World) (h : pack_Size.f a0 a1 = some r) :
    Calls Try.prog 17 #[.int .i64 a0, .int .i64 a1] w fun e w' => e = .returned (.int .i64 r) ∧ Drawn0 w w' := by
  have H : (if a0 < 0 then (some (-1)) else (if a0 > 400 then (some (-1)) else (if a1 < 0 then (some (-1)) else (if a1 > 32 then (some (-1)) else (some (wrap64 (Int.tdiv (wrap64 ((wrap64 ((wrap64 (a0 * a1)) + 8)) - 1)) 8))))))) = some r := h
  clear h
  by_cases c3 : a0 < 0
  · rw [if_pos c3] at H
    have c3b0 : decide (a0 < 0) = true := decide_eq_true c3
    clear c3
    obtain rfl := Option.some.inj H
    go_enter Try.func17, Try.ntmps17
    go_wp2
    go_ret
    exact ⟨by first | rfl | (simp; done) | (simp [*]; done), by repeat (first | exact Drawn0.refl _ | apply Drawn0.step)⟩
  · rw [if_neg c3] at H
    have c3b0 : decide (a0 < 0) = false := decide_eq_false c3
    clear c3
    by_cases c4 : a0 > 400
    · rw [if_pos c4] at H
      have c4b0 : decide (400 < a0) = true := decide_eq_true c4
      clear c4
      obtain rfl := Option.some.inj H
      go_enter Try.func17, Try.ntmps17
      go_wp2
      go_ret
      exact ⟨by first | rfl | (simp; done) | (simp [*]; done), by repeat (first | exact Drawn0.refl _ | apply Drawn0.step)⟩
    · rw [if_neg c4] at H
      have c4b0 : decide (400 < a0) = false := decide_eq_false c4
      clear c4
      by_cases c5 : a1 < 0
      · rw [if_pos c5] at H
        have c5b0 : decide (a1 < 0) = true := decide_eq_true c5
        clear c5
        obtain rfl := Option.some.inj H
        go_enter Try.func17, Try.ntmps17
        go_wp2
        go_ret
        exact ⟨by first | rfl | (simp; done) | (simp [*]; done), by repeat (first | exact Drawn0.refl _ | apply Drawn0.step)⟩
      · rw [if_neg c5] at H
        have c5b0 : decide (a1 < 0) = false := decide_eq_false c5
        clear c5
        by_cases c6 : a1 > 32
        · rw [if_pos c6] at H
          have c6b0 : decide (32 < a1) = true := decide_eq_true c6
          clear c6
          obtain rfl := Option.some.inj H
          go_enter Try.func17, Try.ntmps17
          go_wp2
          go_ret
          exact ⟨by first | rfl | (simp; done) | (simp [*]; done), by repeat (first | exact Drawn0.refl _ | apply Drawn0.step)⟩
        · rw [if_neg c6] at H
          have c6b0 : decide (32 < a1) = false := decide_eq_false c6
          clear c6
          obtain rfl := Option.some.inj H
          go_enter Try.func17, Try.ntmps17
          go_wp2
          go_ret
          exact ⟨by first | rfl | (simp; done) | (simp [*]; done), by repeat (first | exact Drawn0.refl _ | apply Drawn0.step)⟩

-- NOT PRINTED: function 24 (slices_IndexFunc_int_int)

-- NOT PRINTED: function 20 (slices_ContainsFunc_int_int)

/-! ### pack_Pack: function 10 (given) -/
namespace Dev
def sizeOf (n w : Int) : Int := if 0 ≤ n ∧ n ≤ 400 ∧ 0 ≤ w ∧ w ≤ 32 then (n * w + 7) / 8 else -1
theorem size_eq (n w : Int) : pack_Size.f n w = some (sizeOf n w) := by
  unfold pack_Size.f sizeOf
  split
  · rw [if_neg (by omega)]
  split
  · rw [if_neg (by omega)]
  split
  · rw [if_neg (by omega)]
  split
  · rw [if_neg (by omega)]
  have h0 : 0 ≤ n * w := Int.mul_nonneg (by omega) (by omega)
  have h1 : n * w ≤ 400 * 32 := Int.mul_le_mul (by omega) (by omega) (by omega) (by omega)
  rw [if_pos (by omega)]
  have e : wrap64 (wrap64 (wrap64 (wrap64 (n * w) + 8) - 1)) = n * w + 7 := by unfold wrap64; omega
  congr 1
  have e1 : wrap64 (wrap64 (wrap64 (n * w) + 8) - 1) = n * w + 7 := by unfold wrap64; omega
  rw [e1, Int.tdiv_eq_ediv_of_nonneg (by omega)]
  unfold wrap64; omega
instance (w : Nat) (l : List Int) : Decidable (M.Fit w l) := by unfold M.Fit; infer_instance
/-- A scope in which the run jumps back to one label: what stands behind the label is walked once. -/
theorem scope_jumps2 {P : Program} {a : Act} {w : World} {Q : Exit → Act → World → Prop} {c rest : Code} (l : Nat) (J : Act → World → Prop) (μ : Act → World → Nat) (hf : findLabel c l = some (Code.skip.seq rest))
    (pass : ∀ a w, J a w → rest.wp P (Exit.jump l (fun a' w' => J a' w' ∧ μ a' w' < μ a w) Q) a w)
    (first : (∀ a w, J a w → rest.wp P (Exit.jump l J Q) a w) → c.wp P (Exit.jump l J Q) a w) : (Code.scope c).wp P Q a w :=
  wp_scope_jumps l J μ hf (first fun a w hJ => Code.wp_mono (fun e a' w' q => by cases e <;> first | exact q | exact ⟨q.1, q.2.1⟩) (pass a w hJ)) (fun a w hJ => wp_seq (wp_skip (pass a w hJ)))
theorem or_join {x y : Int} (i : Nat) (k : Nat) (hx0 : 0 ≤ x) (hx : x < ((2 ^ i : Nat) : Int)) (hy : y = ((k * 2 ^ i : Nat) : Int)) (hb : x + y < 18446744073709551616) : bits .or .u64 x (IntKind.u64.wrap y) = x + y := by
  have hy0 : 0 ≤ y := by rw [hy]; exact Int.natCast_nonneg _
  rw [IntKind.wrap_u64, Int.emod_eq_of_lt hy0 (by omega), u64_or x y hx0 (by omega) hy0 (by omega)]
  rw [Nat.or_comm, nat_join i y.toNat x.toNat (by rw [hy, Int.toNat_natCast]; exact Nat.mul_mod_left _ _) (by omega)]
  omega
theorem and_mask {x : Int} (i : Nat) (hi : i ≤ 32) (hx0 : 0 ≤ x) (hx : x < 18446744073709551616) : wrap64 (bits .and .u64 x (IntKind.u64.wrap (IntKind.u64.wrap (2 ^ i) - 1))) = ((x.toNat % 2 ^ i : Nat) : Int) := by
  have h1 : (2 : Nat) ^ i ≤ 2 ^ 32 := Nat.pow_le_pow_right (by omega) hi
  have h2 := Nat.two_pow_pos i
  have h3 : (2 : Int) ^ i = ((2 ^ i : Nat) : Int) := by norm_cast
  rw [h3, IntKind.wrap_u64, IntKind.wrap_u64, Int.emod_eq_of_lt (by omega) (by omega), Int.emod_eq_of_lt (by omega) (by omega)]
  rw [u64_and _ _ hx0 hx (by omega) (by omega), show ((((2 ^ i : Nat) : Int) - 1).toNat) = 2 ^ i - 1 by omega, Nat.and_two_pow_sub_one_eq_mod]
  have := Nat.mod_lt x.toNat h2
  unfold wrap64; omega
def badB (w n : Int) : Bool := decide (n < 0) || (n / 2 ^ w.toNat != 0)
theorem wide_calls (n a : Int) (ha0 : 0 ≤ a) (ha : a ≤ 32) (B : Nat) (w : World) (hc : w.cell? ⟨B, 0, none⟩ = some (.int .i64 a)) :
    Calls Try.prog 19 #[.int .i64 n, .pointer (some ⟨B, 0, none⟩)] w fun e w' => e = .returned (.bool (badB a n)) ∧ Drawn0 w w' := by
  by_cases hn : n < 0
  · have hb : badB a n = true := by simp [badB, hn]
    rw [hb]
    have hd : decide (n < 0) = true := by simpa using hn
    go_enter Try.func19, Try.ntmps19
    go_wp2
    go_ret
    exact ⟨rfl, by repeat (first | exact Drawn0.refl _ | apply Drawn0.step)⟩
  · have hb : badB a n = (n / 2 ^ a.toNat != 0) := by simp [badB, hn]
    rw [hb]
    have hd : decide (n < 0) = false := by simpa using hn
    go_enter Try.func19, Try.ntmps19
    go_wp2
    go_ret
    exact ⟨rfl, by repeat (first | exact Drawn0.refl _ | apply Drawn0.step)⟩
def AtPred (g : Nat) (b : Value) (p : Int → Bool) (w : World) : Prop := ∀ (W : World) (x : Int), Below w.heap.size w W → Calls Try.prog g #[.int .i64 x, b] W fun e w' => e = .returned (.bool (p x)) ∧ Drawn0 W w'
theorem rd_get {l : List Int} {k : Nat} (h : k < l.length) : rd l k = l[k] := by simp [rd, List.getD_eq_getElem?_getD, List.getElem?_eq_getElem h]
set_option maxHeartbeats 1000000 in
set_option maxRecDepth 100000 in
theorem index_none (A0 : Option Addr) (c0 : Nat) (l0 : List Int) (b : Value) (p : Int → Bool) (w : World) (hr0 : Kd.C (Kd.int .i64) w A0 l0.length l0) (hl : l0.length ≤ 400) (hp : AtPred 19 b p w) (hany : ∀ x ∈ l0, p x = false) :
    Calls Try.prog 24 #[.slice A0 l0.length c0, .func (.func 19) #[] #[b]] w fun e w' => e = .returned (.int .i64 (-1)) ∧ Below w.heap.size w w' := by
  have HR0 := Aside0.mk hr0
  have HP := Aside0.mk hp
  have HA := Aside0.mk hany
  clear hr0 hp hany
  go_enter Try.func24, Try.ntmps24
  go_wp2
  go_loopw [5, 8] (fun _ i wr => ∃ k : Nat, k ≤ l0.length ∧ i = .int .i64 k ∧ Aside0 (Below w.heap.size w wr)) (fun _ i _ => l0.length - (intOf i).toNat)
  case atStart => exact ⟨0, Nat.zero_le _, rfl, ⟨Below.refl _ _⟩⟩
  case round =>
    obtain ⟨k, hk, rfl, HB⟩ := hrel
    by_cases hlt : k < l0.length
    · obtain ⟨ad, rfl, hcell⟩ := Kd.at_int (Kd.C_below HR0.out HB.out) k (by omega) (by omega)
      have hx := HA.out (rd l0 k) (by rw [rd_get hlt]; exact List.getElem_mem hlt)
      generalize rd l0 k = x at hcell hx
      simp only [Int.toNat_natCast] at hcell
      have HX := HP.out wr x HB.out
      rw [hx] at HX
      have HX := Aside0.mk HX
      clear hx
      go_wp2_with (go_at_call 19; (with_reducible refine (HX.out).mono ?_); rintro e w' ⟨rfl, ⟨nd, rfl⟩⟩)
      go_roundw
      case rel => exact ⟨k + 1, by omega, by go_num, ⟨pw_below_drewN HB.out _⟩⟩
      case measure => simp [intOf]; omega
    · go_wp2
      go_ret
      exact ⟨rfl, HB.out⟩
def Found (w : World) (e : Ending) (w' : World) : Prop := ∃ r : Int, 0 ≤ r ∧ e = .returned (.int .i64 r) ∧ Below w.heap.size w w'
set_option maxHeartbeats 1000000 in
set_option maxRecDepth 100000 in
theorem index_some (A0 : Option Addr) (c0 : Nat) (l0 : List Int) (b : Value) (p : Int → Bool) (w : World) (hr0 : Kd.C (Kd.int .i64) w A0 l0.length l0) (hl : l0.length ≤ 400) (hp : AtPred 19 b p w) (m : Nat) (hm : m < l0.length) (hpm : p (rd l0 m) = true) :
    Calls Try.prog 24 #[.slice A0 l0.length c0, .func (.func 19) #[] #[b]] w (Found w) := by
  have HR0 := Aside0.mk hr0
  have HP := Aside0.mk hp
  have HM := Aside0.mk hpm
  clear hr0 hp hpm
  go_enter Try.func24, Try.ntmps24
  go_wp2
  go_loopw [5, 8] (fun _ i wr => ∃ k : Nat, k ≤ m ∧ i = .int .i64 k ∧ Aside0 (Below w.heap.size w wr)) (fun _ i _ => l0.length - (intOf i).toNat)
  case atStart => exact ⟨0, Nat.zero_le _, rfl, ⟨Below.refl _ _⟩⟩
  case round =>
    obtain ⟨k, hk, rfl, HB⟩ := hrel
    have hlt : k < l0.length := by omega
    obtain ⟨ad, rfl, hcell⟩ := Kd.at_int (Kd.C_below HR0.out HB.out) k (by omega) (by omega)
    obtain ⟨x, hx⟩ : ∃ x, rd l0 k = x := ⟨_, rfl⟩
    rw [hx] at hcell
    simp only [Int.toNat_natCast] at hcell
    have HX := HP.out wr x HB.out
    by_cases hpx : p x = true
    · rw [hpx] at HX
      have HX := Aside0.mk HX
      clear hx hpx
      go_wp2_with (go_at_call 19; (with_reducible refine (HX.out).mono ?_); rintro e w' ⟨rfl, ⟨nd, rfl⟩⟩)
      go_ret
      exact ⟨k, by omega, rfl, pw_below_drewN HB.out _⟩
    · have hkm : k ≠ m := by rintro rfl; exact hpx (by rw [← hx]; exact HM.out)
      replace hpx : p x = false := by simpa using hpx
      rw [hpx] at HX
      have HX := Aside0.mk HX
      clear hx hpx
      go_wp2_with (go_at_call 19; (with_reducible refine (HX.out).mono ?_); rintro e w' ⟨rfl, ⟨nd, rfl⟩⟩)
      go_roundw
      case rel => exact ⟨k + 1, by omega, by go_num, ⟨pw_below_drewN HB.out _⟩⟩
      case measure => simp [intOf]; omega
set_option maxHeartbeats 1000000 in
set_option maxRecDepth 100000 in
theorem contains_calls (A0 : Option Addr) (c0 : Nat) (l0 : List Int) (b : Value) (p : Int → Bool) (w : World) (hr0 : Kd.C (Kd.int .i64) w A0 l0.length l0) (hl : l0.length ≤ 400) (hp : AtPred 19 b p w) :
    Calls Try.prog 20 #[.slice A0 l0.length c0, .func (.func 19) #[] #[b]] w fun e w' => e = .returned (.bool (l0.any p)) ∧ Below w.heap.size w w' := by
  cases ha : l0.any p with
  | false =>
    have hall : ∀ x ∈ l0, p x = false := by simpa using ha
    have HX := Aside0.mk (index_none A0 c0 l0 b p w hr0 hl hp hall)
    clear hr0 hp hall ha
    go_enter Try.func20, Try.ntmps20
    go_wp2_with (go_at_call 24; (with_reducible refine (HX.out).mono ?_); rintro e w' ⟨rfl, hb⟩)
    go_ret
    exact ⟨rfl, hb⟩
  | true =>
    obtain ⟨x, hx, hpx⟩ := List.any_eq_true.1 ha
    obtain ⟨m, hm, rfl⟩ := List.mem_iff_getElem.1 hx
    have HX := Aside0.mk (index_some A0 c0 l0 b p w hr0 hl hp m hm (by rw [rd_get hm]; exact hpx))
    clear hr0 hp ha hx hpx
    go_enter Try.func20, Try.ntmps20
    go_wp2_with (go_at_call 24; (with_reducible refine (HX.out).mono ?_); rintro e w' ⟨r, hr, rfl, hb⟩)
    go_ret
    exact ⟨rfl, hb⟩
theorem R_made0 (W : World) (base c : Nat) (hb : base ≤ W.heap.size) (hc : c ≤ maxLen) : Kd.R (Kd.int .u8) 5 (W.alloc (.cells (madeCells #[.int .u8 0] c) 5)) base (fun _ => True) (.slice (some ⟨W.heap.size, 0, none⟩) 0 c) [] :=
  ⟨fun _ _ => trivial, [], ⟨rfl, .inr ⟨W.heap.size, c, _, rfl, hb, Array.getElem?_push_size, Nat.zero_le _, hc, (size_madeCells _ _).trans (Nat.mul_one _).symm, rfl⟩⟩, Reps.none _ _⟩
def PTail (r1 : List Int) (r2 : Bool) (w : World) (e : Ending) (w' : World) : Prop := ∃ v0_ : Value, e = .returned (.tuple #[v0_, .bool r2]) ∧ Kd.R (Kd.int .u8) 5 w' w.heap.size (fun _ => True) v0_ r1 ∧ Below w.heap.size w w'
set_option maxHeartbeats 1000000 in
set_option maxRecDepth 100000 in
theorem pack_Pack.no1 (A0 : Option Addr) (c0 : Nat) (l0 : List Int) (a1 : Int) (hs : sizeOf l0.length a1 = -1) (w0 : World) :
    Calls Try.prog 10 #[.slice A0 l0.length c0, .int .i64 a1] w0 (PTail [] false w0) := by
  have hsz := size_eq l0.length a1
  rw [hs] at hsz
  have HS := Aside0.mk hsz
  clear hsz hs
  go_enter Try.func10, Try.ntmps10
  have hmf : ∀ (fn : Fn) (first cap : Array Value) (w : World), (Instr.makeFunc fn first cap).run Try.prog w = .ok (.func fn first cap) w := fun _ _ _ _ => rfl
  go_wp2_with (go_at_call 17; (with_reducible refine (pack_Size.calls l0.length a1 (-1) _ HS.out).mono ?_); rintro e w' ⟨rfl, ⟨nd, rfl⟩⟩)
  go_ret2
  exact ⟨_, rfl, Kd.R_nil _ _ _ _ _, pw_below_drewN (below_alloc (Below.refl _ _) _) _⟩
theorem at_pred (a : Int) (ha0 : 0 ≤ a) (ha : a ≤ 32) (B : Nat) (w : World) (hB : B < w.heap.size) (hc : w.cell? ⟨B, 0, none⟩ = some (.int .i64 a)) : AtPred 19 (.pointer (some ⟨B, 0, none⟩)) (badB a) w :=
  fun W x hb => wide_calls x a ha0 ha B W ((hb.cell (p := ⟨B, 0, none⟩) hB).trans hc)
set_option maxHeartbeats 1000000 in
set_option maxRecDepth 100000 in
theorem pack_Pack.no2 (A0 : Option Addr) (c0 : Nat) (l0 : List Int) (a1 : Int) (w0 : World) (hr0 : Kd.C (Kd.int .i64) w0 A0 l0.length l0) (h1 : l0.length ≤ 400) (h2 : 0 ≤ a1) (h3 : a1 ≤ 32) (hany : l0.any (badB a1) = true) :
    Calls Try.prog 10 #[.slice A0 l0.length c0, .int .i64 a1] w0 (PTail [] false w0) := by
  obtain ⟨z, hz⟩ : ∃ z, z = sizeOf l0.length a1 := ⟨_, rfl⟩
  have hsz := size_eq l0.length a1
  rw [← hz] at hsz
  have hz0 : 0 ≤ z := by
    have := Int.mul_nonneg (a := (l0.length : Int)) (b := a1) (by omega) h2
    rw [hz, sizeOf, if_pos (by omega)]; omega
  have HS := Aside0.mk hsz
  have HR := Aside0.mk hr0
  have HA := Aside0.mk hany
  clear hsz hz hr0 hany
  have hz1 : (z == -1) = false := beq_eq_false_iff_ne.2 (by omega)
  go_enter Try.func10, Try.ntmps10
  have hmf : ∀ (fn : Fn) (first cap : Array Value) (w : World), (Instr.makeFunc fn first cap).run Try.prog w = .ok (.func fn first cap) w := fun _ _ _ _ => rfl
  go_wp2_with (first | (go_at_call 17; (with_reducible refine (pack_Size.calls l0.length a1 z _ HS.out).mono ?_); rintro e w' ⟨rfl, ⟨nd, rfl⟩⟩) | (go_at_call 20; have hcc := contains_calls A0 c0 l0 (.pointer (some ⟨w0.heap.size, 0, none⟩)) (badB a1) ((w0.alloc (.cells #[.int .i64 a1] 3)).drewN nd) (Kd.C_drewN (Kd.C_alloc HR.out _) _) h1 (at_pred a1 h2 h3 w0.heap.size _ (by simp) (by simp)); rw [HA.out] at hcc; (with_reducible refine hcc.mono ?_); clear hcc; rintro e w1 ⟨rfl, hb⟩))
  go_ret2
  exact ⟨_, rfl, Kd.R_nil _ _ _ _ _, below_step (pw_below_drewN (below_alloc (Below.refl _ _) _) nd) hb⟩
/-- What is told behind kk numbers and j bytes: the bits that wait (L), how many they are (H). -/
structure PF (l0 : List Int) (w kk : Nat) (W1 : World) (out : Value) (j : Nat) (L H : Int) (wr : World) : Prop where
  hk : kk ≤ l0.length
  h1 : 8 * j ≤ w * kk
  hL : L = ((M.packNum w (l0.take kk) / 2 ^ (8 * j) : Nat) : Int)
  hH : H = (w : Int) * kk - 8 * j
  hO : Kd.R (Kd.int .u8) 5 wr W1.heap.size (fun _ => True) out (M.digits 8 j (M.packNum w (l0.take kk)))
  hB : Below W1.heap.size W1 wr
theorem PF.small {l0 : List Int} {w kk j : Nat} {W1 wr : World} {out : Value} {L H : Int} (hf : M.Fit w l0) (h : PF l0 w kk W1 out j L H wr) : 0 ≤ H ∧ 0 ≤ L ∧ L < ((2 ^ H.toNat : Nat) : Int) := by
  have e1 : (w : Int) * kk = ((w * kk : Nat) : Int) := by norm_cast
  have hH := h.hH
  have h1 := h.h1
  have hP := M.take_lt' hf kk h.hk
  obtain ⟨hn, hhn⟩ : ∃ hn : Nat, w * kk = hn + 8 * j := ⟨w * kk - 8 * j, by omega⟩
  rw [hhn] at hP
  have := M.fill_lt hP
  refine ⟨by omega, by rw [h.hL]; exact Int.natCast_nonneg _, ?_⟩
  rw [h.hL, show H.toNat = hn by omega]
  exact_mod_cast this
theorem PF.add {l0 : List Int} {w kk j : Nat} {W1 wr : World} {out : Value} {L H n : Int} (hf : M.Fit w l0) (hw : w ≤ 32) (h : PF l0 w kk W1 out j L H wr) (hk : kk < l0.length) (hH8 : H < 8) (hn : rd l0 kk = n) :
    PF l0 w (kk + 1) W1 out j (bits .or .u64 L (IntKind.u64.wrap (n * 2 ^ H.toNat))) (H + w) wr := by
  obtain ⟨h0, hl0, hl1⟩ := h.small hf
  have e1 : (w : Int) * kk = ((w * kk : Nat) : Int) := by norm_cast
  obtain ⟨hn', hhn⟩ : ∃ hn : Nat, w * kk = hn + 8 * j := ⟨w * kk - 8 * j, by have := h.h1; omega⟩
  have hHn : H = hn' := by have := h.hH; omega
  have hnv : n = l0.getD kk 0 := by rw [← hn, rd_get hk]; simp [List.getD_eq_getElem?_getD, List.getElem?_eq_getElem hk]
  have hn2 : 0 ≤ n ∧ n < ((2 ^ w : Nat) : Int) := hf n (by rw [← hn, rd_get hk]; exact List.getElem_mem hk)
  have hpw : (2 : Nat) ^ w ≤ 2 ^ 32 := Nat.pow_le_pow_right (by omega) hw
  have hph : (2 : Nat) ^ hn' ≤ 2 ^ 7 := Nat.pow_le_pow_right (by omega) (by omega)
  have hm : n.toNat * 2 ^ hn' ≤ 2 ^ 32 * 2 ^ 7 := Nat.mul_le_mul (by omega) hph
  have hn3 : n * 2 ^ H.toNat = ((n.toNat * 2 ^ hn' : Nat) : Int) := by
    rw [hHn, Int.toNat_natCast, Int.natCast_mul]
    have : (n.toNat : Int) = n := by omega
    rw [this]; norm_cast
  have hts := M.take_step' w l0 kk hk
  rw [← hnv] at hts
  refine ⟨hk, by have := h.h1; rw [Nat.mul_succ]; omega, ?_, ?_, ?_, h.hB⟩
  · rw [hn3, or_join hn' n.toNat hl0 (by rw [hHn, Int.toNat_natCast] at hl1; exact hl1) rfl (by rw [hHn, Int.toNat_natCast] at hl1; omega), hts, hhn, M.fill_div, h.hL]
    norm_cast
  · rw [h.hH]; push_cast; rw [Int.mul_add]; omega
  · rw [hts, hhn, M.digits_low]
    exact h.hO
theorem PF.spill {l0 : List Int} {w kk j : Nat} {W1 w1 wr : World} {out v : Value} {L H : Int} (hf : M.Fit w l0) (h : PF l0 w kk W1 out j L H wr) (hH : 8 ≤ H)
    (ho : Kd.R (Kd.int .u8) 5 w1 W1.heap.size (fun _ => True) v (M.digits 8 j (M.packNum w (l0.take kk)) ++ [L % 256])) (hb : Below W1.heap.size W1 w1) :
    PF l0 w kk W1 v (j + 1) (L / 256) (H - 8) w1 := by
  have e1 : (w : Int) * kk = ((w * kk : Nat) : Int) := by norm_cast
  refine ⟨h.hk, by have := h.hH; omega, ?_, by have := h.hH; omega, ?_, hb⟩
  · rw [h.hL, Nat.mul_succ, Nat.pow_add, ← Nat.div_div_eq_div_mul, show (2 : Nat) ^ 8 = 256 from rfl]; omega
  · rw [M.digits_snoc, ← show L % 256 = ((M.packNum w (l0.take kk) / 2 ^ (8 * j) % 2 ^ 8 : Nat) : Int) by rw [h.hL, show (2 : Nat) ^ 8 = 256 from rfl]; omega]
    exact ho
def PRel (l0 : List Int) (w : Nat) (W1 : World) (out left hv i : Value) (wr : World) : Prop :=
  ∃ (kk j : Nat) (L H : Int), H < 8 ∧ PF l0 w kk W1 out j L H wr ∧ i = .int .i64 kk ∧ hv = .int .i64 H ∧ left = .int .u64 L
def PJ (l0 : List Int) (w z kk : Nat) (A0 : Option Addr) (c0 : Nat) (w0 w1 : World) (a : Act) (wr : World) : Prop :=
  ∃ (j : Nat) (L H : Int) (out : Value), H < w + 8 ∧ PF l0 w (kk + 1) w1 out j L H wr ∧ ∃ (x12 x31 x32 x33 x34 x35 x36 x37 x38 x39 x40 x41 x42 x43 x44 x45 x46 x47 x48 x49 x50 x51 x52 x53 : Value), a = { tmps := #[.slice A0 l0.length c0, .int .i64 w, undef, .pointer (some ⟨w0.heap.size, 0, none⟩), .slice none 0 0, .bool false, .int .i64 z, .func (.func 19) #[] #[.pointer (some ⟨w0.heap.size, 0, none⟩)], out, .int .u64 L, .int .i64 H, undef, x12, .slice A0 l0.length c0, .int .i64 l0.length, .int .i64 w, .int .i64 z, .func (.func 19) #[] #[.pointer (some ⟨w0.heap.size, 0, none⟩)], .int .i64 z, .bool false, .bool false, .slice A0 l0.length c0, .func (.func 19) #[] #[.pointer (some ⟨w0.heap.size, 0, none⟩)], .bool false, .bool false, .int .i64 z, .slice (some ⟨w1.heap.size, 0, none⟩) 0 z, .slice A0 l0.length c0, .int .i64 l0.length, .int .i64 kk, .bool true, x31, x32, x33, x34, x35, x36, x37, x38, x39, x40, x41, x42, x43, x44, x45, x46, x47, x48, x49, x50, x51, x52, x53, undef, undef, undef, undef, undef, undef, undef, undef], defers := [] }
def pMu (a : Act) (_ : World) : Nat := (intOf (a.tmps.getD 10 undef)).toNat
def PPost (l0 : List Int) (w : Nat) (w0 : World) (e : Ending) (w' : World) : Prop := PTail (M.digits 8 ((l0.length * w + 7) / 8) (M.packNum w l0)) true w0 e w'
set_option maxHeartbeats 1000000 in
set_option maxRecDepth 100000 in
theorem pack_Pack.yes (A0 : Option Addr) (c0 : Nat) (l0 : List Int) (w : Nat) (w0 : World) (hr0 : Kd.C (Kd.int .i64) w0 A0 l0.length l0) (h1 : l0.length ≤ 400) (h3 : w ≤ 32) (hf : M.Fit w l0) (hany : l0.any (badB w) = false) :
    Calls Try.prog 10 #[.slice A0 l0.length c0, .int .i64 w] w0 (PPost l0 w w0) := by
  obtain ⟨z, hz⟩ : ∃ z, z = (l0.length * w + 7) / 8 := ⟨_, rfl⟩
  have hsz : pack_Size.f l0.length w = some (z : Int) := by rw [size_eq, sizeOf, if_pos (by omega), hz]; congr 1
  have hz9 : z ≤ 1600 := by have := Nat.mul_le_mul h1 h3; omega
  have HS := Aside0.mk hsz
  have HR := Aside0.mk hr0
  have HA := Aside0.mk hany
  have HF := Aside0.mk hf
  have HZ := Aside0.mk hz
  clear hsz hz hr0 hany hf
  have hz1 : ((z : Int) == -1) = false := beq_eq_false_iff_ne.2 (by omega)
  go_enter Try.func10, Try.ntmps10
  have hmf : ∀ (fn : Fn) (first cap : Array Value) (w : World), (Instr.makeFunc fn first cap).run Try.prog w = .ok (.func fn first cap) w := fun _ _ _ _ => rfl
  have hmk : ∀ W : World, (Instr.makeSlice 23 (.int .i64 0) (.int .i64 (z : Int))).run Try.prog W = .ok (.slice (some ⟨W.heap.size, 0, none⟩) 0 z) (W.alloc (.cells (madeCells #[.int .u8 0] z) 5)) := by
    intro W
    obtain ⟨i0, hi, hzz⟩ := Option.map_eq_some_iff.1 info5
    simp only [Prod.mk.injEq] at hzz
    have hr := run_make (P := Try.prog) (w := W) 23 5 i0 (.int .u8 0) Try.underlying23 hi hzz.1 .i64 .i64 0 z (by omega) (by omega) (by rw [hzz.2.2]; omega) (by omega)
    rw [hzz.2.1] at hr
    simp only [Int.toNat_natCast, Int.toNat_zero, Nat.mul_one] at hr
    exact hr
  go_wp2_with (first | (go_at_call 17; (with_reducible refine (pack_Size.calls l0.length w z _ HS.out).mono ?_); rintro e w' ⟨rfl, ⟨nd, rfl⟩⟩) | (go_at_call 20; have hcc := contains_calls A0 c0 l0 (.pointer (some ⟨w0.heap.size, 0, none⟩)) (badB w) ((w0.alloc (.cells #[.int .i64 w] 3)).drewN nd) (Kd.C_drewN (Kd.C_alloc HR.out _) _) h1 (at_pred w (by omega) (by omega) w0.heap.size _ (by simp) (by simp)); rw [HA.out] at hcc; (with_reducible refine hcc.mono ?_); clear hcc; rintro e w1 ⟨rfl, hb⟩; have HB := Aside0.mk hb; clear hb))
  have hbx : w1.cell? ⟨w0.heap.size, 0, none⟩ = some (.int .i64 w) := (HB.out.cell (p := ⟨w0.heap.size, 0, none⟩) (by simp)).trans (by simp)
  have hsz1 : w0.heap.size < w1.heap.size := by have := HB.out.size; simp at this; omega
  have HB0 := Aside0.mk (below_step (pw_below_drewN (below_alloc (Below.refl _ w0) _) nd) HB.out)
  clear HB
  go_loopw [8, 9, 10, 29] (fun out left hv i wr => PRel l0 w w1 out left hv i wr) (fun _ _ _ i _ => l0.length - (intOf i).toNat)
  case atStart => exact ⟨0, 0, 0, 0, by omega, ⟨Nat.zero_le _, by omega, by simp [M.packNum], by omega, R_made0 _ _ _ (Nat.le_refl _) (by unfold maxLen; omega), below_alloc (Below.refl _ _) _⟩, rfl, rfl, rfl⟩
  case round =>
    obtain ⟨kk, j, L, H, hH8, HP, rfl, rfl, rfl⟩ := hrel
    have hkl := HP.hk
    obtain ⟨hH0, hL0, hL1⟩ := HP.small HF.out
    have HL1 := Aside0.mk hL1
    clear hL1
    have hcb := (HP.hB.cell (p := ⟨w0.heap.size, 0, none⟩) hsz1).trans hbx
    by_cases hlt : kk < l0.length
    · obtain ⟨ad, rfl, hcell⟩ := Kd.at_int (Kd.C_below HR.out (below_step HB0.out HP.hB)) kk (by omega) (by omega)
      obtain ⟨n, hn⟩ : ∃ n, rd l0 kk = n := ⟨_, rfl⟩
      have hn2 : 0 ≤ n ∧ n < ((2 ^ w : Nat) : Int) := HF.out n (by rw [← hn, rd_get hlt]; exact List.getElem_mem hlt)
      have hn3 : n ≤ 4294967296 := by have : (2 : Nat) ^ w ≤ 2 ^ 32 := Nat.pow_le_pow_right (by omega) h3; omega
      have hn0 := hn2.1
      clear hn2
      have HN := Aside0.mk (HP.add HF.out h3 hlt hH8 hn)
      rw [hn] at hcell
      clear hn
      simp only [Int.toNat_natCast] at hcell
      go_wp2
      refine scope_jumps2 0 (PJ l0 w z kk (some ad) c0 w0 w1) pMu rfl ?pass ?first
      case first =>
        intro go
        go_wp2
        go_step3
        simp only [Exit.then]
        go_step
        exact go _ _ ⟨j, _, _, _, by omega, HN.out, _, _, _, _, _, _, _, _, _, _, _, _, _, _, _, _, _, _, _, _, _, _, _, _, rfl⟩
      case pass =>
        clear HN HP hL0 HL1 hH0 hH8 hcell hn0 hn3 hcb
        rintro a' w' ⟨j1, L1, H1, out, hH1, HP, y12, y31, y32, y33, y34, y35, y36, y37, y38, y39, y40, y41, y42, y43, y44, y45, y46, y47, y48, y49, y50, y51, y52, y53, rfl⟩
        obtain ⟨hH0, hL0, hL1⟩ := HP.small HF.out
        have HL1 := Aside0.mk hL1
        clear hL1
        by_cases h8 : 8 ≤ H1
        · have hj : 8 * j1 ≤ 12800 := by
            have e1 := HP.h1
            have e2 : w * (kk + 1) ≤ 32 * 400 := Nat.mul_le_mul h3 (by omega)
            omega
          go_wp2_with ((with_reducible refine gate_builtin (b := .append) (xs := #[.tmp 44, .tmp 47]) rfl ?_); at_builtin; refine Kd.R_append (Kd.int .u8) (w0 := w1) w1.heap.size rfl (.tmp 44) (.tmp 47) 23 5 (.int .u8 0) 1 rfl Try.underlying23 info5 rfl (by decide) (by omega) out (M.digits 8 j1 (M.packNum w (l0.take (kk + 1)))) (L1 % 256) [.int .u8 (L1 % 256)] (fun _ => True) (fun _ => False) rfl rfl ?aP (fun _ hk => hk.elim) ?aF ?aO ?aB ?aS ?aL ?_; (case aP => exact rfl); (case aB => exact HP.hB); (case aF => exact (fun _ _ => trivial)); (case aO => exact HP.hO); (case aS => exact below_size HP.hB); (case aL => rw [M.digits_length]; omega); intro v143 w15 ho hb hg hat; have HT := Aside0.mk (HP.spill HF.out h8 ho hb); clear ho hb hg hat)
          go_step3
          exact ⟨rfl, ⟨j1 + 1, L1 / 256, H1 - 8, v143, by omega, HT.out, _, _, _, _, _, _, _, _, _, _, _, _, _, _, _, _, _, _, _, _, _, _, _, _, rfl⟩, by unfold pMu; simp [intOf]; omega⟩
        · go_wp2
          simp only [Exit.jump, Exit.inBlock, Exit.then]
          go_step
          go_wp2
          go_roundw
          case rel => first | exact ⟨kk + 1, j1, L1, H1, by omega, HP, by go_num, rfl, rfl⟩ | ((repeat apply Exists.intro); exact ⟨⟨kk + 1, j1, L1, H1, by omega, HP, by go_num, rfl, rfl⟩, rfl⟩)
          case measure => simp [intOf]; omega
    · obtain rfl : kk = l0.length := by omega
      have hP2 := HP.hO
      rw [List.take_of_length_le (Nat.le_refl _)] at hP2
      have e1 : (w : Int) * l0.length = ((w * l0.length : Nat) : Int) := by norm_cast
      have hHv := HP.hH
      have h8j := HP.h1
      have hzv := HZ.out
      rw [Nat.mul_comm l0.length w] at hzv
      have hLv := HP.hL
      rw [List.take_of_length_le (Nat.le_refl _)] at hLv
      by_cases hp : 0 < H
      · have hz2 : (l0.length * w + 7) / 8 = j + 1 := by rw [Nat.mul_comm]; omega
        have HJ := Aside0.mk hz2
        have HO := Aside0.mk hP2
        have hlim : j < 2000 := by have := HZ.out; omega
        have hLm : L % 256 = ((M.packNum w l0 / 2 ^ (8 * j) % 2 ^ 8 : Nat) : Int) := by rw [hLv, show (2 : Nat) ^ 8 = 256 from rfl]; omega
        have HLM := Aside0.mk hLm
        clear hz2 hP2 e1 hHv h8j hzv hLv hLm
        go_wp2_with ((with_reducible refine gate_builtin (b := .append) (xs := #[.tmp 56, .tmp 59]) rfl ?_); at_builtin; refine Kd.R_append (Kd.int .u8) (w0 := w1) w1.heap.size rfl (.tmp 56) (.tmp 59) 23 5 (.int .u8 0) 1 rfl Try.underlying23 info5 rfl (by decide) (by omega) u8 (M.digits 8 j (M.packNum w l0)) (L % 256) [.int .u8 (L % 256)] (fun _ => True) (fun _ => False) rfl rfl ?aP (fun _ hk => hk.elim) ?aF ?aO ?aB ?aS ?aL ?_; (case aP => exact rfl); (case aB => exact HP.hB); (case aF => exact (fun _ _ => trivial)); (case aO => exact HO.out); (case aS => exact below_size HP.hB); (case aL => rw [M.digits_length]; omega); intro v143 w15 ho hb hg hat; have HO2 := Aside0.mk ho; have HB2 := Aside0.mk hb; clear ho hb hg hat)
        go_ret2
        refine ⟨_, rfl, ?_, below_step HB0.out HB2.out⟩
        rw [HJ.out, M.digits_snoc, ← HLM.out]
        exact Kd.R_lower HO2.out (below_size HB0.out)
      · have hz2 : (l0.length * w + 7) / 8 = j := by rw [Nat.mul_comm]; omega
        have HJ := Aside0.mk hz2
        have HO := Aside0.mk hP2
        clear hz2 hP2 e1 hHv h8j hzv hLv
        go_wp2
        go_ret2
        refine ⟨_, rfl, ?_, below_step HB0.out HP.hB⟩
        rw [HJ.out]
        exact Kd.R_lower HO.out (below_size HB0.out)
theorem fit_of (l : List Int) (a : Int) : l.any (badB a) = false ↔ M.Fit a.toNat l := by
  unfold M.Fit
  simp only [List.any_eq_false]
  constructor
  · intro h n hn
    have := h n hn
    simp only [badB, Bool.or_eq_true, decide_eq_true_eq, bne_iff_ne, ne_eq, not_or, Int.not_lt, Decidable.not_not] at this
    refine ⟨this.1, ?_⟩
    have h2 := this.2
    have hp : (0 : Int) < 2 ^ a.toNat := Int.pow_pos (by omega)
    have h3 := Int.lt_mul_ediv_self_add (x := n) hp
    rw [h2] at h3
    push_cast
    omega
  · intro h n hn
    obtain ⟨h0, h1⟩ := h n hn
    push_cast at h1
    simp only [badB, Bool.or_eq_true, decide_eq_true_eq, bne_iff_ne, ne_eq, not_or, Int.not_lt, Decidable.not_not]
    exact ⟨h0, Int.ediv_eq_zero_of_lt h0 h1⟩
end Dev
def pack_Pack.f (l0 : List Int) (a1 : Int) : Option (List Int × Bool) :=
  some (if l0.length ≤ 400 ∧ 0 ≤ a1 ∧ a1 ≤ 32 ∧ M.Fit a1.toNat l0 then (M.digits 8 ((l0.length * a1.toNat + 7) / 8) (M.packNum a1.toNat l0), true) else ([], false))
theorem pack_Pack.calls (A0 : Option Addr) (c0 : Nat) (l0 : List Int) (a1 : Int) (r1 : List Int) (r2 : Bool) (w : World) (hr0 : Kd.C (Kd.int .i64) w A0 l0.length l0) (hc0 : l0.length ≤ c0) (h : pack_Pack.f l0 a1 = some (r1, r2)) :
    Calls Try.prog 10 #[.slice A0 l0.length c0, .int .i64 a1] w fun e w' => ∃ v0_ : Value, e = .returned (.tuple #[v0_, .bool r2]) ∧ Kd.R (Kd.int .u8) 5 w' w.heap.size (fun _ => True) v0_ r1 ∧ Below w.heap.size w w' := by
  have h := Option.some.inj h
  by_cases h1 : l0.length ≤ 400 ∧ 0 ≤ a1 ∧ a1 ≤ 32
  · by_cases hf : M.Fit a1.toNat l0
    · rw [if_pos ⟨h1.1, h1.2.1, h1.2.2, hf⟩] at h
      obtain ⟨rfl, rfl⟩ := Prod.mk.inj h
      obtain ⟨m, rfl⟩ := Int.eq_ofNat_of_zero_le h1.2.1
      rw [Int.toNat_natCast] at hf ⊢
      exact Dev.pack_Pack.yes A0 c0 l0 m w hr0 h1.1 (by omega) hf ((Dev.fit_of l0 m).2 (by rw [Int.toNat_natCast]; exact hf))
    · rw [if_neg (fun x => hf x.2.2.2)] at h
      obtain ⟨rfl, rfl⟩ := Prod.mk.inj h
      refine Dev.pack_Pack.no2 A0 c0 l0 a1 w hr0 h1.1 h1.2.1 h1.2.2 ?_
      cases ha : l0.any (Dev.badB a1) with
      | true => rfl
      | false => exact absurd ((Dev.fit_of l0 a1).1 ha) hf
  · rw [if_neg (fun x => h1 ⟨x.1, x.2.1, x.2.2.1⟩)] at h
    obtain ⟨rfl, rfl⟩ := Prod.mk.inj h
    exact Dev.pack_Pack.no1 A0 c0 l0 a1 (by unfold Dev.sizeOf; rw [if_neg (by omega)]) w

/-! ### pack_Unpack: function 12 (given) -/
namespace Dev
def Tail (r1 : List Int) (r2 : Bool) (w : World) (e : Ending) (w' : World) : Prop := ∃ v0_ : Value, e = .returned (.tuple #[v0_, .bool r2]) ∧ Kd.R (Kd.int .i64) 3 w' w.heap.size (fun _ => True) v0_ r1 ∧ Below w.heap.size w w'
def UPost (l0 : List Int) (n w : Nat) (w0 : World) (e : Ending) (w' : World) : Prop := Tail (if M.packNum 8 l0 < 2 ^ (w * n) then M.digits w n (M.packNum 8 l0) else []) (decide (M.packNum 8 l0 < 2 ^ (w * n))) w0 e w'
/-- What is told behind j bytes and kk numbers: what is left of the bytes (ld), the bits that wait (L), how many they are (H). -/
structure UF (l0 : List Int) (w kk : Nat) (W0 : World) (out : Value) (j : Nat) (ld : List Int) (m : Nat) (L H : Int) (A : Option Addr) (c : Nat) (wr : World) : Prop where
  hm : m = ld.length
  hj : j ≤ l0.length
  h1 : w * kk ≤ 8 * j
  hld : ld = l0.drop j
  hL : L = ((M.packNum 8 (l0.take j) / 2 ^ (w * kk) : Nat) : Int)
  hH : H = 8 * (j : Int) - w * kk
  hc : ld.length ≤ c
  hC : Kd.C (Kd.int .u8) W0 A ld.length ld
  hO : Kd.R (Kd.int .i64) 3 wr W0.heap.size (fun _ => True) out (M.digits w kk (M.packNum 8 l0))
  hB : Below W0.heap.size W0 wr
def URel (l0 : List Int) (n w : Nat) (W0 : World) (b out left hv i : Value) (wr : World) : Prop :=
  ∃ (kk j : Nat) (ld : List Int) (m : Nat) (L H : Int) (A : Option Addr) (c : Nat), kk ≤ n ∧ H < 8 ∧ UF l0 w kk W0 out j ld m L H A c wr ∧ i = .int .i64 kk ∧ hv = .int .i64 H ∧ left = .int .u64 L ∧ b = .slice A m c
def uMu (w : Nat) (a : Act) (_ : World) : Nat := w + 8 - (intOf (a.tmps.getD 10 undef)).toNat
theorem UF.fill {l0 : List Int} {w kk j : Nat} {W0 : World} {out : Value} {ld : List Int} {m : Nat} {L H : Int} {A A2 : Option Addr} {c c2 : Nat} {wr : World} {b : Int} (hf : M.Fit 8 l0) (h : UF l0 w kk W0 out j ld m L H A c wr) (hH : H < w) (hw : w ≤ 32) (hj : j < l0.length)
    (hb : rd ld 0 = b) (hc2 : (ld.drop 1).length ≤ c2) (hC2 : Kd.C (Kd.int .u8) W0 A2 (ld.drop 1).length (ld.drop 1)) :
    UF l0 w kk W0 out (j + 1) (ld.drop 1) (m - 1) (bits .or .u64 L (IntKind.u64.wrap (b * 2 ^ H.toNat))) (H + 8) A2 c2 wr := by
  obtain ⟨q, hq⟩ : ∃ q, q = w * kk := ⟨_, rfl⟩
  obtain ⟨hn, hhn⟩ : ∃ hn : Nat, 8 * j = hn + q := ⟨8 * j - w * kk, by have := h.h1; omega⟩
  have e1 : (w : Int) * kk = (q : Int) := by rw [hq]; norm_cast
  have hHn : H = hn := by have := h.hH; omega
  have hbv : b = l0.getD j 0 := by rw [← hb, h.hld]; simp [rd, List.getD_eq_getElem?_getD]
  have hb2 : 0 ≤ b ∧ b < 256 := by
    have := hf b (by rw [hbv, List.getD_eq_getElem?_getD, List.getElem?_eq_getElem hj]; exact List.getElem_mem hj)
    exact ⟨this.1, by have := this.2; omega⟩
  have hP := M.take_lt hf j (by omega)
  rw [hhn] at hP
  have hlt := M.fill_lt hP
  have hL := h.hL
  rw [← hq] at hL
  have hd := M.fill_div (M.packNum 8 (l0.take j)) b.toNat hn q
  rw [← hhn] at hd
  have hb3 : b * 2 ^ H.toNat = ((b.toNat * 2 ^ hn : Nat) : Int) := by
    rw [hHn, Int.toNat_natCast, Int.natCast_mul]
    have : (b.toNat : Int) = b := by omega
    rw [this]; norm_cast
  have hp : (2 : Nat) ^ hn ≤ 2 ^ 32 := Nat.pow_le_pow_right (by omega) (by omega)
  have hm : b.toNat * 2 ^ hn ≤ 256 * 2 ^ 32 := Nat.mul_le_mul (by omega) hp
  refine ⟨by rw [h.hm, List.length_drop], hj, by have := h.h1; omega, ?_, ?_, ?_, hc2, hC2, h.hO, h.hB⟩
  · rw [h.hld, List.drop_drop]
  · rw [hb3, or_join hn b.toNat (by rw [hL]; exact Int.natCast_nonneg _) (by rw [hL]; exact_mod_cast hlt) rfl (by rw [hL]; omega), M.take_step l0 j hj, ← hbv, ← hq, hd, hL]
    norm_cast
  · have := h.hH; omega
theorem UF.lt {l0 : List Int} {n w kk j : Nat} {W0 : World} {out : Value} {ld : List Int} {m : Nat} {L H : Int} {A : Option Addr} {c : Nat} {wr : World} (h : UF l0 w kk W0 out j ld m L H A c wr) (hs : (n * w + 7) / 8 = l0.length) (hk : kk < n) (hH : H < w) : j < l0.length := by
  have h1 := h.hH
  have h2 : w * (kk + 1) ≤ w * n := Nat.mul_le_mul_left w hk
  rw [Nat.mul_succ] at h2
  have e1 : (w : Int) * kk = ((w * kk : Nat) : Int) := by norm_cast
  rw [Nat.mul_comm n w] at hs
  omega
theorem UF.small {l0 : List Int} {w kk j : Nat} {W0 : World} {out : Value} {ld : List Int} {m : Nat} {L H : Int} {A : Option Addr} {c : Nat} {wr : World} (hf : M.Fit 8 l0) (h : UF l0 w kk W0 out j ld m L H A c wr) (hH : H < 64) : 0 ≤ L ∧ L < 18446744073709551616 := by
  obtain ⟨q, hq⟩ : ∃ q, q = w * kk := ⟨_, rfl⟩
  obtain ⟨hn, hhn⟩ : ∃ hn : Nat, 8 * j = hn + q := ⟨8 * j - w * kk, by have := h.h1; omega⟩
  have e1 : (w : Int) * kk = (q : Int) := by rw [hq]; norm_cast
  have hHn : H = hn := by have := h.hH; omega
  have hP := M.take_lt hf j h.hj
  rw [hhn] at hP
  have hlt := M.fill_lt hP
  have hL := h.hL
  rw [← hq] at hL
  have hp : (2 : Nat) ^ hn ≤ 2 ^ 63 := Nat.pow_le_pow_right (by omega) (by omega)
  exact ⟨by rw [hL]; exact Int.natCast_nonneg _, by rw [hL]; omega⟩
theorem UF.take {l0 : List Int} {w kk j : Nat} {W0 : World} {out v : Value} {ld : List Int} {m : Nat} {L H : Int} {A : Option Addr} {c : Nat} {wr w1 : World} (hf : M.Fit 8 l0) (h : UF l0 w kk W0 out j ld m L H A c wr) (hH : ¬ H < w) (hw : w ≤ 32) (hH2 : H < w + 8)
    (ho : Kd.R (Kd.int .i64) 3 w1 W0.heap.size (fun _ => True) v (M.digits w kk (M.packNum 8 l0) ++ [wrap64 (bits .and .u64 L (IntKind.u64.wrap (IntKind.u64.wrap (2 ^ w) - 1)))])) (hb : Below W0.heap.size W0 w1) :
    UF l0 w (kk + 1) W0 v j ld m (L / 2 ^ w) (H - w) A c w1 := by
  have e1 : (w : Int) * kk = ((w * kk : Nat) : Int) := by norm_cast
  have hj2 : w * (kk + 1) ≤ 8 * j := by rw [Nat.mul_succ]; have := h.hH; omega
  obtain ⟨hl0, hl1⟩ := h.small hf (by omega)
  refine ⟨h.hm, h.hj, hj2, h.hld, ?_, ?_, h.hc, h.hC, ?_, hb⟩
  · rw [h.hL, Nat.mul_succ, Nat.pow_add, ← Nat.div_div_eq_div_mul]; norm_cast
  · rw [h.hH]; push_cast; rw [Int.mul_add]; omega
  · have e2 : wrap64 (bits .and .u64 L (IntKind.u64.wrap (IntKind.u64.wrap (2 ^ w) - 1))) = ((M.packNum 8 (l0.take j) / 2 ^ (w * kk) % 2 ^ w : Nat) : Int) := (and_mask w hw hl0 hl1).trans (by rw [h.hL, Int.toNat_natCast])
    rw [M.digits_snoc, M.next_num l0 w kk j hj2 h.hj, ← e2]
    exact ho
def UJ (l0 : List Int) (n w kk : Nat) (A0 : Option Addr) (c0 : Nat) (W0 : World) (u8 : Value) (a : Act) (wr : World) : Prop :=
  ∃ (j : Nat) (ld : List Int) (m : Nat) (L H : Int) (A : Option Addr) (c : Nat), H < w + 8 ∧ UF l0 w kk W0 u8 j ld m L H A c wr ∧ ∃ (x20 x21 x22 x23 x24 x25 x26 x27 x28 x29 x30 x31 x32 x33 x34 x35 x36 x37 x38 x39 x40 x41 x42 x43 x44 x45 x46 x47 x48 x49 x50 : Value), a = { tmps := #[.slice A m c, .int .i64 n, .int .i64 w, undef, undef, undef, .slice none 0 0, .bool false, u8, .int .u64 L, .int .i64 H, .int .i64 n, .int .i64 w, .int .i64 l0.length, .slice A0 l0.length c0, .int .i64 l0.length, .bool false, .int .i64 n, .int .i64 kk, .bool true, x20, x21, x22, x23, x24, x25, x26, x27, x28, x29, x30, x31, x32, x33, x34, x35, x36, x37, x38, x39, x40, x41, x42, x43, x44, x45, x46, x47, x48, x49, x50, undef, undef, undef], defers := [] }
set_option maxHeartbeats 1000000 in
set_option maxRecDepth 100000 in
theorem pack_Unpack.yes (A0 : Option Addr) (c0 : Nat) (l0 : List Int) (n w : Nat) (hn : n ≤ 400) (hw : w ≤ 32) (hs : (n * w + 7) / 8 = l0.length) (hf : M.Fit 8 l0) (w0 : World) (hr0 : Kd.C (Kd.int .u8) w0 A0 l0.length l0) (hc0 : l0.length ≤ c0) :
    Calls Try.prog 12 #[.slice A0 l0.length c0, .int .i64 n, .int .i64 w] w0 (UPost l0 n w w0) := by
  have HR0 := Aside0.mk hr0
  clear hr0
  have hsz : pack_Size.f n w = some (l0.length : Int) := by rw [size_eq, sizeOf, if_pos (by omega)]; congr 1; omega
  have HS := Aside0.mk hsz
  have HL := Aside0.mk hs
  have HF := Aside0.mk hf
  clear hsz hs hf
  go_enter Try.func12, Try.ntmps12
  have hne : ((l0.length : Int) != (l0.length : Int)) = false := by simp
  go_wp2_with (go_at_call 17; (with_reducible refine (pack_Size.calls n w l0.length _ HS.out).mono ?_); rintro e w' ⟨rfl, ⟨nd, rfl⟩⟩)
  go_loopw [0, 8, 9, 10, 18] (fun b out left hv i wr => URel l0 n w w0 b out left hv i wr) (fun _ _ _ _ i _ => n - (intOf i).toNat)
  case atStart => exact ⟨0, 0, l0, l0.length, 0, 0, A0, c0, Nat.zero_le _, by omega, ⟨rfl, Nat.zero_le _, by omega, rfl, by simp [M.packNum], by simp, hc0, HR0.out, Kd.R_nil _ _ _ _ _, pw_below_drewN (Below.refl _ _) _⟩, rfl, rfl, rfl, rfl⟩
  case round =>
    obtain ⟨kk, j, ld, m, L, H, A, c, hkk, hH8, HU, rfl, rfl, rfl, rfl⟩ := hrel
    by_cases hlt : kk < n
    · go_wp2
      refine scope_jumps2 0 (UJ l0 n w kk A0 c0 w0 u8) (uMu w) rfl ?pass ?first
      case first =>
        intro go
        go_wp2
        go_step3
        simp only [Exit.then]
        go_step
        exact go _ _ ⟨j, ld, m, L, H, A, c, by omega, HU, _, _, _, _, _, _, _, _, _, _, _, _, _, _, _, _, _, _, _, _, _, _, _, _, _, _, _, _, _, _, _, rfl⟩
      case pass =>
        clear HU hH8
        rintro a' w' ⟨j1, ld1, m1, L1, H1, A1, c1, hH1, HU, x20, x21, x22, x23, x24, x25, x26, x27, x28, x29, x30, x31, x32, x33, x34, x35, x36, x37, x38, x39, x40, x41, x42, x43, x44, x45, x46, x47, x48, x49, x50, rfl⟩
        have hL0 : 0 ≤ L1 := by rw [HU.hL]; exact Int.natCast_nonneg _
        have hH0 : 0 ≤ H1 := by have := HU.h1; have := HU.hH; have : ((w * kk : Nat) : Int) = w * kk := Int.natCast_mul _ _; omega
        by_cases hfill : H1 < w
        · obtain rfl := HU.hm
          have hjl := HU.lt HL.out hlt hfill
          have hlen : ld1.length = l0.length - j1 := by rw [HU.hld, List.length_drop]
          have hdl : 0 < ld1.length := by omega
          have hcc := HU.hc
          obtain ⟨A2, hcut, hrd, hc2⟩ := print_drop_of (P := Try.prog) (Value.int .u8) (0 : Int) 23 5 .i64 Try.underlying23 rfl rfl A1 c1 ld1 1 (by omega) (by omega) hcc
          obtain ⟨ad, rfl, hcell⟩ := Kd.at_int (Kd.C_below HU.hC HU.hB) 0 (by omega) (by omega)
          obtain ⟨b, hb⟩ : ∃ b, rd ld1 0 = b := ⟨_, rfl⟩
          rw [hb] at hcell
          have HN := Aside0.mk (HU.fill HF.out hfill hw hjl hb hc2 (Kd.C_of_reads (d := (0 : Int)) (h1 := fun _ => rfl) (hrd _ (Kd.reads_of_C (enc := Value.int .u8) (d := (0 : Int)) (h1 := fun _ => rfl) HU.hC))))
          have hb2 : 0 ≤ b ∧ b < 256 := by
            have := HF.out b (by rw [← hb, HU.hld]; simp [rd, List.getD_eq_getElem?_getD, List.getElem?_eq_getElem hjl])
            exact ⟨this.1, by have := this.2; omega⟩
          obtain ⟨hb0, hb1⟩ := hb2
          clear hb
          rw [show ad.add (Int.toNat 0) = ad by simp [Addr.add]] at hcell
          have HE := Aside0.mk hlen
          clear hlen
          go_wp2
          go_step3
          exact ⟨rfl, ⟨j1 + 1, ld1.drop 1, ld1.length - 1, _, _, A2, c1 - 1, by omega, HN.out, _, _, _, _, _, _, _, _, _, _, _, _, _, _, _, _, _, _, _, _, _, _, _, _, _, _, _, _, _, _, _, rfl⟩, by unfold uMu; simp [intOf]; omega⟩
        · obtain ⟨hl0, hl1⟩ := HU.small HF.out (by omega)
          have hwI : (w : Int) ≤ 32 := by omega
          go_wp2_with ((with_reducible refine gate_builtin (b := .append) (xs := #[.tmp 35, .tmp 42]) rfl ?_); at_builtin; refine Kd.R_append (Kd.int .i64) (w0 := w0) w0.heap.size rfl (.tmp 35) (.tmp 42) 22 3 (.int .i64 0) 8 rfl Try.underlying22 info3 rfl (by decide) (by omega) u8 (M.digits w kk (M.packNum 8 l0)) (wrap64 (bits .and .u64 L1 (IntKind.u64.wrap (IntKind.u64.wrap (2 ^ w) - 1)))) [.int .i64 (wrap64 (bits .and .u64 L1 (IntKind.u64.wrap (IntKind.u64.wrap (2 ^ w) - 1))))] (fun _ => True) (fun _ => False) rfl rfl ?aP (fun _ hk => hk.elim) ?aF ?aO ?aB ?aS ?aL ?_; (case aP => exact rfl); (case aB => exact HU.hB); (case aF => exact (fun _ _ => trivial)); (case aO => exact HU.hO); (case aS => exact below_size HU.hB); (case aL => rw [M.digits_length]; omega); intro v143 w15 ho hb hg hat; have HT := Aside0.mk (HU.take HF.out hfill hw hH1 ho hb); clear ho hb hg hat)
          simp only [Exit.jump, Exit.inBlock, Exit.then]
          go_step
          go_wp2
          go_roundw
          case rel => exact ⟨kk + 1, j1, ld1, m1, _, _, A1, c1, by omega, by omega, HT.out, by go_num, rfl, rfl, rfl⟩
          case measure => simp [intOf]; omega
    · obtain rfl : kk = n := by omega
      have hlen : l0.length ≤ j := by
        have h1 := HU.h1
        have h2 := HU.hH
        have h3 := HL.out
        have e1 : (w : Int) * kk = ((w * kk : Nat) : Int) := by norm_cast
        rw [Nat.mul_comm kk w] at h3
        omega
      have hLv : L = ((M.packNum 8 l0 / 2 ^ (w * kk) : Nat) : Int) := by rw [HU.hL, M.whole_num l0 j hlen]
      by_cases hz : M.packNum 8 l0 < 2 ^ (w * kk)
      · have hL0 : L = 0 := by rw [hLv, Nat.div_eq_of_lt hz]; rfl
        have HZ := Aside0.mk hz
        clear hz hLv
        subst hL0
        go_wp2
        go_ret2
        exact ⟨_, by rw [decide_eq_true HZ.out]; rfl, by rw [if_pos HZ.out]; exact HU.hO, HU.hB⟩
      · have hL0 : (L != 0) = true := by
          have : 0 < M.packNum 8 l0 / 2 ^ (w * kk) := Nat.div_pos (by omega) (Nat.two_pow_pos _)
          rw [bne_iff_ne, hLv]; omega
        have HZ := Aside0.mk hz
        clear hz hLv
        go_wp2
        go_ret2
        exact ⟨_, by rw [decide_eq_false HZ.out]; rfl, by rw [if_neg HZ.out]; exact Kd.R_nil _ _ _ _ _, HU.hB⟩
set_option maxHeartbeats 1000000 in
set_option maxRecDepth 100000 in
theorem pack_Unpack.no (A0 : Option Addr) (c0 : Nat) (l0 : List Int) (a1 a2 : Int) (hs : sizeOf a1 a2 ≠ l0.length) (w0 : World) :
    Calls Try.prog 12 #[.slice A0 l0.length c0, .int .i64 a1, .int .i64 a2] w0 (Tail [] false w0) := by
  have hsz := size_eq a1 a2
  obtain ⟨z, hz⟩ : ∃ z, z = sizeOf a1 a2 := ⟨_, rfl⟩
  rw [← hz] at hsz hs
  have HS := Aside0.mk hsz
  have hne : (z != (l0.length : Int)) = true := bne_iff_ne.2 hs
  clear hsz hs hz
  go_enter Try.func12, Try.ntmps12
  go_wp2_with (go_at_call 17; (with_reducible refine (pack_Size.calls a1 a2 z _ HS.out).mono ?_); rintro e w' ⟨rfl, ⟨nd, rfl⟩⟩)
  go_ret2
  exact ⟨_, rfl, Kd.R_nil _ _ _ _ _, pw_below_drewN (Below.refl _ _) _⟩
end Dev
def pack_Unpack.f (l0 : List Int) (a1 : Int) (a2 : Int) : Option (List Int × Bool) :=
  if M.Fit 8 l0 then some (if Dev.sizeOf a1 a2 = l0.length ∧ M.packNum 8 l0 < 2 ^ (a2.toNat * a1.toNat) then (M.digits a2.toNat a1.toNat (M.packNum 8 l0), true) else ([], false)) else none
theorem pack_Unpack.calls (A0 : Option Addr) (c0 : Nat) (l0 : List Int) (a1 : Int) (a2 : Int) (r1 : List Int) (r2 : Bool) (w : World) (hr0 : Kd.C (Kd.int .u8) w A0 l0.length l0) (hc0 : l0.length ≤ c0) (h : pack_Unpack.f l0 a1 a2 = some (r1, r2)) :
    Calls Try.prog 12 #[.slice A0 l0.length c0, .int .i64 a1, .int .i64 a2] w fun e w' => ∃ v0_ : Value, e = .returned (.tuple #[v0_, .bool r2]) ∧ Kd.R (Kd.int .i64) 3 w' w.heap.size (fun _ => True) v0_ r1 ∧ Below w.heap.size w w' := by
  unfold pack_Unpack.f at h
  by_cases hf : M.Fit 8 l0
  · rw [if_pos hf] at h
    have h := Option.some.inj h
    by_cases hs : Dev.sizeOf a1 a2 = l0.length
    · have hok : 0 ≤ a1 ∧ a1 ≤ 400 ∧ 0 ≤ a2 ∧ a2 ≤ 32 := by
        unfold Dev.sizeOf at hs; split at hs
        · assumption
        · omega
      have hs2 : (a1 * a2 + 7) / 8 = l0.length := by unfold Dev.sizeOf at hs; rw [if_pos hok] at hs; exact hs
      obtain ⟨n, rfl⟩ := Int.eq_ofNat_of_zero_le hok.1
      obtain ⟨m, rfl⟩ := Int.eq_ofNat_of_zero_le hok.2.2.1
      refine (Dev.pack_Unpack.yes A0 c0 l0 n m (by omega) (by omega) (by exact_mod_cast hs2) hf w hr0 hc0).mono fun e w' hT => ?_
      unfold Dev.UPost at hT
      by_cases hN : M.packNum 8 l0 < 2 ^ (m * n)
      · rw [if_pos ⟨hs, hN⟩] at h
        rw [if_pos hN, decide_eq_true hN] at hT
        obtain ⟨rfl, rfl⟩ := Prod.mk.inj h
        exact hT
      · rw [if_neg (fun x => hN x.2)] at h
        rw [if_neg hN, decide_eq_false hN] at hT
        obtain ⟨rfl, rfl⟩ := Prod.mk.inj h
        exact hT
    · rw [if_neg (fun x => hs x.1)] at h
      obtain ⟨rfl, rfl⟩ := Prod.mk.inj h
      exact Dev.pack_Unpack.no A0 c0 l0 a1 a2 hs w
  · rw [if_neg hf] at h
    cases h

end Go.Proofs.Ytikmbpkakpbjlaa.P
