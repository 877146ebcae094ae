-- Laid by this session's own program (wip/myprint.py): Lean functions for the Go functions that a law reaches, and their contracts. Not trusted: Lean checks it. (slimmed by wip/slim08.py)
import Derived.Test.YtfkdflhijfkjoaaP0
import Derived.Test.YtfkdflhijfkjoaaP2
import Derived.Test.YtfkdflhijfkjoaaP3
namespace Go.Proofs.Ytfkdflhijfkjoaa.P
open Go.RowKit Go.Proofs.YtfkdflhijfkjoaaW.PrintWords Go.Proofs.YtfkdflhijfkjoaaW.PrintLast Go.Proofs.YtfkdflhijfkjoaaW.PrintMore
attribute [local go_sem] max2_int min2_int max_two min_two max_three min_three max_four min_four   -- for this text's walks alone
set_option linter.unusedVariables false
set_option linter.unusedSimpArgs false

/-! ### detmap_Fit: function 16 (given) -/
namespace Dev
theorem bcell {W w1 : World} (hb : Below W.heap.size W w1) : (∀ b o, b < W.heap.size → w1.cell? ⟨b, o, none⟩ = W.cell? ⟨b, o, none⟩) ∧ (∀ b o, b < W.heap.size → w1.frozen? ⟨b, o, none⟩ = W.frozen? ⟨b, o, none⟩) :=
  ⟨fun b o h => hb.cell (p := ⟨b, o, none⟩) h, fun b o h => hb.frozen (p := ⟨b, o, none⟩) h⟩
def inB (n a b : Int) : Bool := decide (a ≤ n) && decide (n ≤ b)
theorem in_calls (n a b : Int) (w : World) : Calls Try.prog 30 #[.int .i64 n, .int .i64 a, .int .i64 b] w fun e w' => e = .returned (.bool (inB n a b)) ∧ Below w.heap.size w w' := by
  by_cases h1 : a ≤ n
  · have e : inB n a b = decide (n ≤ b) := by simp [inB, h1]
    rw [e]
    have d1 : decide (a ≤ n) = true := by simpa using h1
    go_enter Try.func30, Try.ntmps30
    go_wp2
    go_ret
    exact ⟨rfl, by repeat (first | exact Below.refl _ _ | apply Ya | apply Yb)⟩
  · have e : inB n a b = false := by simp [inB, h1]
    rw [e]
    have d1 : decide (a ≤ n) = false := by simpa using h1
    go_enter Try.func30, Try.ntmps30
    go_wp2
    go_ret
    exact ⟨rfl, by repeat (first | exact Below.refl _ _ | apply Ya | apply Yb)⟩
/-- What the closures of Fit lean on: the mapping's cells in block b0, the function in block b1. -/
structure FW (a0 a1 a2 a3 a4 a5 a6 a7 : Int) (b0 b1 : Nat) (W : World) : Prop where
  l0 : b0 < W.heap.size
  l1 : b1 < W.heap.size
  c0 : W.cell? ⟨b0, 0, none⟩ = some (.int .i64 a0)
  c1 : W.cell? ⟨b0, 1, none⟩ = some (.int .i64 a1)
  c2 : W.cell? ⟨b0, 2, none⟩ = some (.int .i64 a2)
  c3 : W.cell? ⟨b0, 3, none⟩ = some (.int .i64 a3)
  c4 : W.cell? ⟨b0, 4, none⟩ = some (.int .i64 a4)
  c5 : W.cell? ⟨b0, 5, none⟩ = some (.int .i64 a5)
  c6 : W.cell? ⟨b0, 6, none⟩ = some (.int .i64 a6)
  c7 : W.cell? ⟨b0, 7, none⟩ = some (.int .i64 a7)
  f : W.cell? ⟨b1, 0, none⟩ = some (.func (.func 30) #[] #[])
variable {a0 a1 a2 a3 a4 a5 a6 a7 : Int} {b0 b1 : Nat} {W : World}
theorem FW.keep0 {w' : World} (h : FW a0 a1 a2 a3 a4 a5 a6 a7 b0 b1 W) (hk : Below W.heap.size W w') : w'.cell? ⟨b0, 0, none⟩ = some (.int .i64 a0) ∧ w'.cell? ⟨b0, 1, none⟩ = some (.int .i64 a1) ∧ w'.cell? ⟨b0, 2, none⟩ = some (.int .i64 a2) ∧ w'.cell? ⟨b0, 3, none⟩ = some (.int .i64 a3) ∧ w'.cell? ⟨b0, 4, none⟩ = some (.int .i64 a4) ∧ w'.cell? ⟨b0, 5, none⟩ = some (.int .i64 a5) ∧ w'.cell? ⟨b0, 6, none⟩ = some (.int .i64 a6) ∧ w'.cell? ⟨b0, 7, none⟩ = some (.int .i64 a7) ∧ Aside0 (Below W.heap.size W w') :=
  ⟨(hk.cell (p := ⟨b0, 0, none⟩) h.l0).trans h.c0, (hk.cell (p := ⟨b0, 1, none⟩) h.l0).trans h.c1, (hk.cell (p := ⟨b0, 2, none⟩) h.l0).trans h.c2, (hk.cell (p := ⟨b0, 3, none⟩) h.l0).trans h.c3,
   (hk.cell (p := ⟨b0, 4, none⟩) h.l0).trans h.c4, (hk.cell (p := ⟨b0, 5, none⟩) h.l0).trans h.c5, (hk.cell (p := ⟨b0, 6, none⟩) h.l0).trans h.c6, (hk.cell (p := ⟨b0, 7, none⟩) h.l0).trans h.c7, ⟨hk⟩⟩
theorem FW.keep1 {w' : World} (h : FW a0 a1 a2 a3 a4 a5 a6 a7 b0 b1 W) (hk : Below W.heap.size W w') : w'.cell? ⟨b0, 0, none⟩ = some (.int .i64 a0) ∧ w'.cell? ⟨b0, 1, none⟩ = some (.int .i64 a1) ∧ w'.cell? ⟨b0, 2, none⟩ = some (.int .i64 a2) ∧ w'.cell? ⟨b0, 3, none⟩ = some (.int .i64 a3) ∧ w'.cell? ⟨b0, 4, none⟩ = some (.int .i64 a4) ∧ w'.cell? ⟨b0, 5, none⟩ = some (.int .i64 a5) ∧ w'.cell? ⟨b0, 6, none⟩ = some (.int .i64 a6) ∧ w'.cell? ⟨b0, 7, none⟩ = some (.int .i64 a7) ∧ w'.cell? ⟨b1, 0, none⟩ = some (.func (.func 30) #[] #[]) ∧ Aside0 (Below W.heap.size W w') :=
  let ⟨x0, x1, x2, x3, x4, x5, x6, x7, z⟩ := h.keep0 hk
  ⟨x0, x1, x2, x3, x4, x5, x6, x7, (hk.cell (p := ⟨b1, 0, none⟩) h.l1).trans h.f, z⟩
set_option maxHeartbeats 1000000 in
theorem c36 (h : FW a0 a1 a2 a3 a4 a5 a6 a7 b0 b1 W) (s r : Int) (hs : detmap_shared.f a0 a1 a2 a3 a4 a5 a6 a7 = some s) (hr : detmap_Ratio.f a0 a1 a2 a3 a4 a5 a6 a7 = some r) :
    Calls Try.prog 36 #[.pointer (some ⟨b0, 0, none⟩)] W fun e w' => e = .returned (.bool (decide (r ≤ s))) ∧ Below W.heap.size W w' := by
  have H0 := Ym h
  obtain ⟨l0, l1, c0, c1, c2, c3, c4, c5, c6, c7, f⟩ := h
  have HS := Ym hs
  have HR := Ym hr
  clear hs hr
  go_enter Try.func36, Try.ntmps36
  go_wp2
  go_region_held3 (fun w' => w'.cell? ⟨b0, 0, none⟩ = some (.int .i64 a0) ∧ w'.cell? ⟨b0, 1, none⟩ = some (.int .i64 a1) ∧ w'.cell? ⟨b0, 2, none⟩ = some (.int .i64 a2) ∧ w'.cell? ⟨b0, 3, none⟩ = some (.int .i64 a3) ∧ w'.cell? ⟨b0, 4, none⟩ = some (.int .i64 a4) ∧ w'.cell? ⟨b0, 5, none⟩ = some (.int .i64 a5) ∧ w'.cell? ⟨b0, 6, none⟩ = some (.int .i64 a6) ∧ w'.cell? ⟨b0, 7, none⟩ = some (.int .i64 a7) ∧ Aside0 (Below W.heap.size W w')) ((refine FW.keep0 H0.out ?_; first | exact Yb (Below.refl _ _) | exact Yj (Yb (Below.refl _ _)) hb | exact Yj (Yj (Yb (Below.refl _ _)) (by assumption)) hb)) (first | (go_at_call 37; refine (detmap_shared.calls _ _ _ _ _ _ _ _ s _ HS.out).mono ?_; rintro e w1 ⟨rfl, hb⟩) | (go_at_call 19; refine (detmap_Ratio.calls _ _ _ _ _ _ _ _ r _ HR.out).mono ?_; rintro e w2 ⟨rfl, hb⟩))
  all_goals (try go_wp2)
  all_goals (go_ret; exact ⟨rfl, by first | exact Yj (Yj (Yb (Below.refl _ _)) (by assumption)) hb⟩)
set_option maxHeartbeats 1000000 in
theorem c32 (h : FW a0 a1 a2 a3 a4 a5 a6 a7 b0 b1 W) (k : Nat) (m : Bool) (hm : addr_Meet.f k a0 a1 a2 a3 = some m) :
    Calls Try.prog 32 #[.pointer (some ⟨b0, 0, none⟩)] W fun e w' => e = .returned (.bool (!m)) ∧ Below W.heap.size W w' := by
  have H0 := Ym h
  obtain ⟨l0, l1, c0, c1, c2, c3, c4, c5, c6, c7, f⟩ := h
  have HM := Ym hm
  clear hm
  go_enter Try.func32, Try.ntmps32
  go_wp2_with (go_at_call 33; refine (addr_Meet.calls k _ _ _ _ m _ HM.out).mono ?_; rintro e w1 ⟨rfl, hb⟩)
  go_ret
  exact ⟨rfl, by first | exact hb | exact Yj (Yb (Below.refl _ _)) hb⟩
set_option maxHeartbeats 1000000 in
theorem c34 (h : FW a0 a1 a2 a3 a4 a5 a6 a7 b0 b1 W) :
    Calls Try.prog 34 #[.pointer (some ⟨b1, 0, none⟩), .pointer (some ⟨b0, 0, none⟩)] W fun e w' => e = .returned (.bool (inB a4 1 a5 && decide (a5 ≤ 65535))) ∧ Below W.heap.size W w' := by
  have H0 := Ym h
  obtain ⟨l0, l1, c0, c1, c2, c3, c4, c5, c6, c7, f⟩ := h
  have HI := Ym (fun w => in_calls a4 1 a5 w)
  cases hi : inB a4 1 a5 with
  | true =>
    rw [hi] at HI
    clear hi
    go_enter Try.func34, Try.ntmps34
    go_wp2_with (go_at_call 30; refine (HI.out _).mono ?_; rintro e w1 ⟨rfl, hb⟩; obtain ⟨hcA, hfA⟩ := bcell hb)
    go_ret
    exact ⟨by simp, hb⟩
  | false =>
    rw [hi] at HI
    clear hi
    go_enter Try.func34, Try.ntmps34
    go_wp2_with (go_at_call 30; refine (HI.out _).mono ?_; rintro e w1 ⟨rfl, hb⟩; obtain ⟨hcA, hfA⟩ := bcell hb)
    go_ret
    exact ⟨by simp, hb⟩
set_option maxHeartbeats 4000000 in
theorem c31 (h : FW a0 a1 a2 a3 a4 a5 a6 a7 b0 b1 W) (s0 s1 : Int) (hs : addr_Size.f a0 a1 = some s0) (ht : addr_Size.f a2 a3 = some s1) :
    Calls Try.prog 31 #[.pointer (some ⟨b1, 0, none⟩), .pointer (some ⟨b0, 0, none⟩)] W fun e w' => e = .returned (.bool (inB s0 1 32 && inB s1 1 4)) ∧ Below W.heap.size W w' := by
  have H0 := Ym h
  obtain ⟨l0, l1, c0, c1, c2, c3, c4, c5, c6, c7, f⟩ := h
  have HS := Ym hs
  have HT := Ym ht
  clear hs ht
  have HI := Ym (fun w => in_calls s0 1 32 w)
  have HJ := Ym (fun w => in_calls s1 1 4 w)
  cases hi : inB s0 1 32 with
  | true =>
    rw [hi] at HI
    clear hi
    go_enter Try.func31, Try.ntmps31
    go_wp2
    go_region_held3 (fun w' => w'.cell? ⟨b0, 0, none⟩ = some (.int .i64 a0) ∧ w'.cell? ⟨b0, 1, none⟩ = some (.int .i64 a1) ∧ w'.cell? ⟨b0, 2, none⟩ = some (.int .i64 a2) ∧ w'.cell? ⟨b0, 3, none⟩ = some (.int .i64 a3) ∧ w'.cell? ⟨b0, 4, none⟩ = some (.int .i64 a4) ∧ w'.cell? ⟨b0, 5, none⟩ = some (.int .i64 a5) ∧ w'.cell? ⟨b0, 6, none⟩ = some (.int .i64 a6) ∧ w'.cell? ⟨b0, 7, none⟩ = some (.int .i64 a7) ∧ w'.cell? ⟨b1, 0, none⟩ = some (.func (.func 30) #[] #[]) ∧ Aside0 (Below W.heap.size W w')) ((refine FW.keep1 H0.out ?_; first | exact Yb (Below.refl _ _) | exact Yj (Yb (Below.refl _ _)) hb | exact Yj (Yj (Yb (Below.refl _ _)) (by assumption)) hb | exact Yj (Yj (Yj (Yb (Below.refl _ _)) (by assumption)) (by assumption)) hb | exact Yj (Yj (Yj (Yj (Yb (Below.refl _ _)) (by assumption)) (by assumption)) (by assumption)) hb)) (first | (go_at_call_of 27 (a0); refine (addr_Size.calls _ _ s0 _ HS.out).mono ?_; rintro e w1 ⟨rfl, hb⟩) | (go_at_call_of 27 (a2); refine (addr_Size.calls _ _ s1 _ HT.out).mono ?_; rintro e w1 ⟨rfl, hb⟩) | (go_at_call_of 30 (s0); refine (HI.out _).mono ?_; rintro e w2 ⟨rfl, hb⟩) | (go_at_call_of 30 (s1); refine (HJ.out _).mono ?_; rintro e w2 ⟨rfl, hb⟩))
    all_goals (try go_wp2)
    all_goals (go_ret; exact ⟨by first | rfl | simp, by first | exact Yb (Below.refl _ _) | exact Yj (Yb (Below.refl _ _)) hb | exact Yj (Yj (Yb (Below.refl _ _)) (by assumption)) hb | exact Yj (Yj (Yj (Yb (Below.refl _ _)) (by assumption)) (by assumption)) hb | exact Yj (Yj (Yj (Yj (Yb (Below.refl _ _)) (by assumption)) (by assumption)) (by assumption)) hb⟩)
  | false =>
    rw [hi] at HI
    clear hi
    go_enter Try.func31, Try.ntmps31
    go_wp2
    first | (go_region_with (first | (go_at_call 27; refine (addr_Size.calls _ _ s0 _ HS.out).mono ?_; rintro e w1 ⟨rfl, hb⟩; have q1 : w1.cell? ⟨b1, 0, none⟩ = some (.func (.func 30) #[] #[]) := (hb.cell (p := ⟨b1, 0, none⟩) (by simpa using l1)).trans (by simpa using f)) | (go_at_call 30; refine (HI.out _).mono ?_; rintro e w2 ⟨rfl, hb⟩))) | fail
    all_goals (try go_wp2)
    all_goals (go_ret; exact ⟨by first | rfl | simp, by first | exact Yb (Below.refl _ _) | exact Yj (Yb (Below.refl _ _)) hb | exact Yj (Yj (Yb (Below.refl _ _)) (by assumption)) hb | exact Yj (Yj (Yj (Yb (Below.refl _ _)) (by assumption)) (by assumption)) hb | exact Yj (Yj (Yj (Yj (Yb (Below.refl _ _)) (by assumption)) (by assumption)) (by assumption)) hb⟩)
set_option maxHeartbeats 4000000 in
theorem c35 (h : FW a0 a1 a2 a3 a4 a5 a6 a7 b0 b1 W) :
    Calls Try.prog 35 #[.pointer (some ⟨b1, 0, none⟩), .pointer (some ⟨b0, 0, none⟩)] W fun e w' => e = .returned (.bool (inB a6 0 (wrap64 (a5 - a4)) && (inB a7 1 65535 && decide (wrap64 (Int.tdiv a6 a7) ≤ 8)))) ∧ Below W.heap.size W w' := by
  have H0 := Ym h
  obtain ⟨l0, l1, c0, c1, c2, c3, c4, c5, c6, c7, f⟩ := h
  have HI := Ym (fun w => in_calls a6 0 (wrap64 (a5 - a4)) w)
  have HJ := Ym (fun w => in_calls a7 1 65535 w)
  have arms : True := trivial
  cases hi : inB a6 0 (wrap64 (a5 - a4)) with
  | false =>
    rw [hi] at HI
    clear hi
    go_enter Try.func35, Try.ntmps35
    go_wp2_with (first | (go_at_call 30; refine (HI.out _).mono ?_; rintro e w1 ⟨rfl, hb⟩; obtain ⟨hcA, hfA⟩ := bcell hb))
    go_ret
    exact ⟨by simp, hb⟩
  | true =>
    rw [hi] at HI
    clear hi
    cases hj : inB a7 1 65535 with
    | false =>
      rw [hj] at HJ
      clear hj
      go_enter Try.func35, Try.ntmps35
      go_wp2_with (first | (go_at_call_of 30 (a6); refine (HI.out _).mono ?_; rintro e w1 ⟨rfl, hb⟩; obtain ⟨hcA, hfA⟩ := bcell hb; have hz := hb.size) | (go_at_call_of 30 (a7); refine (HJ.out _).mono ?_; rintro e w2 ⟨rfl, hb2⟩; obtain ⟨hcB, hfB⟩ := bcell hb2))
      go_ret
      exact ⟨by simp, Yj hb hb2⟩
    | true =>
      have hne : ¬ a7 = 0 := by simp [inB] at hj; omega
      rw [hj] at HJ
      clear hj
      go_enter Try.func35, Try.ntmps35
      go_wp2_with (first | (go_at_call_of 30 (a6); refine (HI.out _).mono ?_; rintro e w1 ⟨rfl, hb⟩; obtain ⟨hcA, hfA⟩ := bcell hb; have hz := hb.size) | (go_at_call_of 30 (a7); refine (HJ.out _).mono ?_; rintro e w2 ⟨rfl, hb2⟩; have q6 : w2.cell? ⟨b0, 6, none⟩ = some (.int .i64 a6) := ((Yj hb hb2).cell (p := ⟨b0, 6, none⟩) l0).trans c6; have q7 : w2.cell? ⟨b0, 7, none⟩ = some (.int .i64 a7) := ((Yj hb hb2).cell (p := ⟨b0, 7, none⟩) l0).trans c7))
      go_ret
      exact ⟨by simp, Yj hb hb2⟩
theorem FW.below {W' : World} (h : FW a0 a1 a2 a3 a4 a5 a6 a7 b0 b1 W) (hb : Below W.heap.size W W') : FW a0 a1 a2 a3 a4 a5 a6 a7 b0 b1 W' :=
  let ⟨x0, x1, x2, x3, x4, x5, x6, x7, f, _⟩ := h.keep1 hb
  ⟨Nat.lt_of_lt_of_le h.l0 hb.size, Nat.lt_of_lt_of_le h.l1 hb.size, x0, x1, x2, x3, x4, x5, x6, x7, f⟩
theorem n31 (h : FW a0 a1 a2 a3 a4 a5 a6 a7 b0 b1 W) (s0 s1 : Int) (hs : addr_Size.f a0 a1 = some s0) (ht : addr_Size.f a2 a3 = some s1) :
    Calls Try.prog 39 #[.func (.func 31) #[] #[.pointer (some ⟨b1, 0, none⟩), .pointer (some ⟨b0, 0, none⟩)]] W fun e w' => e = .returned (.bool (!(inB s0 1 32 && inB s1 1 4))) ∧ Below W.heap.size W w' := by
  have HC := Ym (c31 h s0 s1 hs ht)
  clear h hs ht
  generalize (inB s0 1 32 && inB s1 1 4) = q at HC ⊢
  go_enter Try.func39, Try.ntmps39
  go_wp2_with (go_at_call 31; refine (HC.out).mono ?_; rintro e w1 ⟨rfl, hb⟩)
  go_ret
  exact ⟨rfl, hb⟩
theorem n32 (h : FW a0 a1 a2 a3 a4 a5 a6 a7 b0 b1 W) (k : Nat) (m : Bool) (hm : addr_Meet.f k a0 a1 a2 a3 = some m) :
    Calls Try.prog 39 #[.func (.func 32) #[] #[.pointer (some ⟨b0, 0, none⟩)]] W fun e w' => e = .returned (.bool (!(!m))) ∧ Below W.heap.size W w' := by
  have HC := Ym (c32 h k m hm)
  clear h hm
  generalize (!m) = q at HC ⊢
  go_enter Try.func39, Try.ntmps39
  go_wp2_with (go_at_call 32; refine (HC.out).mono ?_; rintro e w1 ⟨rfl, hb⟩)
  go_ret
  exact ⟨rfl, hb⟩
theorem n34 (h : FW a0 a1 a2 a3 a4 a5 a6 a7 b0 b1 W)  :
    Calls Try.prog 39 #[.func (.func 34) #[] #[.pointer (some ⟨b1, 0, none⟩), .pointer (some ⟨b0, 0, none⟩)]] W fun e w' => e = .returned (.bool (!(inB a4 1 a5 && decide (a5 ≤ 65535)))) ∧ Below W.heap.size W w' := by
  have HC := Ym (c34 h )
  clear h 
  generalize (inB a4 1 a5 && decide (a5 ≤ 65535)) = q at HC ⊢
  go_enter Try.func39, Try.ntmps39
  go_wp2_with (go_at_call 34; refine (HC.out).mono ?_; rintro e w1 ⟨rfl, hb⟩)
  go_ret
  exact ⟨rfl, hb⟩
theorem n35 (h : FW a0 a1 a2 a3 a4 a5 a6 a7 b0 b1 W)  :
    Calls Try.prog 39 #[.func (.func 35) #[] #[.pointer (some ⟨b1, 0, none⟩), .pointer (some ⟨b0, 0, none⟩)]] W fun e w' => e = .returned (.bool (!(inB a6 0 (wrap64 (a5 - a4)) && (inB a7 1 65535 && decide (wrap64 (Int.tdiv a6 a7) ≤ 8))))) ∧ Below W.heap.size W w' := by
  have HC := Ym (c35 h )
  clear h 
  generalize (inB a6 0 (wrap64 (a5 - a4)) && (inB a7 1 65535 && decide (wrap64 (Int.tdiv a6 a7) ≤ 8))) = q at HC ⊢
  go_enter Try.func39, Try.ntmps39
  go_wp2_with (go_at_call 35; refine (HC.out).mono ?_; rintro e w1 ⟨rfl, hb⟩)
  go_ret
  exact ⟨rfl, hb⟩
theorem n36 (h : FW a0 a1 a2 a3 a4 a5 a6 a7 b0 b1 W) (s r : Int) (hs : detmap_shared.f a0 a1 a2 a3 a4 a5 a6 a7 = some s) (hr : detmap_Ratio.f a0 a1 a2 a3 a4 a5 a6 a7 = some r) :
    Calls Try.prog 39 #[.func (.func 36) #[] #[.pointer (some ⟨b0, 0, none⟩)]] W fun e w' => e = .returned (.bool (!(decide (r ≤ s)))) ∧ Below W.heap.size W w' := by
  have HC := Ym (c36 h s r hs hr)
  clear h hs hr
  generalize (decide (r ≤ s)) = q at HC ⊢
  go_enter Try.func39, Try.ntmps39
  go_wp2_with (go_at_call 36; refine (HC.out).mono ?_; rintro e w1 ⟨rfl, hb⟩)
  go_ret
  exact ⟨rfl, hb⟩
/-- What the search leans on: its five cells, and what each function in them answers behind those that answered true. -/
def Rounds (fv : Nat → Value) (R : Nat → Bool) (b2 : Nat) (W : World) : Prop :=
  b2 < W.heap.size ∧ (∀ k, k < 5 → W.cell? ⟨b2, k, none⟩ = some (fv k)) ∧ ∀ k, k < 5 → (∀ j, j < k → R j = true) → ∀ W', Below W.heap.size W W' → Calls Try.prog 39 #[fv k] W' fun e w' => e = .returned (.bool (!R k)) ∧ Below W'.heap.size W' w'
def Found (w : World) (e : Ending) (w' : World) : Prop := ∃ r : Int, 0 ≤ r ∧ e = .returned (.int .i64 r) ∧ Below w.heap.size w w'
set_option maxHeartbeats 1000000 in
set_option maxRecDepth 100000 in
theorem index_none {fv : Nat → Value} {R : Nat → Bool} {b2 : Nat} (h : Rounds fv R b2 W) (hall : ∀ j, j < 5 → R j = true) :
    Calls Try.prog 45 #[.slice (some ⟨b2, 0, none⟩) 5 5, .func (.func 39) #[] #[]] W fun e w' => e = .returned (.int .i64 (-1)) ∧ Below W.heap.size W w' := by
  have HR := Ym h
  have HA := Ym hall
  clear h hall
  go_enter Try.func45, Try.ntmps45
  go_wp2
  go_loopw [5, 8] (fun _ i wr => ∃ k : Nat, k ≤ 5 ∧ i = .int .i64 k ∧ Aside0 (Below W.heap.size W wr)) (fun _ i _ => 5 - (intOf i).toNat)
  case atStart => exact ⟨0, Nat.zero_le _, rfl, ⟨Below.refl _ _⟩⟩
  case round =>
    obtain ⟨k, hk, rfl, HB⟩ := hrel
    by_cases hlt : k < 5
    · have hcell : wr.cell? ⟨b2, k, none⟩ = some (fv k) := (HB.out.cell (p := ⟨b2, k, none⟩) HR.out.1).trans (HR.out.2.1 k hlt)
      have HX := HR.out.2.2 k hlt (fun j hj => HA.out j (by omega)) wr HB.out
      rw [HA.out k hlt] at HX
      have HX := Ym HX
      go_wp2_with (go_at_call 39; refine (HX.out).mono ?_; rintro e w1 ⟨rfl, hb⟩)
      go_roundw
      case rel => exact ⟨k + 1, by omega, by go_num, ⟨Yj HB.out hb⟩⟩
      case measure => simp [intOf]; omega
    · go_wp2
      go_ret
      exact ⟨rfl, HB.out⟩
set_option maxHeartbeats 1000000 in
set_option maxRecDepth 100000 in
theorem index_some {fv : Nat → Value} {R : Nat → Bool} {b2 : Nat} (h : Rounds fv R b2 W) (m : Nat) (hm : m < 5) (hall : ∀ j, j < m → R j = true) (hno : R m = false) :
    Calls Try.prog 45 #[.slice (some ⟨b2, 0, none⟩) 5 5, .func (.func 39) #[] #[]] W (Found W) := by
  have HR := Ym h
  have HA := Ym hall
  have HN := Ym hno
  clear h hall hno
  go_enter Try.func45, Try.ntmps45
  go_wp2
  go_loopw [5, 8] (fun _ i wr => ∃ k : Nat, k ≤ m ∧ i = .int .i64 k ∧ Aside0 (Below W.heap.size W wr)) (fun _ i _ => 5 - (intOf i).toNat)
  case atStart => exact ⟨0, Nat.zero_le _, rfl, ⟨Below.refl _ _⟩⟩
  case round =>
    obtain ⟨k, hk, rfl, HB⟩ := hrel
    have hlt : k < 5 := by omega
    have hcell : wr.cell? ⟨b2, k, none⟩ = some (fv k) := (HB.out.cell (p := ⟨b2, k, none⟩) HR.out.1).trans (HR.out.2.1 k hlt)
    have HX := HR.out.2.2 k hlt (fun j hj => HA.out j (by omega)) wr HB.out
    by_cases hkm : k < m
    · rw [HA.out k hkm] at HX
      have HX := Ym HX
      go_wp2_with (go_at_call 39; refine (HX.out).mono ?_; rintro e w1 ⟨rfl, hb⟩)
      go_roundw
      case rel => exact ⟨k + 1, by omega, by go_num, ⟨Yj HB.out hb⟩⟩
      case measure => simp [intOf]; omega
    · obtain rfl : k = m := by omega
      rw [HN.out] at HX
      have HX := Ym HX
      go_wp2_with (go_at_call 39; refine (HX.out).mono ?_; rintro e w1 ⟨rfl, hb⟩)
      go_ret
      exact ⟨k, by omega, rfl, Yj HB.out hb⟩
set_option maxHeartbeats 1000000 in
theorem contains_no {fv : Nat → Value} {R : Nat → Bool} {b2 : Nat} (h : Rounds fv R b2 W) (hall : ∀ j, j < 5 → R j = true) :
    Calls Try.prog 38 #[.slice (some ⟨b2, 0, none⟩) 5 5, .func (.func 39) #[] #[]] W fun e w' => e = .returned (.bool false) ∧ Below W.heap.size W w' := by
  have HX := Ym (index_none h hall)
  clear h hall
  go_enter Try.func38, Try.ntmps38
  go_wp2_with (go_at_call 45; refine (HX.out).mono ?_; rintro e w1 ⟨rfl, hb⟩)
  go_ret
  exact ⟨rfl, hb⟩
set_option maxHeartbeats 1000000 in
theorem contains_yes {fv : Nat → Value} {R : Nat → Bool} {b2 : Nat} (h : Rounds fv R b2 W) (m : Nat) (hm : m < 5) (hall : ∀ j, j < m → R j = true) (hno : R m = false) :
    Calls Try.prog 38 #[.slice (some ⟨b2, 0, none⟩) 5 5, .func (.func 39) #[] #[]] W fun e w' => e = .returned (.bool true) ∧ Below W.heap.size W w' := by
  have HX := Ym (index_some h m hm hall hno)
  clear h hall hno
  go_enter Try.func38, Try.ntmps38
  go_wp2_with (go_at_call 45; refine (HX.out).mono ?_; rintro e w1 ⟨r, hr, rfl, hb⟩)
  go_ret
  exact ⟨rfl, hb⟩
def fvs (b0 b1 : Nat) : Nat → Value
  | 0 => .func (.func 31) #[] #[.pointer (some ⟨b1, 0, none⟩), .pointer (some ⟨b0, 0, none⟩)]
  | 1 => .func (.func 32) #[] #[.pointer (some ⟨b0, 0, none⟩)]
  | 2 => .func (.func 34) #[] #[.pointer (some ⟨b1, 0, none⟩), .pointer (some ⟨b0, 0, none⟩)]
  | 3 => .func (.func 35) #[] #[.pointer (some ⟨b1, 0, none⟩), .pointer (some ⟨b0, 0, none⟩)]
  | _ => .func (.func 36) #[] #[.pointer (some ⟨b0, 0, none⟩)]
def rs (p0 p1 p2 p3 p4 : Bool) : Nat → Bool
  | 0 => p0
  | 1 => p1
  | 2 => p2
  | 3 => p3
  | _ => p4
def W3 (a0 a1 a2 a3 a4 a5 a6 a7 : Int) (w : World) : World := (((w.alloc (.cells #[.int .i64 a0, .int .i64 a1, .int .i64 a2, .int .i64 a3, .int .i64 a4, .int .i64 a5, .int .i64 a6, .int .i64 a7] 25)).alloc (.cells #[.func (.func 30) #[] #[]] 41)).alloc (.cells #[fvs w.heap.size (w.heap.size + 1) 0, fvs w.heap.size (w.heap.size + 1) 1, fvs w.heap.size (w.heap.size + 1) 2, fvs w.heap.size (w.heap.size + 1) 3, fvs w.heap.size (w.heap.size + 1) 4] 26))
theorem W3_below (w : World) : Below w.heap.size w (W3 a0 a1 a2 a3 a4 a5 a6 a7 w) := Yc (Yc (Yc (Below.refl _ _) _) _) _
theorem W3_fw (w : World) : FW a0 a1 a2 a3 a4 a5 a6 a7 w.heap.size (w.heap.size + 1) (W3 a0 a1 a2 a3 a4 a5 a6 a7 w) := by
  unfold W3
  refine ⟨by simp; omega, by simp, ?_, ?_, ?_, ?_, ?_, ?_, ?_, ?_, ?_⟩ <;> simp [go_sem]
theorem W3_cell (w : World) : ∀ k, k < 5 → (W3 a0 a1 a2 a3 a4 a5 a6 a7 w).cell? ⟨w.heap.size + 2, k, none⟩ = some (fvs w.heap.size (w.heap.size + 1) k) := by
  intro k hk
  unfold W3
  match k, hk with
  | 0, _ => simp [go_sem]
  | 1, _ => simp [go_sem]
  | 2, _ => simp [go_sem]
  | 3, _ => simp [go_sem]
  | 4, _ => simp [go_sem]
theorem W3_rounds (w : World) (s0 s1 : Int) (hs : addr_Size.f a0 a1 = some s0) (ht : addr_Size.f a2 a3 = some s1) (k : Nat) (m : Bool) (hm : addr_Meet.f k a0 a1 a2 a3 = some m) (s r : Int) (h1 : detmap_shared.f a0 a1 a2 a3 a4 a5 a6 a7 = some s) (h2 : detmap_Ratio.f a0 a1 a2 a3 a4 a5 a6 a7 = some r) :
    Rounds (fvs w.heap.size (w.heap.size + 1)) (rs (inB s0 1 32 && inB s1 1 4) (!m) (inB a4 1 a5 && decide (a5 ≤ 65535)) (inB a6 0 (wrap64 (a5 - a4)) && (inB a7 1 65535 && decide (wrap64 (Int.tdiv a6 a7) ≤ 8))) (decide (r ≤ s))) (w.heap.size + 2) (W3 a0 a1 a2 a3 a4 a5 a6 a7 w) := by
  refine ⟨by unfold W3; simp, W3_cell w, fun j hj _ W' hb => ?_⟩
  have hF := (W3_fw (a0 := a0) (a1 := a1) (a2 := a2) (a3 := a3) (a4 := a4) (a5 := a5) (a6 := a6) (a7 := a7) w).below hb
  match j, hj with
  | 0, _ => exact n31 hF s0 s1 hs ht
  | 1, _ => exact n32 hF k m hm
  | 2, _ => exact n34 hF
  | 3, _ => exact n35 hF
  | 4, _ => exact n36 hF s r h1 h2
set_option maxHeartbeats 1000000 in
theorem fit_walk (w : World) (b : Bool) (h : Calls Try.prog 38 #[.slice (some ⟨w.heap.size + 2, 0, none⟩) 5 5, .func (.func 39) #[] #[]] (W3 a0 a1 a2 a3 a4 a5 a6 a7 w) fun e w' => e = .returned (.bool b) ∧ Below (W3 a0 a1 a2 a3 a4 a5 a6 a7 w).heap.size (W3 a0 a1 a2 a3 a4 a5 a6 a7 w) w') :
    Calls Try.prog 16 #[.agg #[.int .i64 a0, .int .i64 a1, .int .i64 a2, .int .i64 a3, .int .i64 a4, .int .i64 a5, .int .i64 a6, .int .i64 a7]] w fun e w' => e = .returned (.bool (!b)) ∧ Below w.heap.size w w' := by
  have H := Ym h
  clear h
  go_enter Try.func16, Try.ntmps16
  have hmf : ∀ (fn : Fn) (first cap : Array Value) (w : World), (Instr.makeFunc fn first cap).run Try.prog w = .ok (.func fn first cap) w := fun _ _ _ _ => rfl
  go_wp2_with (go_at_call 38; trace_state; refine (H.out).mono ?_; rintro e w1 ⟨rfl, hb⟩)
  go_ret
  exact ⟨rfl, Yj (W3_below w) hb⟩
end Dev
def detmap_Fit.f (v0 v1 v2 v3 v4 v5 v6 v7 : Int) : Option (Bool) :=
  (addr_Size.f v0 v1).bind fun s0 => (addr_Size.f v2 v3).bind fun s1 => (addr_Meet.f 3 v0 v1 v2 v3).bind fun m => (detmap_shared.f v0 v1 v2 v3 v4 v5 v6 v7).bind fun s => (detmap_Ratio.f v0 v1 v2 v3 v4 v5 v6 v7).bind fun r =>
    some ((Dev.inB s0 1 32 && Dev.inB s1 1 4) && ((!m) && ((Dev.inB v4 1 v5 && decide (v5 ≤ 65535)) && ((Dev.inB v6 0 (wrap64 (v5 - v4)) && (Dev.inB v7 1 65535 && decide (wrap64 (Int.tdiv v6 v7) ≤ 8))) && decide (r ≤ s)))))
theorem Dev.fit_all {p0 p1 p2 p3 p4 : Bool} : (∀ j, j < 5 → Dev.rs p0 p1 p2 p3 p4 j = true) ∨ ∃ m, m < 5 ∧ (∀ j, j < m → Dev.rs p0 p1 p2 p3 p4 j = true) ∧ Dev.rs p0 p1 p2 p3 p4 m = false := by
  revert p0 p1 p2 p3 p4
  decide
theorem Dev.fit_and {p0 p1 p2 p3 p4 : Bool} : (p0 && (p1 && (p2 && (p3 && p4)))) = true ↔ ∀ j, j < 5 → Dev.rs p0 p1 p2 p3 p4 j = true := by
  revert p0 p1 p2 p3 p4
  decide
theorem detmap_Fit.calls (v0 : Int) (v1 : Int) (v2 : Int) (v3 : Int) (v4 : Int) (v5 : Int) (v6 : Int) (v7 : Int) (r : Bool) (w : World) (h : detmap_Fit.f v0 v1 v2 v3 v4 v5 v6 v7 = some r) :
    Calls Try.prog 16 #[.agg #[.int .i64 v0, .int .i64 v1, .int .i64 v2, .int .i64 v3, .int .i64 v4, .int .i64 v5, .int .i64 v6, .int .i64 v7]] w fun e w' => e = .returned (.bool r) ∧ Below w.heap.size w w' := by
  unfold detmap_Fit.f at h
  obtain ⟨s0, h0, h⟩ := Option.bind_eq_some_iff.mp h
  obtain ⟨s1, h1, h⟩ := Option.bind_eq_some_iff.mp h
  obtain ⟨m, hm, h⟩ := Option.bind_eq_some_iff.mp h
  obtain ⟨s, hs, h⟩ := Option.bind_eq_some_iff.mp h
  obtain ⟨q, hq, h⟩ := Option.bind_eq_some_iff.mp h
  have hr := Option.some.inj h
  have hR := Dev.W3_rounds w s0 s1 h0 h1 3 m hm s q hs hq
  rcases @Dev.fit_all (Dev.inB s0 1 32 && Dev.inB s1 1 4) (!m) (Dev.inB v4 1 v5 && decide (v5 ≤ 65535)) (Dev.inB v6 0 (wrap64 (v5 - v4)) && (Dev.inB v7 1 65535 && decide (wrap64 (Int.tdiv v6 v7) ≤ 8))) (decide (q ≤ s)) with ha | ⟨i, hi, ha, hn⟩
  · rw [Dev.fit_and.2 ha] at hr
    subst hr
    exact Dev.fit_walk w false (Dev.contains_no hR ha)
  · have hf : r = false := by
      cases r with
      | false => rfl
      | true => exact absurd (Dev.fit_and.1 hr i hi) (by rw [hn]; decide)
    subst hf
    exact Dev.fit_walk w true (Dev.contains_yes hR i hi ha hn)

/-! ### detmap_Each: function 21 -/
def detmap_Each.f (v0 : Int) (v1 : Int) (v2 : Int) (v3 : Int) (v4 : Int) (v5 : Int) (v6 : Int) (v7 : Int) : Option (Int) := (detmap_Fit.f v0 v1 v2 v3 v4 v5 v6 v7).bind fun t117 => (if t117 = true then ((detmap_shared.f v0 v1 v2 v3 v4 v5 v6 v7).bind fun t118 => ((detmap_Ratio.f v0 v1 v2 v3 v4 v5 v6 v7).bind fun t119 => (if t119 = 0 then (none) else (some (wrap64 (Int.tdiv t118 t119)))))) else (some 0))
set_option maxHeartbeats 8000000 in
set_option maxRecDepth 100000 in
theorem detmap_Each.calls (v0 : Int) (v1 : Int) (v2 : Int) (v3 : Int) (v4 : Int) (v5 : Int) (v6 : Int) (v7 : Int) (r : Int) (w : World) (h : detmap_Each.f v0 v1 v2 v3 v4 v5 v6 v7 = some r) :
    Calls Try.prog 21 #[.agg #[.int .i64 v0, .int .i64 v1, .int .i64 v2, .int .i64 v3, .int .i64 v4, .int .i64 v5, .int .i64 v6, .int .i64 v7]] w fun e w' => e = .returned (.int .i64 r) ∧ Below w.heap.size w w' := by
  have hu25 := Try.underlying25
  have HB := Ym (Below.refl w.heap.size w)
  have H : ((detmap_Fit.f v0 v1 v2 v3 v4 v5 v6 v7).bind fun t117 => (if t117 = true then ((detmap_shared.f v0 v1 v2 v3 v4 v5 v6 v7).bind fun t118 => ((detmap_Ratio.f v0 v1 v2 v3 v4 v5 v6 v7).bind fun t119 => (if t119 = 0 then (none) else (some (wrap64 (Int.tdiv t118 t119)))))) else (some 0))) = some r := h
  clear h
  replace H := Option.bind_eq_some_iff.mp H
  obtain ⟨t117, A20, H⟩ := H
  replace H : (if t117 = true then ((detmap_shared.f v0 v1 v2 v3 v4 v5 v6 v7).bind fun t118 => ((detmap_Ratio.f v0 v1 v2 v3 v4 v5 v6 v7).bind fun t119 => (if t119 = 0 then (none) else (some (wrap64 (Int.tdiv t118 t119)))))) else (some 0)) = some r := H
  have A2 := Ym A20
  clear A20
  by_cases c3 : t117 = true
  · subst c3
    have H1 : ((detmap_shared.f v0 v1 v2 v3 v4 v5 v6 v7).bind fun t118 => ((detmap_Ratio.f v0 v1 v2 v3 v4 v5 v6 v7).bind fun t119 => (if t119 = 0 then (none) else (some (wrap64 (Int.tdiv t118 t119)))))) = some r := by rw [if_pos rfl] at H; exact H
    clear H
    have H := H1
    clear H1
    replace H := Option.bind_eq_some_iff.mp H
    obtain ⟨t118, A40, H⟩ := H
    replace H : ((detmap_Ratio.f v0 v1 v2 v3 v4 v5 v6 v7).bind fun t119 => (if t119 = 0 then (none) else (some (wrap64 (Int.tdiv t118 t119))))) = some r := H
    have A4 := Ym A40
    clear A40
    replace H := Option.bind_eq_some_iff.mp H
    obtain ⟨t119, A50, H⟩ := H
    replace H : (if t119 = 0 then (none) else (some (wrap64 (Int.tdiv t118 t119)))) = some r := H
    have A5 := Ym A50
    clear A50
    by_cases c6 : t119 = 0
    · rw [if_pos c6] at H
      exact absurd H (by simp)
    · rw [if_neg c6] at H
      have c6b0 : (t119 == 0) = false := beq_eq_false_iff_ne.mpr c6
      have c6b1 : (t119 != 0) = true := bne_iff_ne.mpr c6
      obtain rfl := Option.some.inj H
      go_enter Try.func21, Try.ntmps21
      try go_wp2_with (first | ((with_reducible refine gate_dst (N := 1) rfl ?_); refine box_event ?hg (N := 1) ?hd (cs := #[.int .i64 v0, .int .i64 v1, .int .i64 v2, .int .i64 v3, .int .i64 v4, .int .i64 v5, .int .i64 v6, .int .i64 v7]) (t := 25) ?hr ?_; (case hd => rfl); (case hg => rfl); (case hr => first | (go_simp; done) | (go_simp; rfl)); intro gb116 hg w7 hbox hb; have n0_ := Ym (Yj (by repeat (first | (with_reducible first | exact HB.out | apply Yc | apply Ya | apply Yb) | exact HB.out)) hb); have n1_ := Ym (hbox); have n2_ := Ym ((by rw [hg]; exact (Yk (by repeat (first | (with_reducible first | exact HB.out | apply Yc | apply Ya | apply Yb) | exact HB.out))) : w.heap.size ≤ gb116)); have n3_ := Ym ((by rw [hg]; exact (Yk (by repeat (first | (with_reducible first | exact HB.out | apply Yc | apply Ya | apply Yb) | exact HB.out))) : w.heap.size ≤ gb116)); clear HB; have HB := n0_; have BK116 := n1_; have GW116 := n2_; have GE116 := n3_; clear n0_ n1_ n2_ n3_; clear hb hbox hg; have hcz8_0 : w7.cell? ⟨gb116, 0, none⟩ = some (.int .i64 v0) := (Yh BK116.out 0).trans rfl; have hcz8_1 : w7.cell? ⟨gb116, 1, none⟩ = some (.int .i64 v1) := (Yh BK116.out 1).trans rfl; have hcz8_2 : w7.cell? ⟨gb116, 2, none⟩ = some (.int .i64 v2) := (Yh BK116.out 2).trans rfl; have hcz8_3 : w7.cell? ⟨gb116, 3, none⟩ = some (.int .i64 v3) := (Yh BK116.out 3).trans rfl; have hcz8_4 : w7.cell? ⟨gb116, 4, none⟩ = some (.int .i64 v4) := (Yh BK116.out 4).trans rfl; have hcz8_5 : w7.cell? ⟨gb116, 5, none⟩ = some (.int .i64 v5) := (Yh BK116.out 5).trans rfl; have hcz8_6 : w7.cell? ⟨gb116, 6, none⟩ = some (.int .i64 v6) := (Yh BK116.out 6).trans rfl; have hcz8_7 : w7.cell? ⟨gb116, 7, none⟩ = some (.int .i64 v7) := (Yh BK116.out 7).trans rfl; have hfz8_0 := Yi BK116.out 0; have hfz8_1 := Yi BK116.out 1; have hfz8_2 := Yi BK116.out 2; have hfz8_3 := Yi BK116.out 3; have hfz8_4 := Yi BK116.out 4; have hfz8_5 := Yi BK116.out 5; have hfz8_6 := Yi BK116.out 6; have hfz8_7 := Yi BK116.out 7) | ((with_reducible refine gate_callee (f := 16) rfl ?_); refine goesL_ (some 4) rfl rfl Try.func16 (by kernel_rfl) rfl #[.agg #[.int .i64 v0, .int .i64 v1, .int .i64 v2, .int .i64 v3, .int .i64 v4, .int .i64 v5, .int .i64 v6, .int .i64 v7]] rfl (by (try simp only [List.map_toArray, List.map_cons, List.map_nil]); first | done | rfl | (simp only [List.length_drop, List.length_take]; rfl)) ?_; (with_reducible refine (detmap_Fit.calls v0 v1 v2 v3 v4 v5 v6 v7 true _ A2.out).mono ?_); rintro e w9 ⟨rfl, hb⟩; refine ⟨_, rfl, ?_⟩; have n0_ := Ym (Yl (g := gb116) (o := .cells #[.int .i64 v0, .int .i64 v1, .int .i64 v2, .int .i64 v3, .int .i64 v4, .int .i64 v5, .int .i64 v6, .int .i64 v7] 25 (0, 0)) (by (with_reducible repeat (first | refine Yd ?_ _ | refine Yf ?_ | refine Ye ?_ _)); exact BK116.out) hb); have n1_ := Ym (Yj (by repeat (first | (with_reducible first | exact HB.out | apply Yc | apply Ya | apply Yb | refine Yg ?_ GE116.out) | exact HB.out)) hb); clear BK116; clear HB; have BK116 := n0_; have HB := n1_; clear n0_ n1_; (try clear hb); (try clear hb2); (try clear hk); (try clear hi)))
      have n0_ := Ym (Yf BK116.out)
      have n1_ := Ym (Yb HB.out)
      clear BK116
      clear HB
      have BK116 := n0_
      have HB := n1_
      clear n0_ n1_
      refine start_ (n := 6) (S := fun w' => w'.cell? ⟨gb116, 0, none⟩ = some (.int .i64 v0) ∧ w'.cell? ⟨gb116, 1, none⟩ = some (.int .i64 v1) ∧ w'.cell? ⟨gb116, 2, none⟩ = some (.int .i64 v2) ∧ w'.cell? ⟨gb116, 3, none⟩ = some (.int .i64 v3) ∧ w'.cell? ⟨gb116, 4, none⟩ = some (.int .i64 v4) ∧ w'.cell? ⟨gb116, 5, none⟩ = some (.int .i64 v5) ∧ w'.cell? ⟨gb116, 6, none⟩ = some (.int .i64 v6) ∧ w'.cell? ⟨gb116, 7, none⟩ = some (.int .i64 v7)) (ds := []) #[false, false, false, false, false, false] (by kernel_rfl) rfl rfl ⟨(Yh BK116.out 0).trans rfl, (Yh BK116.out 1).trans rfl, (Yh BK116.out 2).trans rfl, (Yh BK116.out 3).trans rfl, (Yh BK116.out 4).trans rfl, (Yh BK116.out 5).trans rfl, (Yh BK116.out 6).trans rfl, (Yh BK116.out 7).trans rfl⟩ (fun hHeld => ?_)
      generalize w9.drew = w10 at BK116 HB hHeld ⊢
      refine take_ (i := 0) (N := some 6) (v := ?_) (a' := ?_) #[true, false, false, false, false, false] rfl rfl (by kernel_rfl) (fun _ _ _ h => h) (Or.inl ⟨by rfl, ?_⟩) hHeld ?_ ?_
      rotate_left
      · rintro w' ⟨s0, s1, s2, s3, s4, s5, s6, s7⟩
        go_simp
        with_reducible rfl
      rotate_left
      · simp only [Act.put, Yo, Yp, Yq, i64_w, i32_w]
        rfl
      refine take_ (i := 2) (N := some 8) (v := ?_) (a' := ?_) #[true, false, true, false, false, false] rfl rfl (by kernel_rfl) (fun _ _ _ h => h) (Or.inl ⟨by rfl, ?_⟩) hHeld ?_ ?_
      rotate_left
      · rintro w' ⟨s0, s1, s2, s3, s4, s5, s6, s7⟩
        go_simp
        with_reducible rfl
      rotate_left
      · simp only [Act.put, Yo, Yp, Yq, i64_w, i32_w]
        rfl
      refine one_ (i := 1) (N := some 7) #[true, true, true, false, false, false] rfl rfl (by kernel_rfl) (by decide) (fun K hK => ?_)
      refine goes_ Try.func37 (by kernel_rfl) rfl #[.agg #[.int .i64 v0, .int .i64 v1, .int .i64 v2, .int .i64 v3, .int .i64 v4, .int .i64 v5, .int .i64 v6, .int .i64 v7]] (by rfl) rfl rfl (by (try simp only [List.map_toArray, List.map_cons, List.map_nil]); first | done | rfl | (simp only [List.length_drop, List.length_take]; rfl)) ?_
      with_reducible refine (detmap_shared.calls v0 v1 v2 v3 v4 v5 v6 v7 t118 _ A4.out).mono ?_
      rintro e w11 ⟨rfl, hb⟩
      refine ⟨_, rfl, ?_⟩
      have n0_ := Ym (Yl (g := gb116) (o := .cells #[.int .i64 v0, .int .i64 v1, .int .i64 v2, .int .i64 v3, .int .i64 v4, .int .i64 v5, .int .i64 v6, .int .i64 v7] 25 (0, 0)) (by (with_reducible repeat (first | refine Yd ?_ _ | refine Yf ?_ | refine Ye ?_ _)); exact BK116.out) hb)
      have n1_ := Ym (Yj (by repeat (first | (with_reducible first | exact HB.out | apply Yc | apply Ya | apply Yb | refine Yg ?_ GE116.out) | exact HB.out)) hb)
      clear BK116
      clear HB
      have BK116 := n0_
      have HB := n1_
      clear n0_ n1_
      (try clear hb)
      (try clear hb2)
      (try clear hk)
      (try clear hi)
      refine hK.out _ _ ⟨(Yh BK116.out 0).trans rfl, (Yh BK116.out 1).trans rfl, (Yh BK116.out 2).trans rfl, (Yh BK116.out 3).trans rfl, (Yh BK116.out 4).trans rfl, (Yh BK116.out 5).trans rfl, (Yh BK116.out 6).trans rfl, (Yh BK116.out 7).trans rfl⟩ (fun hHeld => ?_)
      clear hK K
      refine norm_ (a' := ?_) ?_ ?_
      rotate_left
      · show Act.put _ (some 7) _ = _
        simp only [Act.put, Yo, Yp, Yq, i64_w, i32_w]
        rfl
      refine one_ (i := 3) (N := some 9) #[true, true, true, true, false, false] rfl rfl (by kernel_rfl) (by decide) (fun K hK => ?_)
      refine goes_ Try.func19 (by kernel_rfl) rfl #[.agg #[.int .i64 v0, .int .i64 v1, .int .i64 v2, .int .i64 v3, .int .i64 v4, .int .i64 v5, .int .i64 v6, .int .i64 v7]] (by rfl) rfl rfl (by (try simp only [List.map_toArray, List.map_cons, List.map_nil]); first | done | rfl | (simp only [List.length_drop, List.length_take]; rfl)) ?_
      with_reducible refine (detmap_Ratio.calls v0 v1 v2 v3 v4 v5 v6 v7 t119 _ A5.out).mono ?_
      rintro e w12 ⟨rfl, hb⟩
      refine ⟨_, rfl, ?_⟩
      have n0_ := Ym (Yl (g := gb116) (o := .cells #[.int .i64 v0, .int .i64 v1, .int .i64 v2, .int .i64 v3, .int .i64 v4, .int .i64 v5, .int .i64 v6, .int .i64 v7] 25 (0, 0)) (by (with_reducible repeat (first | refine Yd ?_ _ | refine Yf ?_ | refine Ye ?_ _)); exact BK116.out) hb)
      have n1_ := Ym (Yj (by repeat (first | (with_reducible first | exact HB.out | apply Yc | apply Ya | apply Yb | refine Yg ?_ GE116.out) | exact HB.out)) hb)
      clear BK116
      clear HB
      have BK116 := n0_
      have HB := n1_
      clear n0_ n1_
      (try clear hb)
      (try clear hb2)
      (try clear hk)
      (try clear hi)
      refine hK.out _ _ ⟨(Yh BK116.out 0).trans rfl, (Yh BK116.out 1).trans rfl, (Yh BK116.out 2).trans rfl, (Yh BK116.out 3).trans rfl, (Yh BK116.out 4).trans rfl, (Yh BK116.out 5).trans rfl, (Yh BK116.out 6).trans rfl, (Yh BK116.out 7).trans rfl⟩ (fun hHeld => ?_)
      clear hK K
      refine norm_ (a' := ?_) ?_ ?_
      rotate_left
      · show Act.put _ (some 9) _ = _
        simp only [Act.put, Yo, Yp, Yq, i64_w, i32_w]
        rfl
      refine pure_ (i := 4) (N := some 10) (v := ?_) (a' := ?_) #[true, true, true, true, true, false] rfl rfl (by kernel_rfl) (fun _ _ _ h => h) (Or.inl ⟨by rfl, ?_⟩) ?_ ?_
      rotate_left
      · intro w'
        go_simp
        with_reducible rfl
      rotate_left
      · simp only [Act.put, Yo, Yp, Yq, i64_w, i32_w]
        rfl
      refine pure_ (i := 5) (N := some 2) (v := ?_) (a' := ?_) #[true, true, true, true, true, true] rfl rfl (by kernel_rfl) (fun _ _ _ h => h) (Or.inl ⟨by rfl, ?_⟩) ?_ ?_
      rotate_left
      · intro w'
        go_simp
        with_reducible rfl
      rotate_left
      · simp only [Act.put, Yo, Yp, Yq, i64_w, i32_w]
        rfl
      refine done_ (by kernel_rfl) ?_
      try go_wp2
      go_ret
      exact ⟨by first | rfl | (simp [errW_none, errW_some] <;> rfl) | (simp [*, errW_none, errW_some] <;> rfl), by repeat (first | (with_reducible first | exact HB.out | apply Yc | apply Ya | apply Yb | refine Yg ?_ GE116.out) | exact HB.out)⟩
  · replace c3 := Bool.eq_false_iff.mpr c3
    subst c3
    have H1 : (some 0) = some r := by rw [if_neg (show ¬ (false = true) by decide)] at H; exact H
    clear H
    have H := H1
    clear H1
    obtain rfl := Option.some.inj H
    go_enter Try.func21, Try.ntmps21
    go_wp2_with (first | ((with_reducible refine gate_dst (N := 1) rfl ?_); refine box_event ?hg (N := 1) ?hd (cs := #[.int .i64 v0, .int .i64 v1, .int .i64 v2, .int .i64 v3, .int .i64 v4, .int .i64 v5, .int .i64 v6, .int .i64 v7]) (t := 25) ?hr ?_; (case hd => rfl); (case hg => rfl); (case hr => first | (go_simp; done) | (go_simp; rfl)); intro gb116 hg w13 hbox hb; have n0_ := Ym (Yj (by repeat (first | (with_reducible first | exact HB.out | apply Yc | apply Ya | apply Yb) | exact HB.out)) hb); have n1_ := Ym (hbox); have n2_ := Ym ((by rw [hg]; exact (Yk (by repeat (first | (with_reducible first | exact HB.out | apply Yc | apply Ya | apply Yb) | exact HB.out))) : w.heap.size ≤ gb116)); have n3_ := Ym ((by rw [hg]; exact (Yk (by repeat (first | (with_reducible first | exact HB.out | apply Yc | apply Ya | apply Yb) | exact HB.out))) : w.heap.size ≤ gb116)); clear HB; have HB := n0_; have BK116 := n1_; have GW116 := n2_; have GE116 := n3_; clear n0_ n1_ n2_ n3_; clear hb hbox hg; have hcz14_0 : w13.cell? ⟨gb116, 0, none⟩ = some (.int .i64 v0) := (Yh BK116.out 0).trans rfl; have hcz14_1 : w13.cell? ⟨gb116, 1, none⟩ = some (.int .i64 v1) := (Yh BK116.out 1).trans rfl; have hcz14_2 : w13.cell? ⟨gb116, 2, none⟩ = some (.int .i64 v2) := (Yh BK116.out 2).trans rfl; have hcz14_3 : w13.cell? ⟨gb116, 3, none⟩ = some (.int .i64 v3) := (Yh BK116.out 3).trans rfl; have hcz14_4 : w13.cell? ⟨gb116, 4, none⟩ = some (.int .i64 v4) := (Yh BK116.out 4).trans rfl; have hcz14_5 : w13.cell? ⟨gb116, 5, none⟩ = some (.int .i64 v5) := (Yh BK116.out 5).trans rfl; have hcz14_6 : w13.cell? ⟨gb116, 6, none⟩ = some (.int .i64 v6) := (Yh BK116.out 6).trans rfl; have hcz14_7 : w13.cell? ⟨gb116, 7, none⟩ = some (.int .i64 v7) := (Yh BK116.out 7).trans rfl; have hfz14_0 := Yi BK116.out 0; have hfz14_1 := Yi BK116.out 1; have hfz14_2 := Yi BK116.out 2; have hfz14_3 := Yi BK116.out 3; have hfz14_4 := Yi BK116.out 4; have hfz14_5 := Yi BK116.out 5; have hfz14_6 := Yi BK116.out 6; have hfz14_7 := Yi BK116.out 7) | ((with_reducible refine gate_callee (f := 16) rfl ?_); refine goesL_ (some 4) rfl rfl Try.func16 (by kernel_rfl) rfl #[.agg #[.int .i64 v0, .int .i64 v1, .int .i64 v2, .int .i64 v3, .int .i64 v4, .int .i64 v5, .int .i64 v6, .int .i64 v7]] rfl (by (try simp only [List.map_toArray, List.map_cons, List.map_nil]); first | done | rfl | (simp only [List.length_drop, List.length_take]; rfl)) ?_; (with_reducible refine (detmap_Fit.calls v0 v1 v2 v3 v4 v5 v6 v7 false _ A2.out).mono ?_); rintro e w15 ⟨rfl, hb⟩; refine ⟨_, rfl, ?_⟩; have n0_ := Ym (Yl (g := gb116) (o := .cells #[.int .i64 v0, .int .i64 v1, .int .i64 v2, .int .i64 v3, .int .i64 v4, .int .i64 v5, .int .i64 v6, .int .i64 v7] 25 (0, 0)) (by (with_reducible repeat (first | refine Yd ?_ _ | refine Yf ?_ | refine Ye ?_ _)); exact BK116.out) hb); have n1_ := Ym (Yj (by repeat (first | (with_reducible first | exact HB.out | apply Yc | apply Ya | apply Yb | refine Yg ?_ GE116.out) | exact HB.out)) hb); clear BK116; clear HB; have BK116 := n0_; have HB := n1_; clear n0_ n1_; (try clear hb); (try clear hb2); (try clear hk); (try clear hi)))
    go_ret
    exact ⟨by first | rfl | (simp [errW_none, errW_some] <;> rfl) | (simp [*, errW_none, errW_some] <;> rfl), by repeat (first | (with_reducible first | exact HB.out | apply Yc | apply Ya | apply Yb | refine Yg ?_ GE116.out) | exact HB.out)⟩

end Go.Proofs.Ytfkdflhijfkjoaa.P
