/- Chapter 10's machine side by hand: own, contains, May, Step, Drop, Add. -/
import Derived.Test.YtggkealdbebbkaaMA
import Derived.Maps.OwnOps
import Derived.Maps.Views
section
namespace Go.Proofs.Ytggkealdbebbkaa.W10
-- part NS
open Go.RowKit Go.Proofs.YtggkealdbebbkaaW.PrintWords Go.Proofs.YtggkealdbebbkaaW.PrintLast Go.Proofs.YtggkealdbebbkaaW.PrintMore
set_option linter.unusedVariables false
set_option linter.unusedSimpArgs false
theorem ReadsT.addr {w : World} {A : Option Addr} {xs : List T} (h : ReadsT w A xs) (hne : xs ≠ []) : ∃ g o, A = some ⟨g, o, none⟩ ∧ g < w.heap.size ∧ ∀ j x, xs[j]? = some x → w.cell? ⟨g, o + j * 2, none⟩ = some (.int .i64 x.1) ∧ w.cell? ⟨g, o + j * 2 + 1, none⟩ = some (.int .i64 x.2) := by
 obtain ⟨x0, r, rfl⟩ := List.exists_cons_of_ne_nil hne
 obtain ⟨ad, rfl, hl, h0, h1⟩ := h 0 x0 rfl
 obtain ⟨g, o, s⟩ := ad
 cases s with
 |some s =>
  exfalso
  rw [show (⟨g, o, some s⟩ : Addr).add (0 * 2) = ⟨g, o, some s⟩ from by simp [Addr.add]] at h0
  unfold World.cell? at h0
  split at h0
  ·simp at h0
  ·cases h0
 |none =>
  refine ⟨g, o, rfl, hl, fun j x hx => ?_⟩
  obtain ⟨ad, e, _, h2, h3⟩ := h j x hx
  obtain rfl := Option.some.inj e
  have e2 : (⟨g, o, none⟩ : Addr).add (j * 2) = ⟨g, o + j * 2, none⟩ := by
   unfold Addr.add
   split <;> simp_all
  rw [e2] at h2 h3
  exact ⟨h2, h3⟩
set_option maxHeartbeats 1000000 in
theorem clone_ (A : Option Addr) (c : Nat) (xs : List T) (w : World) (hr : ReadsT w A xs) (hl : xs.length < 1000) :
  Calls Try.prog 36 #[.slice A xs.length c] w fun e w' => ∃ v, e = .returned v ∧ Own1 w' w.heap.size v xs ∧ Below w.heap.size w w' := by
 cases A with
 |none =>
  have hx : xs = [] := by
   cases xs with
   |nil => rfl
   |cons x r => obtain ⟨ad, e, _⟩ := hr 0 x rfl; cases e
  subst hx
  refine (AnyE.slices_Clone_nil { Try.cloneT with } 0 c w).mono fun e w' ⟨he, hw⟩ => ?_
  subst hw
  exact ⟨_, he, own_nil _ _, Below.refl _ _⟩
 |some ad =>
  by_cases hx : xs = []
  ·subst hx
   go_enter Try.func36, Try.ntmps36
   have q22 : ∀ (w : World) (a : Option Addr) (n c n' c' : Nat), (binOp .eql 22 (.slice a n c) (.slice none n' c')).run Try.prog w = .ok (.bool a.isNone) w := fun w a n c n' c' => Lib.run_eql_slice_nil w _ _ a n c n' c' Try.underlying22
   obtain ⟨i0, hi, hz0, hz1, hz2⟩ := info_parts info33
   clear hr
   go_wp2_with (at_builtin; refine wpList_append_own_at _ rfl _ _ 22 rfl w.heap.size 33 i0 (.agg #[.int .i64 0, .int .i64 0]) 2 16 Try.underlying22 hi hz0 hz1 hz2 rfl (by decide) (.slice (some ⟨w.heap.size, 0, none⟩) 0 0) 0 [] rfl (World.ownsRow_lit (base := w.heap.size) (e := 33) (size := 2) w #[] 0 (Nat.le_refl _) (by decide) rfl) ad 0 c [] rfl rfl (fun j u h => by simp at h) (by simp) (by decide) (by decide) (by simp) ?_; intro v' w5 hown' hgrow _ hat; have HO := Aside0.mk hown'; have HB := Aside0.mk (((Below.refl w.heap.size w).alloc (Nat.le_refl _) (.cells #[] 33)).grown hgrow (by simp) (fun q hq => by simp [Value.ownBlock] at hq; omega)); clear hown' hgrow hat)
   go_ret
   exact ⟨_, rfl, by simpa [Own1] using HO.out, HB.out⟩
  ·obtain ⟨g, o, e, hg, hc⟩ := hr.addr hx
   obtain rfl := Option.some.inj e
   obtain ⟨i0, hi, hz0, hz1, hz2⟩ := info_parts info33
   have hcon := AnyE.slices_Clone Try.cloneT i0 _ 2 16 hi hz0 hz1 hz2 rfl (by decide) Try.sizeOf33 g o xs.length c (flat xs) w (flat_len xs) (by unfold maxLen; omega) (by omega) (fun j u hj => ?_) (fun u hu => ?_)
   ·change Calls Try.prog 36 _ _ _ at hcon
    exact hcon.mono fun e w' ⟨v, he, ho, _, hb⟩ => ⟨v, he, ho, hb⟩
   ·have hlt : j < xs.length * 2 := by
     have := (List.getElem?_eq_some_iff.1 hj).1
     rwa [flat_len] at this
    have hx : xs[j / 2]? = some xs[j / 2] := List.getElem?_eq_getElem (by omega)
    have h2 := hc (j / 2) _ hx
    have hf := flat_get xs j hlt
    have hu : (flat xs)[j]! = u := by simp [hj]
    have hx2 : xs[j / 2]! = xs[j / 2] := by simp [hx]
    rw [hu, hx2] at hf
    rcases Nat.mod_two_eq_zero_or_one j with h | h
    ·rw [h] at hf
     have e : o + j / 2 * 2 = o + j := by omega
     rw [e] at h2
     rw [h2.1, hf]
     rfl
    ·rw [h] at hf
     have e : o + j / 2 * 2 + 1 = o + j := by omega
     rw [e] at h2
     rw [h2.2, hf]
     rfl
   ·simp [flat, enc2] at hu
    obtain ⟨a, b, _, hu⟩ := hu
    rcases hu with rfl | rfl <;> rfl
def ownT.T : Bool × List (List Nat × List Nat) := (true, [([], []), ([0], [0]), ([], []), ([2], [2]), ([3], [3]), ([1, 4], [1, 4]), ([5, 4, 0, 1, 2, 3, 4, 5], [5])])
def ownT.B : List Nat := [0, 1, 0, 4, 12, 31, 63]
theorem ownT.tab : rtab .any (opsOf Try.f24 1) = ownT.T := by kernel_rfl
theorem ownT.bits : waitsOk ownT.T.2 ownT.B = true := by kernel_rfl

set_option maxHeartbeats 4000000 in
set_option maxRecDepth 100000 in
theorem own_ (now : Int) (A : Option Addr) (c : Nat) (xs : List T) (w : World) (hr : ReadsT w A xs) (hl : xs.length < 1000) :
  Calls Try.prog 24 #[.agg #[.int .i64 now, .slice A xs.length c]] w fun e w' => ∃ v, e = .returned (.agg #[.int .i64 now, v]) ∧ Own1 w' w.heap.size v xs ∧ Below w.heap.size w w' := by
 have hu24 := Try.underlying24
 obtain ⟨W1, hW1⟩ : ∃ W1, (w.alloc (.cells #[.int .i64 now, .slice A xs.length c] 24)).alloc (.cells #[.int .i64 0, .slice none 0 0] 24) = W1 := ⟨_, rfl⟩
 have hB : Below w.heap.size w W1 := by rw [← hW1]; exact below_alloc (below_alloc (Below.refl _ _) _) _
 have hx : W1.heap[w.heap.size]? = some (.cells #[.int .i64 now, .slice A xs.length c] 24 (0, 0)) := by rw [← hW1]; exact blk_alloc (blk_new w _) _
 have hy : W1.heap[w.heap.size + 1]? = some (.cells #[.int .i64 0, .slice none 0 0] 24 (0, 0)) := by
  rw [← hW1]
  have := blk_new (w.alloc (.cells #[.int .i64 now, .slice A xs.length c] 24)) (.cells #[.int .i64 0, .slice none 0 0] 24)
  rw [World.size_alloc] at this
  exact this
 have HB := Aside0.mk hB
 have HX := Aside0.mk hx
 have HY := Aside0.mk hy
 have HC := Aside0.mk (clone_ A c xs W1.drew (hr.below (show Below w.heap.size w W1.drew from hB.trans ⟨rfl, rfl, rfl, Nat.le_refl _, fun _ _ => rfl⟩)) hl)
 have b0 : W1.cell? ⟨w.heap.size, 0, none⟩ = some (.int .i64 now) := by simp [World.cell?, hx]
 have b1 : W1.cell? ⟨w.heap.size, 1, none⟩ = some (.slice A xs.length c) := by simp [World.cell?, hx]
 have hlt := (Array.getElem?_eq_some_iff.1 hy).1
 clear hr hB hx hy
 go_enter Try.func24, Try.ntmps24
 go_wp2
 try rw [hW1]
 clear hW1
 refine start_ (n := 7) (S := fun w' => w'.cell? ⟨w.heap.size, 0, none⟩ = some (.int .i64 now) ∧ w'.cell? ⟨w.heap.size, 1, none⟩ = some (.slice A xs.length c)) (ds := [6]) #[false, false, false, false, false, false, false] (by kernel_rfl) rfl rfl ⟨b0, b1⟩ (fun hHeld => ?_)
 refine with_tabW ownT.tab ownT.bits (fun HT_ HW_ => ?_)
 refine pure_ (i := 0) (N := some 3) (v := ?_) (a' := ?_) #[true, false, false, false, false, false, false] rfl rfl (any_of HT_.out (by kernel_rfl)) (fun _ _ _ h => h) (Or.inl ⟨by rfl, ?_⟩) ?_ ?_
 rotate_left
 ·intro w'
  go_simp
  first | done | with_reducible rfl
 rotate_left
 ·simp only [Act.put, List.setIfInBounds_toArray, List.set_cons_zero, List.set_cons_succ, i64_w, i32_w]
  rfl
 refine pure_ (i := 2) (N := some 5) (v := ?_) (a' := ?_) #[true, false, true, false, false, false, false] rfl rfl (any_of HT_.out (by kernel_rfl)) (fun _ _ _ h => h) (Or.inl ⟨by rfl, ?_⟩) ?_ ?_
 rotate_left
 ·intro w'
  go_simp
  first | done | with_reducible rfl
 rotate_left
 ·simp only [Act.put, List.setIfInBounds_toArray, List.set_cons_zero, List.set_cons_succ, i64_w, i32_w]
  rfl
 refine take_ (i := 1) (N := some 4) (v := ?_) (a' := ?_) #[true, true, true, false, false, false, false] rfl rfl (take_ofW HT_.out HW_.out (by kernel_rfl)) (fun _ _ _ h => h) (Or.inl ⟨by rfl, ?_⟩) hHeld ?_ ?_
 rotate_left
 ·rintro w' ⟨q0, q1⟩
  go_simp
  first | done | with_reducible rfl
 rotate_left
 ·simp only [Act.put, List.setIfInBounds_toArray, List.set_cons_zero, List.set_cons_succ, i64_w, i32_w]
  rfl
 refine take_ (i := 3) (N := some 6) (v := ?_) (a' := ?_) #[true, true, true, true, false, false, false] rfl rfl (take_ofW HT_.out HW_.out (by kernel_rfl)) (fun _ _ _ h => h) (Or.inl ⟨by rfl, ?_⟩) hHeld ?_ ?_
 rotate_left
 ·rintro w' ⟨q0, q1⟩
  go_simp
  first | done | with_reducible rfl
 rotate_left
 ·simp only [Act.put, List.setIfInBounds_toArray, List.set_cons_zero, List.set_cons_succ, i64_w, i32_w]
  rfl
 refine one_ (i := 4) (N := some 7) #[true, true, true, true, true, false, false] rfl rfl (one_of HT_.out (by kernel_rfl)) (by decide) (fun K hK => ?_)
 refine goes_ Try.func36 (by kernel_rfl) rfl #[.slice A xs.length c] (by rfl) rfl rfl (by (try simp only [List.map_toArray, List.map_cons, List.map_nil]); first | done | rfl) ?_
 refine HC.out.mono ?_
 rintro e w3 ⟨v, rfl, ho3, hB3⟩
 refine ⟨_, rfl, ?_⟩
 obtain ⟨A8, c8, e8, _⟩ := own_slice ho3
 generalize hn8 : xs.length = n8 at e8
 have HX3 : w3.heap[w.heap.size]? = some (.cells #[.int .i64 now, .slice A xs.length c] 24 (0, 0)) := (hB3.block _ (by show w.heap.size < W1.heap.size; omega)).trans HX.out
 have HY3 : w3.heap[w.heap.size + 1]? = some (.cells #[.int .i64 0, .slice none 0 0] 24 (0, 0)) := (hB3.block _ (by show w.heap.size + 1 < W1.heap.size; omega)).trans HY.out
 have p0 : w3.cell? ⟨w.heap.size, 0, none⟩ = some (.int .i64 now) := by simp [World.cell?, HX3]
 have p1 : w3.cell? ⟨w.heap.size, 1, none⟩ = some (.slice A xs.length c) := by simp [World.cell?, HX3]
 have r0 : w3.cell? ⟨w.heap.size + 1, 0, none⟩ = some (.int .i64 0) := by simp [World.cell?, HY3]
 have r1 : w3.cell? ⟨w.heap.size + 1, 1, none⟩ = some (.slice none 0 0) := by simp [World.cell?, HY3]
 have rf0 : w3.frozen? ⟨w.heap.size + 1, 0, none⟩ = false := by simp [World.frozen?, HY3]
 have rf1 : w3.frozen? ⟨w.heap.size + 1, 1, none⟩ = false := by simp [World.frozen?, HY3]
 subst e8
 refine hK.out _ _ ⟨p0, p1⟩ (fun hHeld => ?_)
 clear hK K
 refine norm_ (a' := ?_) ?_ ?_
 rotate_left
 ·show Act.put _ (some 7) _ = _
  simp only [Act.put, List.setIfInBounds_toArray, List.set_cons_zero, List.set_cons_succ, i64_w, i32_w]
  rfl
 refine pure_ (i := 5) (N := some 8) (v := ?_) (a' := ?_) #[true, true, true, true, true, true, false] rfl rfl (any_of HT_.out (by kernel_rfl)) (fun _ _ _ h => h) (Or.inl ⟨by rfl, ?_⟩) ?_ ?_
 rotate_left
 ·intro w'
  go_simp
  first | done | with_reducible rfl
 rotate_left
 ·simp only [Act.put, List.setIfInBounds_toArray, List.set_cons_zero, List.set_cons_succ, i64_w, i32_w]
  rfl
 refine last_ (i := 6) (N := none) #[true, true, true, true, true, true, true] rfl rfl (one_of HT_.out (by kernel_rfl)) (by decide) (fun K hK => ?_)
 refine store_stepX (w1 := (w3.setCell ⟨w.heap.size + 1, 0, none⟩ (.int .i64 now)).setCell ⟨w.heap.size + 1, 1, none⟩ (.slice A8 n8 c8)) ?hg3 ?hr3 ?_
 case hg3 => rfl
 case hr3 => first | (go_simp; done) | (go_simp; rfl)
 refine hK.out _ _ ?_
 clear hK K
 refine done_ (done_of HT_.out (by kernel_rfl)) ?_
 have hg1 := grownBy_setCell' w3 (w.heap.size + 1) 0 (.int .i64 now)
 have hg2 := grownBy_setCell' (w3.setCell ⟨w.heap.size + 1, 0, none⟩ (.int .i64 now)) (w.heap.size + 1) 1 (.slice A8 n8 c8)
 have s1 := setCell_heap w3 (w.heap.size + 1) 0 (.int .i64 now) HY3
 have s2 := setCell_heap _ (w.heap.size + 1) 1 (.slice A8 n8 c8) s1
 have hne : (Value.slice A8 n8 c8).ownBlock ≠ some (w.heap.size + 1) := fun e => by
  have := (own_base ho3 _ e).1
  have h2 : W1.drew.heap.size = W1.heap.size := rfl
  omega
 have ho4 : Own1 _ w.heap.size (.slice A8 n8 c8) xs := own_weaken ((ho3.kept hg1 (.inr hne)).kept hg2 (.inr hne)) (by show w.heap.size ≤ W1.heap.size; omega)
 have hB4 := (((HB.out.trans (show Below w.heap.size W1 W1.drew from ⟨rfl, rfl, rfl, Nat.le_refl _, fun _ _ => rfl⟩)).trans (hB3.mono (by show w.heap.size ≤ W1.heap.size; omega))).setCell (p := ⟨w.heap.size + 1, 0, none⟩) (by simp) (.int .i64 now)).setCell (p := ⟨w.heap.size + 1, 1, none⟩) (by simp) (.slice A8 n8 c8)
 generalize hW4 : (w3.setCell ⟨w.heap.size + 1, 0, none⟩ (.int .i64 now)).setCell ⟨w.heap.size + 1, 1, none⟩ (.slice A8 n8 c8) = W4 at *
 have z0 : W4.cell? ⟨w.heap.size + 1, 0, none⟩ = some (.int .i64 now) := by simp [World.cell?, s2]
 have z1 : W4.cell? ⟨w.heap.size + 1, 1, none⟩ = some (.slice A8 n8 c8) := by simp [World.cell?, s2]
 go_wp2
 refine bodyPost_ret (v := .agg #[.int .i64 now, .slice A8 n8 c8]) (by simp [results, Try.f24, go_sem, z0, z1]) rfl ?_
 exact ⟨_, rfl, ho4, hB4⟩
end Go.Proofs.Ytggkealdbebbkaa.W10
end
section
namespace Go.Proofs.Ytggkealdbebbkaa.W10
-- part NF
open Go.RowKit Go.Proofs.YtggkealdbebbkaaW.PrintWords Go.Proofs.YtggkealdbebbkaaW.PrintLast Go.Proofs.YtggkealdbebbkaaW.PrintMore
set_option linter.unusedVariables false
set_option linter.unusedSimpArgs false
theorem index_empty (A : Option Addr) (c : Nat) (fv : Value) (w : World) : Calls Try.prog 39 #[.slice A 0 c, fv] w fun e w' => e = .returned (.int .i64 (-1)) ∧ Below w.heap.size w w' := by
 go_enter Try.func39, Try.ntmps39
 go_wp2
 refine wp_loop_rounds 1 ?_
 rw [rounds_succ]
 go_wp2
 go_ret
 exact ⟨rfl, by first | exact Below.refl _ _ | exact pw_below_drewN (Below.refl _ _) _⟩
theorem contains_ (A : Option Addr) (c : Nat) (xs : List T) (w : World) (id : Int) (cb : Nat) (hr : ReadsT w A xs) (hl : xs.length < 1000) (hcb : cb < w.heap.size) (hc : w.cell? ⟨cb, 0, none⟩ = some (.int .i64 id)) :
  Calls Try.prog 31 #[.slice A xs.length c, .func (.func 30) #[] #[.pointer (some ⟨cb, 0, none⟩)]] w fun e w' => e = .returned (.bool (xs.any fun x => x.1 == id)) ∧ Below w.heap.size w w' := by
 by_cases hx : xs = []
 ·subst hx
  have HI := Aside0.mk (index_empty A c (.func (.func 30) #[] #[.pointer (some ⟨cb, 0, none⟩)]) w)
  clear hr
  go_enter Try.func31, Try.ntmps31
  go_wp2_with (go_at_call 39; refine HI.out.mono ?_; rintro e w1 ⟨rfl, hb⟩)
  go_ret
  exact ⟨rfl, hb⟩
 ·obtain ⟨g, o, rfl, hg, hcs⟩ := hr.addr hx
  have hcon := AnyQ.slices_ContainsFunc Try.containsT 2 Try.isAgg33 Try.sizeOf33 enc2 (fun _ => rfl) (fun x => x.1 == id) 30 #[.pointer (some ⟨cb, 0, none⟩)] (enters_of Try.func30 (by kernel_rfl) rfl) g o xs.length c xs w
   (fun W x hb => ?_) (Nat.le_refl _) (by omega) hg (fun j hj i v hi => ?_)
  ·change Calls Try.prog 31 _ _ _ at hcon
   rw [List.take_length] at hcon
   exact hcon
  ·refine (pred30 x cb id W ((hb.cell (p := ⟨cb, 0, none⟩) hcb).trans hc) (Nat.lt_of_lt_of_le hcb hb.size)).mono ?_
   rintro e w' ⟨rfl, h⟩
   exact ⟨rfl, hb.trans (h.mono hb.size)⟩
  ·have hx : xs[j]? = some xs[j] := List.getElem?_eq_getElem hj
   have h2 := hcs j _ hx
   have hx2 : xs[j]! = xs[j] := by simp [hx]
   rw [hx2] at hi
   match i, hi with
   |0, hi => simp [enc2] at hi; subst hi; exact h2.1
   |1, hi => simp [enc2] at hi; subst hi; exact h2.2
   |i + 2, hi => simp [enc2] at hi
end Go.Proofs.Ytggkealdbebbkaa.W10
end
section
namespace Go.Proofs.Ytggkealdbebbkaa.W10
-- part NM
open Go.RowKit Go.Maps Go.Proofs.YtggkealdbebbkaaW.PrintWords Go.Proofs.YtggkealdbebbkaaW.PrintLast Go.Proofs.YtggkealdbebbkaaW.PrintMore
set_option linter.unusedVariables false
set_option linter.unusedSimpArgs false
theorem law3 : Keyed Try.prog 3 := int_keyed Try.underlying3
theorem zero3 (w : World) : (zeroValue 3).run Try.prog w = .ok (.int .i64 0) w := by kernel_rfl
/-- What the map of ids reads as: each id once. -/
def dat (ids : List Int) : DataW Unit := ids.foldl (fun D k => D.put (.int .i64 k) (.lit (.int .i64 1))) (.map [])
theorem dat_snoc (ids : List Int) (k : Int) : dat (ids ++ [k]) = (dat ids).put (.int .i64 k) (.lit (.int .i64 1)) := by simp [dat]
theorem dat_gen (k : Int) (z : DataW Unit) : ∀ (ids : List Int) (D : DataW Unit), Go.Maps.IsMap D → Go.Maps.IsMap (ids.foldl (fun D k => D.put (.int .i64 k) (.lit (.int .i64 1))) D) ∧ (ids.foldl (fun D k => D.put (.int .i64 k) (.lit (.int .i64 1))) D).atKey (.int .i64 k) z = if k ∈ ids then .lit (.int .i64 1) else D.atKey (.int .i64 k) z
 |[], D, h => ⟨h, by simp⟩
 |a :: r, D, h => by
  obtain ⟨h1, h2⟩ := dat_gen k z r (D.put (.int .i64 a) (.lit (.int .i64 1))) (h.put _ _)
  refine ⟨h1, ?_⟩
  rw [List.foldl_cons, h2]
  by_cases hr : k ∈ r
  ·simp [hr]
  ·by_cases ha : k = a
   ·subst ha
    rw [if_neg hr, atKey_put_same h (show Go.WideAt.IsKeyLit (.int .i64 k) from trivial)]
    simp
   ·rw [if_neg hr, atKey_put_other (by intro e; injection e with _ e; exact ha e)]
    simp [hr, ha]
theorem dat_map (ids : List Int) : Go.Maps.IsMap (dat ids) := (dat_gen 0 .nil ids _ isMap_empty).1
theorem dat_at (ids : List Int) (k : Int) (z : DataW Unit) : (dat ids).atKey (.int .i64 k) z = if k ∈ ids then .lit (.int .i64 1) else z := (dat_gen k z ids _ isMap_empty).2
abbrev maxTick : Int := 1073741824
def lastOf (now : Int) (xs : List T) (k : Nat) : T := if k = 0 then (maxTick, now) else xs.getD (k - 1) (0, 0)
def ids (xs : List T) (k : Nat) : List Int := (xs.take k).map (·.1)
/-- A timer may stand behind these. -/
def okB (now : Int) (xs : List T) (k : Nat) (x : T) : Bool := decide (now < x.2) && decide (x.2 ≤ maxTick) && decide (0 ≤ x.1) && decide (x.1 ∉ ids xs k) && (decide (k = 0) || decide (cf (lastOf now xs k) x < 0))
def mayB (now : Int) (xs : List T) : Bool := ((List.range xs.length).all fun k => okB now xs k (xs.getD k (0, 0))) && (decide (0 ≤ now) && (decide (now ≤ maxTick) && decide (xs.length ≤ 64)))
theorem mayB_no {now : Int} {xs : List T} {k : Nat} {x : T} (hx : xs[k]? = some x) (h : okB now xs k x = false) : mayB now xs = false := by
 have hk := (List.getElem?_eq_some_iff.1 hx).1
 unfold mayB
 rw [Bool.and_eq_false_iff]
 left
 rw [Bool.eq_false_iff]
 intro ha
 have := List.all_eq_true.1 ha k (List.mem_range.2 hk)
 simp [hx] at this
 rw [this] at h
 cases h
theorem mayB_yes {now : Int} {xs : List T} (h : ∀ k x, xs[k]? = some x → okB now xs k x = true) : mayB now xs = (decide (0 ≤ now) && (decide (now ≤ maxTick) && decide (xs.length ≤ 64))) := by
 unfold mayB
 rw [List.all_eq_true.2 (fun k hk => ?_), Bool.true_and]
 have hk' := List.mem_range.1 hk
 have hx : xs[k]? = some xs[k] := List.getElem?_eq_getElem hk'
 have := h k _ hx
 simpa [hx] using this
theorem lit_of_at {l : List Int} {k cc r : Int} (h : (dat l).atKey (.int .i64 k) (.lit (.int .i64 0)) = .lit (.int .i64 cc)) (hr : (if k ∈ l then (DataW.lit (.int .i64 1) : DataW Unit) else .lit (.int .i64 0)) = .lit (.int .i64 r)) : cc = r := by
 rw [dat_at, hr] at h
 injection h with h
 injection h with _ h
 exact h.symm
theorem Box2.fz {w : World} {g : Nat} {x : T} (h : Box2 w g x) (j : Nat) : w.frozen? ⟨g, j, none⟩ = false := by simp [World.frozen?, show w.heap[g]? = _ from h]
/-- What May leans on. -/
structure MS (W : World) (w : World) (now : Int) (A : Option Addr) (n c : Nat) (last : T) (k : Nat) (D : DataW Unit) : Prop where
 bp : W.heap[w.heap.size]? = some (.cells #[.int .i64 now, .slice A n c] 24 (0, 0))
 bl : Box2 W (w.heap.size + 1 + 1) last
 om : W.ownsMap Try.prog 3 (plainElem Try.prog 3) (w.heap.size + 1) k D
 below : Below w.heap.size w W
variable {W W1 w : World} {now : Int} {A : Option Addr} {n c : Nat} {last : T} {k : Nat} {D : DataW Unit}
theorem MS.kept (h : MS W w now A n c last k D) (hg : W.grownBy W1 none) : MS W1 w now A n c last k D :=
 ⟨(hg.block _ (Array.getElem?_eq_some_iff.1 h.bp).1 (by simp)).trans h.bp, h.bl.kept hg (by simp), h.om.kept hg (by simp), h.below.grown hg h.below.size (fun _ e => by cases e)⟩
theorem MS.put (h : MS W w now A n c last k D) (hg : W.grownBy W1 (some (w.heap.size + 1))) {k' : Nat} {D' : DataW Unit} (ho : W1.ownsMap Try.prog 3 (plainElem Try.prog 3) (w.heap.size + 1) k' D') : MS W1 w now A n c last k' D' :=
 ⟨(hg.block _ (Array.getElem?_eq_some_iff.1 h.bp).1 (by simp)).trans h.bp, h.bl.kept hg (by simp), ho, h.below.grown hg h.below.size (fun _ e => by cases e; omega)⟩
theorem MS.look {l : List Int} {q : Int} {x : Int} (h : MS W w now A n c last k ((dat l).put (.int .i64 x) (.lit (.int .i64 q)))) (hkey : keyOf Try.prog 3 (.int .i64 x) = some (.int .i64 x)) : (Instr.lookup 55 (.map (some (w.heap.size + 1))) (.int .i64 x) false).run Try.prog W = .ok (.int .i64 q) W := by
 obtain ⟨c2, hrun, hat, _⟩ := h.om.lookup_int law3 Try.underlying55 Try.underlying3 (zero3 _) hkey
 rw [atKey_put_same (dat_map _) (show Go.WideAt.IsKeyLit (.int .i64 x) from trivial)] at hat
 injection hat with hat
 injection hat with _ hat
 rw [hat]
 exact hrun
theorem MS.now_ (h : MS W w now A n c last k D) : W.cell? ⟨w.heap.size, 0, none⟩ = some (.int .i64 now) := by simp [World.cell?, h.bp]
theorem MS.t_ (h : MS W w now A n c last k D) : W.cell? ⟨w.heap.size, 1, none⟩ = some (.slice A n c) := by simp [World.cell?, h.bp]
theorem MS.setLast (h : MS W w now A n c last k D) (x : T) : MS ((W.setCell ⟨w.heap.size + 1 + 1, 0, none⟩ (.int .i64 x.1)).setCell ⟨w.heap.size + 1 + 1, 1, none⟩ (.int .i64 x.2)) w now A n c x k D := by
 have g1 := grownBy_setCell' W (w.heap.size + 1 + 1) 0 (.int .i64 x.1)
 have g2 := grownBy_setCell' (W.setCell ⟨w.heap.size + 1 + 1, 0, none⟩ (.int .i64 x.1)) (w.heap.size + 1 + 1) 1 (.int .i64 x.2)
 have s1 := setCell_heap W (w.heap.size + 1 + 1) 0 (.int .i64 x.1) h.bl
 have s2 := setCell_heap _ (w.heap.size + 1 + 1) 1 (.int .i64 x.2) s1
 have hlt := (Array.getElem?_eq_some_iff.1 h.bp).1
 have n1 : some w.heap.size ≠ some (w.heap.size + 1 + 1) := fun e => by injection e; omega
 refine ⟨?_, ?_, (h.om.kept g1 (by simp)).kept g2 (by simp), (h.below.setCell (p := ⟨w.heap.size + 1 + 1, 0, none⟩) (by show w.heap.size ≤ w.heap.size + 1 + 1; omega) _).setCell (p := ⟨w.heap.size + 1 + 1, 1, none⟩) (by show w.heap.size ≤ w.heap.size + 1 + 1; omega) _⟩
 ·have e1 := (g1.block _ hlt n1).trans h.bp
  exact (g2.block _ (Array.getElem?_eq_some_iff.1 e1).1 n1).trans e1
 ·unfold Box2
  rw [s2]
  simp
set_option maxHeartbeats 8000000 in
set_option maxRecDepth 100000 in
theorem may_ (now : Int) (A : Option Addr) (c : Nat) (xs : List T) (w : World) (hr : ReadsT w A xs) (hl : xs.length < 1000) (hwf : ∀ x ∈ xs, (Lit.int .i64 x.1).wf = true) :
  Calls Try.prog 23 #[.agg #[.int .i64 now, .slice A xs.length c]] w fun e w' => e = .returned (.bool (mayB now xs)) ∧ Below w.heap.size w w' := by
 have hu24 := Try.underlying24
 have hu33 := Try.underlying33
 have HR := Aside0.mk hr
 have HF := Aside0.mk hwf
 clear hr hwf
 have hmm := @run_makeMap Try.prog
 go_enter Try.func23, Try.ntmps23
 go_wp2
 obtain ⟨W0, hW0⟩ : ∃ W0, (((w.alloc (.cells #[.int .i64 now, .slice A xs.length c] 24)).alloc (.map #[] 0)).alloc (.cells #[.int .i64 1073741824, .int .i64 now] 33)) = W0 := ⟨_, rfl⟩
 have HM := Aside0.mk (show MS W0 w now A xs.length c (lastOf now xs 0) 0 (dat (ids xs 0)) by
  have k1 : ((w.alloc (.cells #[.int .i64 now, .slice A xs.length c] 24)).alloc (.map #[] 0)).ownsMap Try.prog 3 (plainElem Try.prog 3) (w.heap.size + 1) 0 (dat (ids xs 0)) := by
   have := World.ownsMap_made (H := Unit) (w.alloc (.cells #[.int .i64 now, .slice A xs.length c] 24)) Try.prog 3 (plainElem Try.prog 3)
   rw [World.size_alloc] at this
   exact this
  have k2 : Box2 W0 (w.heap.size + 1 + 1) (maxTick, now) := by
   rw [← hW0]
   have := Box2.new ((w.alloc (.cells #[.int .i64 now, .slice A xs.length c] 24)).alloc (.map #[] 0)) (maxTick, now)
   rw [World.size_alloc, World.size_alloc] at this
   exact this
  refine ⟨?_, k2, ?_, ?_⟩
  ·rw [← hW0]; exact blk_alloc (blk_alloc (blk_new w _) _) _
  ·rw [← hW0]; exact k1.kept (World.grownBy_alloc _ _ none) (by simp)
  ·rw [← hW0]; exact below_alloc (below_alloc (below_alloc (Below.refl _ _) _) _) _)
 try rw [hW0]
 clear hW0
 go_loopw [14] (fun i wr => ∃ k : Nat, k ≤ xs.length ∧ i = .int .i64 k ∧ Aside0 (MS wr w now A xs.length c (lastOf now xs k) k (dat (ids xs k))) ∧ Aside0 (∀ j x, j < k → xs[j]? = some x → okB now xs j x = true)) (fun i _ => xs.length - (intOf i).toNat)
 case atStart => exact ⟨0, Nat.zero_le _, rfl, HM, ⟨fun j x h => by omega⟩⟩
 case round =>
  obtain ⟨k, hk, rfl, HM1, HO1⟩ := hrel
  by_cases hlt : k < xs.length
  ·have hx : xs[k]? = some xs[k] := List.getElem?_eq_getElem hlt
   have hkey := keyOf_int_mk Try.underlying3 (HF.out xs[k] (List.getElem_mem hlt))
   generalize xs[k] = x at hx hkey
   obtain ⟨ad, rfl, hadl, hc0, hc1⟩ := (HR.out.below HM1.out.below) k x hx
   have HX := Aside0.mk hx
   have hids : ids xs (k + 1) = ids xs k ++ [x.1] := by unfold ids; rw [List.take_add_one, hx]; simp
   have hlast : lastOf now xs (k + 1) = x := by unfold lastOf; simp [hx]
   have HI := Aside0.mk hids
   have HL := Aside0.mk hlast
   have hga := World.grownBy_alloc wr (.cells #[.int .i64 x.1, .int .i64 x.2] 33) none
   have HMa := Aside0.mk (HM1.out.kept hga)
   have HXa := Aside0.mk (Box2.new wr x)
   have hne : wr.heap.size ≠ w.heap.size + 1 := by have := HM1.out.om.lt; omega
   clear hx hids hlast hga
   by_cases c1 : x.2 ≤ now
   ·have HZ := Aside0.mk (show okB now xs k x = false by unfold okB; rw [decide_eq_false (show ¬ now < x.2 by omega)]; simp)
    have d1 : decide (x.2 ≤ now) = true := decide_eq_true c1
    go_wp2_with (first
     |(at_lookup; refine wpList_lookup_own_int _ rfl _ _ 55 rfl 3 3 .i64 law3 Try.underlying55 Try.underlying3 (zero3 _) (w.heap.size + 1) k _ rfl HMa.out.om _ _ rfl hkey ?_; intro cc hat hwc)
     |(at_mapUpdate; refine wpList_mapUpdate_own _ rfl _ _ _ 55 rfl 3 3 law3 Try.underlying55 _ (w.heap.size + 1) k _ rfl HMa.out.om (by unfold maxLen; omega) _ _ _ rfl rfl hkey _ [] (plainElem_int Try.underlying3 (by first | exact wrap64_wf _ | decide)) ?_; intro w1 hown1 hgrow1; have HM2 := Aside0.mk (HMa.out.put hgrow1 hown1); have HX2 := Aside0.mk (HXa.out.kept hgrow1 (by simp [hne])); have y0 := HX2.out.c0; have y1 := HX2.out.c1; have n0 := HM2.out.now_; clear hown1 hgrow1))
    go_ret
    exact ⟨by rw [mayB_no HX.out HZ.out]; rfl, HM2.out.below⟩
   ·have d1 : decide (x.2 ≤ now) = false := decide_eq_false c1
    by_cases c2 : 1073741824 < x.2
    ·have HZ := Aside0.mk (show okB now xs k x = false by unfold okB; rw [decide_eq_false (show ¬ x.2 ≤ maxTick from fun h => by have : x.2 ≤ 1073741824 := h; omega)]; simp)
     have d2 : decide (1073741824 < x.2) = true := decide_eq_true c2
     go_wp2_with (first
      |(at_lookup; refine wpList_lookup_own_int _ rfl _ _ 55 rfl 3 3 .i64 law3 Try.underlying55 Try.underlying3 (zero3 _) (w.heap.size + 1) k _ rfl HMa.out.om _ _ rfl hkey ?_; intro cc hat hwc)
      |(at_mapUpdate; refine wpList_mapUpdate_own _ rfl _ _ _ 55 rfl 3 3 law3 Try.underlying55 _ (w.heap.size + 1) k _ rfl HMa.out.om (by unfold maxLen; omega) _ _ _ rfl rfl hkey _ [] (plainElem_int Try.underlying3 (by first | exact wrap64_wf _ | decide)) ?_; intro w1 hown1 hgrow1; have HM2 := Aside0.mk (HMa.out.put hgrow1 hown1); have HX2 := Aside0.mk (HXa.out.kept hgrow1 (by simp [hne])); have y0 := HX2.out.c0; have y1 := HX2.out.c1; have n0 := HM2.out.now_; clear hown1 hgrow1))
     go_ret
     exact ⟨by rw [mayB_no HX.out HZ.out]; rfl, HM2.out.below⟩
    ·have d2 : decide (1073741824 < x.2) = false := decide_eq_false c2
     by_cases c3 : x.1 < 0
     ·have HZ := Aside0.mk (show okB now xs k x = false by unfold okB; rw [decide_eq_false (show ¬ 0 ≤ x.1 by omega)]; simp)
      have d3 : decide (x.1 < 0) = true := decide_eq_true c3
      go_wp2_with (first
       |(at_lookup; refine wpList_lookup_own_int _ rfl _ _ 55 rfl 3 3 .i64 law3 Try.underlying55 Try.underlying3 (zero3 _) (w.heap.size + 1) k _ rfl HMa.out.om _ _ rfl hkey ?_; intro cc hat hwc)
       |(at_mapUpdate; refine wpList_mapUpdate_own _ rfl _ _ _ 55 rfl 3 3 law3 Try.underlying55 _ (w.heap.size + 1) k _ rfl HMa.out.om (by unfold maxLen; omega) _ _ _ rfl rfl hkey _ [] (plainElem_int Try.underlying3 (by first | exact wrap64_wf _ | decide)) ?_; intro w1 hown1 hgrow1; have HM2 := Aside0.mk (HMa.out.put hgrow1 hown1); have HX2 := Aside0.mk (HXa.out.kept hgrow1 (by simp [hne])); have y0 := HX2.out.c0; have y1 := HX2.out.c1; have n0 := HM2.out.now_; clear hown1 hgrow1))
      go_ret
      exact ⟨by rw [mayB_no HX.out HZ.out]; rfl, HM2.out.below⟩
     ·have d3 : decide (x.1 < 0) = false := decide_eq_false c3
      by_cases c4 : x.1 ∈ ids xs k
      ·have HZ := Aside0.mk (show okB now xs k x = false by unfold okB; rw [decide_eq_false (show ¬ (x.1 ∉ ids xs k) from fun h => h c4)]; simp)
       go_wp2_with (first
        |(at_lookup; refine wpList_lookup_own_int _ rfl _ _ 55 rfl 3 3 .i64 law3 Try.underlying55 Try.underlying3 (zero3 _) (w.heap.size + 1) k _ rfl HMa.out.om _ _ rfl hkey ?_; intro cc hat hwc; obtain rfl := lit_of_at hat (if_pos c4))
        |(at_mapUpdate; refine wpList_mapUpdate_own _ rfl _ _ _ 55 rfl 3 3 law3 Try.underlying55 _ (w.heap.size + 1) k _ rfl HMa.out.om (by unfold maxLen; omega) _ _ _ rfl rfl hkey _ [] (plainElem_int Try.underlying3 (by first | exact wrap64_wf _ | decide)) ?_; intro w1 hown1 hgrow1; have HM2 := Aside0.mk (HMa.out.put hgrow1 hown1); have HX2 := Aside0.mk (HXa.out.kept hgrow1 (by simp [hne])); have y0 := HX2.out.c0; have y1 := HX2.out.c1; have n0 := HM2.out.now_; have l0 := HM2.out.bl.c0; have l1 := HM2.out.bl.c1; have l2 := HM2.out.bl.fz 0; have l3 := HM2.out.bl.fz 1; have hrun2 := HM2.out.look hkey; clear hown1 hgrow1))
       go_ret
       exact ⟨by rw [mayB_no HX.out HZ.out]; rfl, HM2.out.below⟩
      ·have k1 : decide (now < x.2) = true := decide_eq_true (by omega)
       have k2 : decide (x.2 ≤ maxTick) = true := decide_eq_true (show x.2 ≤ 1073741824 by omega)
       have k3 : decide (0 ≤ x.1) = true := decide_eq_true (by omega)
       have k4 : decide (x.1 ∉ ids xs k) = true := decide_eq_true c4
       by_cases c5 : k = 0
       ·have HZ1 := Aside0.mk (show okB now xs k x = true by unfold okB; rw [k1, k2, k3, k4, decide_eq_true c5]; rfl)
        have dk : decide ((0 : Int) < (k : Int)) = false := decide_eq_false (by omega)
        have dk2 : decide (0 < k) = false := decide_eq_false (by omega)
        have dk3 : (0 < k) = False := eq_false (by omega)
        clear k1 k2 k3 k4 c5
        go_wp2_with (first
         |(at_lookup; refine wpList_lookup_own_int _ rfl _ _ 55 rfl 3 3 .i64 law3 Try.underlying55 Try.underlying3 (zero3 _) (w.heap.size + 1) k _ rfl HMa.out.om _ _ rfl hkey ?_; intro cc hat hwc; obtain rfl := lit_of_at hat (if_neg c4))
         |(at_mapUpdate; refine wpList_mapUpdate_own _ rfl _ _ _ 55 rfl 3 3 law3 Try.underlying55 _ (w.heap.size + 1) k _ rfl HMa.out.om (by unfold maxLen; omega) _ _ _ rfl rfl hkey _ [] (plainElem_int Try.underlying3 (by first | exact wrap64_wf _ | decide)) ?_; intro w1 hown1 hgrow1; have HM2 := Aside0.mk (HMa.out.put hgrow1 hown1); have HX2 := Aside0.mk (HXa.out.kept hgrow1 (by simp [hne])); have y0 := HX2.out.c0; have y1 := HX2.out.c1; have n0 := HM2.out.now_; have l0 := HM2.out.bl.c0; have l1 := HM2.out.bl.c1; have l2 := HM2.out.bl.fz 0; have l3 := HM2.out.bl.fz 1; have hrun2 := HM2.out.look hkey; clear hown1 hgrow1))
        go_roundw
        case rel => exact ⟨k + 1, by omega, by go_num, ⟨by have h := HM2.out.setLast x; rw [HI.out, HL.out, dat_snoc]; exact h⟩, ⟨fun j y hj hy => by
         by_cases e : j = k
         ·subst e; obtain rfl := Option.some.inj (HX.out.symm.trans hy); exact HZ1.out
         ·exact HO1.out j y (by omega) hy⟩⟩
        case measure => simp [intOf]; omega
       ·have dk : decide ((0 : Int) < (k : Int)) = true := decide_eq_true (by omega)
        by_cases c6 : cf (lastOf now xs k) x < 0
        ·have HZ1 := Aside0.mk (show okB now xs k x = true by unfold okB; rw [k1, k2, k3, k4, decide_eq_true c6]; simp)
         have d6 : decide (0 ≤ cf (lastOf now xs k) x) = false := decide_eq_false (by omega)
         clear k1 k2 k3 k4
         go_wp2_with (first
          |(at_lookup; refine wpList_lookup_own_int _ rfl _ _ 55 rfl 3 3 .i64 law3 Try.underlying55 Try.underlying3 (zero3 _) (w.heap.size + 1) k _ rfl HMa.out.om _ _ rfl hkey ?_; intro cc hat hwc; obtain rfl := lit_of_at hat (if_neg c4))
          |(at_mapUpdate; refine wpList_mapUpdate_own _ rfl _ _ _ 55 rfl 3 3 law3 Try.underlying55 _ (w.heap.size + 1) k _ rfl HMa.out.om (by unfold maxLen; omega) _ _ _ rfl rfl hkey _ [] (plainElem_int Try.underlying3 (by first | exact wrap64_wf _ | decide)) ?_; intro w1 hown1 hgrow1; have HM2 := Aside0.mk (HMa.out.put hgrow1 hown1); have HX2 := Aside0.mk (HXa.out.kept hgrow1 (by simp [hne])); have y0 := HX2.out.c0; have y1 := HX2.out.c1; have n0 := HM2.out.now_; have l0 := HM2.out.bl.c0; have l1 := HM2.out.bl.c1; have l2 := HM2.out.bl.fz 0; have l3 := HM2.out.bl.fz 1; have hrun2 := HM2.out.look hkey; clear hown1 hgrow1)
          |(go_at_call 35; refine (Q.wheel_order.calls 4 _ _ _ _ (cf (lastOf now xs k) x) _ (order_f (lastOf now xs k) x)).mono ?_; rintro e w5 ⟨rfl, hb⟩; have HM3 := Aside0.mk (HM2.out.kept (grown_of_below hb)); have HX3 := Aside0.mk (HX2.out.below hb); have z0 := HX3.out.c0; have z1 := HX3.out.c1; have m0 := HM3.out.bl.c0; have m1 := HM3.out.bl.c1; have m2 := HM3.out.bl.fz 0; have m3 := HM3.out.bl.fz 1; clear hb))
         go_roundw
         case rel => exact ⟨k + 1, by omega, by go_num, ⟨by have h := HM3.out.setLast x; rw [HI.out, HL.out, dat_snoc]; exact h⟩, ⟨fun j y hj hy => by
          by_cases e : j = k
          ·subst e; obtain rfl := Option.some.inj (HX.out.symm.trans hy); exact HZ1.out
          ·exact HO1.out j y (by omega) hy⟩⟩
         case measure => simp [intOf]; omega
        ·have HZ := Aside0.mk (show okB now xs k x = false by unfold okB; rw [decide_eq_false c5, decide_eq_false c6]; simp)
         have d6 : decide (0 ≤ cf (lastOf now xs k) x) = true := decide_eq_true (by omega)
         clear k1 k2 k3 k4
         go_wp2_with (first
          |(at_lookup; refine wpList_lookup_own_int _ rfl _ _ 55 rfl 3 3 .i64 law3 Try.underlying55 Try.underlying3 (zero3 _) (w.heap.size + 1) k _ rfl HMa.out.om _ _ rfl hkey ?_; intro cc hat hwc; obtain rfl := lit_of_at hat (if_neg c4))
          |(at_mapUpdate; refine wpList_mapUpdate_own _ rfl _ _ _ 55 rfl 3 3 law3 Try.underlying55 _ (w.heap.size + 1) k _ rfl HMa.out.om (by unfold maxLen; omega) _ _ _ rfl rfl hkey _ [] (plainElem_int Try.underlying3 (by first | exact wrap64_wf _ | decide)) ?_; intro w1 hown1 hgrow1; have HM2 := Aside0.mk (HMa.out.put hgrow1 hown1); have HX2 := Aside0.mk (HXa.out.kept hgrow1 (by simp [hne])); have y0 := HX2.out.c0; have y1 := HX2.out.c1; have n0 := HM2.out.now_; have l0 := HM2.out.bl.c0; have l1 := HM2.out.bl.c1; have l2 := HM2.out.bl.fz 0; have l3 := HM2.out.bl.fz 1; have hrun2 := HM2.out.look hkey; clear hown1 hgrow1)
          |(go_at_call 35; refine (Q.wheel_order.calls 4 _ _ _ _ (cf (lastOf now xs k) x) _ (order_f (lastOf now xs k) x)).mono ?_; rintro e w5 ⟨rfl, hb⟩; have HM3 := Aside0.mk (HM2.out.kept (grown_of_below hb)); have HX3 := Aside0.mk (HX2.out.below hb); have z0 := HX3.out.c0; have z1 := HX3.out.c1; have m0 := HM3.out.bl.c0; have m1 := HM3.out.bl.c1; have m2 := HM3.out.bl.fz 0; have m3 := HM3.out.bl.fz 1; clear hb))
         go_ret
         exact ⟨by rw [mayB_no HX.out HZ.out]; rfl, HM3.out.below⟩
  ·have : k = xs.length := by omega
   subst this
   have n0 := HM1.out.now_
   have n1 := HM1.out.t_
   have HY := Aside0.mk (mayB_yes (fun j x hj => HO1.out j x (List.getElem?_eq_some_iff.1 hj).1 hj))
   by_cases d1 : 0 ≤ now
   ·by_cases d2 : now ≤ 1073741824
    ·have e1 : decide (0 ≤ now) = true := decide_eq_true d1
     have e2 : decide (now ≤ 1073741824) = true := decide_eq_true d2
     go_wp2
     go_ret
     exact ⟨by rw [HY.out]; simp [d1, d2]; first | done | omega | rfl, HM1.out.below⟩
    ·have e1 : decide (0 ≤ now) = true := decide_eq_true d1
     have e2 : decide (now ≤ 1073741824) = false := decide_eq_false d2
     go_wp2
     go_ret
     exact ⟨by rw [HY.out]; have e3 : decide (now ≤ maxTick) = false := e2; rw [e1, e3]; rfl, HM1.out.below⟩
   ·have e1 : decide (0 ≤ now) = false := decide_eq_false d1
    go_wp2
    go_ret
    exact ⟨by rw [HY.out, e1]; rfl, HM1.out.below⟩
end Go.Proofs.Ytggkealdbebbkaa.W10
end
section
namespace Go.Proofs.Ytggkealdbebbkaa.W10
-- part NG
open Go.RowKit Go.Proofs.YtggkealdbebbkaaW.PrintWords Go.Proofs.YtggkealdbebbkaaW.PrintLast Go.Proofs.YtggkealdbebbkaaW.PrintMore
set_option linter.unusedVariables false
set_option linter.unusedSimpArgs false
theorem col_perm (p : T → Bool) (xs : List T) (h : ∀ x ∈ xs, slotN x.2 < 8) : (col p (slots xs) 8 0).Perm (xs.filter p) := by
 rw [col_zero]
 apply List.perm_iff_count.2
 intro a
 have key : ∀ j, List.count a ((slots xs j).filter p) = if slotN a.2 = j then List.count a (xs.filter p) else 0 := fun j => by
  by_cases s : slotN a.2 = j
  ·rw [if_pos s]
   cases hp : p a with
   |false => rw [List.count_eq_zero.2 (by simp [List.mem_filter, hp]), List.count_eq_zero.2 (by simp [List.mem_filter, hp])]
   |true => rw [List.count_filter hp, List.count_filter hp]; unfold slots; rw [List.count_filter (by simpa using s)]
  ·rw [if_neg s, List.count_eq_zero.2]
   unfold slots
   simp [List.mem_filter, s]
 have e : List.range 8 = [0, 1, 2, 3, 4, 5, 6, 7] := rfl
 simp only [e, List.flatMap_cons, List.flatMap_nil, List.count_append, List.count_nil, key]
 by_cases ha : a ∈ xs
 ·have := h a ha
  have hc : slotN a.2 = 0 ∨ slotN a.2 = 1 ∨ slotN a.2 = 2 ∨ slotN a.2 = 3 ∨ slotN a.2 = 4 ∨ slotN a.2 = 5 ∨ slotN a.2 = 6 ∨ slotN a.2 = 7 := by omega
  rcases hc with h | h | h | h | h | h | h | h <;> simp [h]
 ·rw [List.count_eq_zero.2 (by simp [List.mem_filter, ha])]
  simp
theorem sortT_perm (xs : List T) : (sortT xs).Perm xs := List.mergeSort_perm _ _
theorem wraps_i64 (n : Int) (h₀ : 0 ≤ n) (h₁ : n < 2 ^ 62) : IntKind.i64.wrap n = n := by rw [IntKind.wrap_i64]; omega
theorem atOk_of {x : T} (h0 : 0 ≤ x.2) (h1 : x.2 < 2 ^ 62) : AtOk x := by
 unfold AtOk
 have := bits_mask .i64 62 (by decide) wraps_i64 3 (by decide) x.2 h0 h1
 have e : Go.bits .and .i64 x.2 7 = x.2 % 8 := this
 rw [e]
 omega
theorem mayB_at {now : Int} {xs : List T} (h : mayB now xs = true) : (∀ x ∈ xs, AtOk x) ∧ xs.length ≤ 64 := by
 unfold mayB at h
 simp only [Bool.and_eq_true, decide_eq_true_eq] at h
 obtain ⟨ha, hn, hm, hl⟩ := h
 refine ⟨fun x hx => ?_, hl⟩
 obtain ⟨k, hk, rfl⟩ := List.mem_iff_getElem.1 hx
 have := List.all_eq_true.1 ha k (List.mem_range.2 hk)
 have e : xs.getD k (0, 0) = xs[k] := by simp [List.getElem?_eq_getElem hk]
 rw [e] at this
 unfold okB at this
 simp only [Bool.and_eq_true, decide_eq_true_eq] at this
 obtain ⟨⟨⟨⟨h1, h2⟩, h3⟩, h4⟩, h5⟩ := this
 have h2' : xs[k].2 ≤ 1073741824 := h2
 exact atOk_of (by omega) (by omega)
/-- A row of timers is no block of another type. -/
theorem own_type {W : World} {base g t : Nat} {cs : Array Value} {v : Value} {xs : List T} (ho : Own1 W base v xs) (h : W.heap[g]? = some (.cells cs t (0, 0))) (ht : t ≠ 33) : v.ownBlock ≠ some g := by
 rcases ho.2 with ⟨rfl, _⟩ | ⟨g', cap, cur, rfl, _, hgb, _⟩
 ·simp [Value.ownBlock]
 ·intro e
  obtain rfl : g' = g := by simpa [Value.ownBlock] using e
  have := h.symm.trans hgb
  simp at this
  exact ht this.2
/-- The result's cells written. -/
def put2 (W : World) (rb : Nat) (a v : Value) : World := (W.setCell ⟨rb, 0, none⟩ a).setCell ⟨rb, 1, none⟩ v
theorem put2_heap {W : World} {rb : Nat} {u0 u1 a v : Value} (h : W.heap[rb]? = some (.cells #[u0, u1] 24 (0, 0))) : (put2 W rb a v).heap[rb]? = some (.cells #[a, v] 24 (0, 0)) := by
 have s1 := setCell_heap W rb 0 a h
 have s2 := setCell_heap _ rb 1 v s1
 unfold put2
 rw [s2]
 simp
theorem put2_own {W : World} {rb : Nat} {u0 u1 a v : Value} (h : W.heap[rb]? = some (.cells #[u0, u1] 24 (0, 0))) {base : Nat} {x : Value} {xs : List T} (ho : Own1 W base x xs) : Own1 (put2 W rb a v) base x xs := by
 have hne := own_type ho h (by decide)
 exact (World.ownsRow.kept ho (grownBy_setCell' W rb 0 a) (.inr hne)).kept (grownBy_setCell' _ rb 1 v) (.inr hne)
theorem put2_below {W w : World} {rb n : Nat} {a v : Value} (h : Below n w W) (hn : n ≤ rb) : Below n w (put2 W rb a v) := (h.setCell (p := ⟨rb, 0, none⟩) hn a).setCell (p := ⟨rb, 1, none⟩) hn v
theorem own_form {w : World} {base : Nat} {v : Value} {xs : List T} (h : Own1 w base v xs) : ∃ A n c, v = .slice A n c := by
 obtain ⟨A, c, e, _⟩ := own_slice h
 exact ⟨_, _, _, e⟩
/-- The parameter's block, and the result's. -/
structure ST (W w : World) (now : Int) (A : Option Addr) (n c : Nat) : Prop where
 bx : W.heap[w.heap.size]? = some (.cells #[.int .i64 now, .slice A n c] 24 (0, 0))
 rs : W.heap[w.heap.size + 1]? = some (.cells #[.int .i64 0, .slice none 0 0] 24 (0, 0))
 bl : Below w.heap.size w W
section
variable {W W1 w : World} {now : Int} {A : Option Addr} {n c : Nat}
theorem ST.start (w : World) (now : Int) (A : Option Addr) (n c : Nat) : ST ((w.alloc (.cells #[.int .i64 now, .slice A n c] 24)).alloc (.cells #[.int .i64 0, .slice none 0 0] 24)) w now A n c := by
 refine ⟨blk_alloc (blk_new w _) _, ?_, below_alloc (below_alloc (Below.refl _ _) _) _⟩
 have := blk_new (w.alloc (.cells #[.int .i64 now, .slice A n c] 24)) (.cells #[.int .i64 0, .slice none 0 0] 24)
 rw [World.size_alloc] at this
 exact this
theorem ST.lt (h : ST W w now A n c) : w.heap.size + 1 < W.heap.size := (Array.getElem?_eq_some_iff.1 h.rs).1
theorem ST.kept (h : ST W w now A n c) {m : Nat} (hb : Below m W W1) (hm : w.heap.size + 1 < m) : ST W1 w now A n c :=
 ⟨(hb.block _ (by omega)).trans h.bx, (hb.block _ hm).trans h.rs, h.bl.trans (hb.mono (by omega))⟩
theorem ST.b0 (h : ST W w now A n c) : W.cell? ⟨w.heap.size, 0, none⟩ = some (.int .i64 now) := by simp [World.cell?, h.bx]
theorem ST.b1 (h : ST W w now A n c) : W.cell? ⟨w.heap.size, 1, none⟩ = some (.slice A n c) := by simp [World.cell?, h.bx]
theorem ST.r0 (h : ST W w now A n c) : W.cell? ⟨w.heap.size + 1, 0, none⟩ = some (.int .i64 0) := by simp [World.cell?, h.rs]
theorem ST.r1 (h : ST W w now A n c) : W.cell? ⟨w.heap.size + 1, 1, none⟩ = some (.slice none 0 0) := by simp [World.cell?, h.rs]
theorem ST.rf (h : ST W w now A n c) (j : Nat) : W.frozen? ⟨w.heap.size + 1, j, none⟩ = false := by simp [World.frozen?, h.rs]
end
/-- What is due, and what is left: by a predicate. -/
def pick (p : T → Bool) (xs : List T) : List T := sortT (col p (slots xs) 8 0)
def stepR (now : Int) (xs : List T) (tt : Int) : Int × List T × List T × Int :=
 if mayB now xs then (if tt < now ∨ tt > maxTick then (now, xs, [], 10) else (tt, pick (fun x => !decide (x.2 ≤ tt)) xs, pick (fun x => decide (x.2 ≤ tt)) xs, 0)) else (now, xs, [], 1)
theorem pick_len {p : T → Bool} {xs : List T} (h : ∀ x ∈ xs, AtOk x) : (pick p xs).length ≤ xs.length := by
 unfold pick
 rw [sortT_len, (col_perm p xs (fun x hx => (h x hx).lt)).length_eq]
 exact List.length_filter_le _ _
theorem pick_eq {p q : T → Bool} {ls ls' : Nat → List T} (h : ∀ j, j < 8 → (ls j).filter p = (ls' j).filter q) : col p ls 8 0 = col q ls' 8 0 := by
 rw [col_zero, col_zero]
 have e : List.range 8 = [0, 1, 2, 3, 4, 5, 6, 7] := rfl
 simp only [e, List.flatMap_cons, List.flatMap_nil]
 rw [h 0 (by decide), h 1 (by decide), h 2 (by decide), h 3 (by decide), h 4 (by decide), h 5 (by decide), h 6 (by decide), h 7 (by decide)]
/-- What is taken is laid by (row 10); the rest is taken whole. -/
structure Half (W : World) (b B : Nat) (now : Int) (p : T → Bool) (xs : List T) (V : Nat → Value) : Prop where
 hub : HubC W b now V
 rows : Rows W B V (Lst p (slots xs) 8 (sortT (col p (slots xs) 8 0)) [])
 nine : V 9 = nilS
 rest : ∀ j, 10 ≤ j → V j = nilS
def lsB (p : T → Bool) (xs : List T) : Nat → List T := upd (upd (Lst p (slots xs) 8 (sortT (col p (slots xs) 8 0)) []) 10 (pick p xs)) 8 []
theorem lsB_col (p : T → Bool) (xs : List T) : sortT (col (fun _ => true) (lsB p xs) 8 0) = pick (fun x => !p x) xs := by
 unfold pick
 congr 1
 refine pick_eq fun j hj => ?_
 unfold lsB
 rw [upd_other _ _ (by omega), upd_other _ _ (by omega)]
 unfold Lst
 rw [if_pos hj]
 simp
theorem lsB_len {p : T → Bool} {xs : List T} (h : ∀ x ∈ xs, AtOk x) (hl : xs.length ≤ 64) (j : Nat) : (lsB p xs j).length ≤ 100 := by
 unfold lsB
 by_cases e8 : j = 8
 ·subst e8; rw [upd_same]; simp
 ·rw [upd_other _ _ e8]
  by_cases e10 : j = 10
  ·subst e10; rw [upd_same]; have := pick_len (p := p) h; omega
  ·rw [upd_other _ _ e10]
   unfold Lst
   have h1 := slots_len xs j
   have h2 := List.length_filter_le (fun x => !p x) (slots xs j)
   split
   ·omega
   ·split
    ·simp
    ·omega
theorem Half.wheel {W : World} {b B : Nat} {now : Int} {p : T → Bool} {xs : List T} {V : Nat → Value} (h : Half W b B now p xs V) (hB : B ≤ b) (ha : ∀ x ∈ xs, AtOk x) (hl : xs.length ≤ 64) :
  Calls Try.prog 28 #[.pointer (some ⟨b, 0, none⟩)] W fun e w' => ∃ v, e = .returned (.agg #[.int .i64 now, v]) ∧ Own1 w' B v (pick (fun x => !p x) xs) ∧ Own1 w' B (V 8) (pick p xs) ∧ Apart2 v (V 8) ∧ Below B W w' := by
 have hm := h.rows.move (i := 10) (j := 8) (by decide)
 have e0 : upd (upd (Lst p (slots xs) 8 (sortT (col p (slots xs) 8 0)) []) 10 (Lst p (slots xs) 8 (sortT (col p (slots xs) 8 0)) [] 8)) 8 [] = lsB p xs := by rw [Lst_8 (Nat.le_refl _)]; rfl
 rw [e0] at hm
 have hH : HubC W b now (upd (upd V 10 (V 8)) 8 nilS) := h.hub.congr fun j hj => by rw [upd_other _ _ (by omega), upd_other _ _ (by omega)]
 refine (wheel_ hH hm (upd_same _ _ _) (by rw [upd_other _ _ (by decide), upd_other _ _ (by decide)]; exact h.nine) hB (lsB_len ha hl)).mono ?_
 rintro e w' ⟨V', rfl, hH', hR', h9', hV', hB'⟩
 have e10 : V' 10 = V 8 := by rw [hV' 10 (Nat.le_refl _), upd_other _ _ (by decide), upd_same]
 refine ⟨V' 8, rfl, ?_, ?_, ?_, hB'⟩
 ·have := hR'.own 8
  rw [Lst_8 (Nat.le_refl _), lsB_col] at this
  exact this
 ·have := hR'.own 10
  rw [e10] at this
  have e : Lst (fun _ => true) (lsB p xs) 8 (sortT (col (fun _ => true) (lsB p xs) 8 0)) [] 10 = pick p xs := by
   unfold Lst lsB
   simp [upd]
  rw [e] at this
  exact this
 ·rw [← e10]
  exact hR'.apart 8 10 (by decide)
end Go.Proofs.Ytggkealdbebbkaa.W10
end
section
namespace Go.Proofs.Ytggkealdbebbkaa.W10
-- part NI
open Go.RowKit Go.Proofs.YtggkealdbebbkaaW.PrintWords Go.Proofs.YtggkealdbebbkaaW.PrintLast Go.Proofs.YtggkealdbebbkaaW.PrintMore
set_option linter.unusedVariables false
set_option linter.unusedSimpArgs false
theorem take27_ {W : World} {b B pb : Nat} {tt : Int} {vs : Nat → Value} {xs : List T} {po : Obj} (hH : HubC W b tt vs) (hR : Rows W B vs (slots xs)) (hN : ∀ j, 8 ≤ j → vs j = nilS) (hB : B ≤ b) (hl : xs.length ≤ 64) (hp : W.heap[pb]? = some po) (hpB : pb < B) :
  Calls Try.prog 26 #[.pointer (some ⟨b, 0, none⟩), .func (.func 27) #[.pointer (some ⟨b, 0, none⟩)] #[]] W fun e w' => ∃ V : Nat → Value, e = .returned (V 8) ∧ Half w' b B tt (fun x => decide (x.2 ≤ tt)) xs V ∧ Below B W w' := by
 refine (take_27 (cb := 0) (fun x => decide (x.2 ≤ tt)) hH hR (hN 8 (by decide)) (hN 9 (by decide)) hB (fun j => by have := slots_len xs j; omega) pb po ⟨hp, fun j e => by have := (own_base (hR.own j) _ e).1; omega⟩ (by omega) (fun x W' _ hc hlt => pred27 x b tt W' hc hlt)).mono ?_
 rintro e w' ⟨V, rfl, hH', hR', h9, hV, hb, _⟩
 exact ⟨V, rfl, ⟨hH', hR', h9, fun j hj => (hV j hj).trans (hN j (by omega))⟩, hb⟩
set_option maxHeartbeats 8000000 in
set_option maxRecDepth 100000 in
theorem step_ok (now : Int) (A : Option Addr) (c : Nat) (xs : List T) (tt : Int) (w : World) (hr : ReadsT w A xs) (hc : xs.length ≤ c) (hl : xs.length < 1000) (hwf : ∀ x ∈ xs, (Lit.int .i64 x.1).wf = true) (hM : mayB now xs = true) (h1 : ¬ tt < now) (h2 : ¬ tt > maxTick) :
  Calls Try.prog 11 #[.agg #[.int .i64 now, .slice A xs.length c], .int .i64 tt] w fun e w' => ∃ v1 v2, e = .returned (.tuple #[.agg #[.int .i64 tt, v1], v2, .int .i64 0]) ∧ Own1 w' w.heap.size v1 (pick (fun x => !decide (x.2 ≤ tt)) xs) ∧ Own1 w' w.heap.size v2 (pick (fun x => decide (x.2 ≤ tt)) xs) ∧ Apart2 v1 v2 ∧ Below w.heap.size w w' := by
 have hu24 := Try.underlying24
 have hu48 := Try.underlying48
 obtain ⟨hat, h64⟩ := mayB_at hM
 have HAt := Aside0.mk hat
 have HMay := Aside0.mk (fun W hb => may_ now A c xs W (hr.below (w1 := W) hb) hl hwf)
 have HOpen := Aside0.mk (fun W hb => open_ now A c xs W (hr.below (w1 := W) hb) hc hl hat)
 have HWh := Aside0.mk (fun (W : World) (b B : Nat) (V : Nat → Value) (h : Half W b B tt (fun x => decide (x.2 ≤ tt)) xs V) (hB : B ≤ b) => h.wheel hB hat h64)
 rw [hM] at HMay
 clear hr hwf hM hat
 have e1 : decide (tt < now) = false := decide_eq_false h1
 have e2 : decide (1073741824 < tt) = false := decide_eq_false h2
 go_enter Try.func11, Try.ntmps11
 go_wp2_with (first
  |(go_at_call 23; refine (HMay.out _ (ST.start w now A xs.length c).bl).mono ?_; rintro e w1 ⟨rfl, hb⟩; have HS1 := Aside0.mk ((ST.start w now A xs.length c).kept hb (ST.start w now A xs.length c).lt); have b0 := HS1.out.b0; have b1 := HS1.out.b1; clear hb)
  |(go_at_call 25; refine (HOpen.out _ HS1.out.bl).mono ?_; rintro e w2 ⟨b, vs, rfl, hbb, hH2, hR2, hN2, hb⟩; have HS2 := Aside0.mk (HS1.out.kept hb HS1.out.lt); have HH2 := Aside0.mk hH2; have HR2 := Aside0.mk hR2; have HN2 := Aside0.mk hN2; have HG2 := Aside0.mk (And.intro hbb HS1.out.lt); have f0 := hH2.frozen 0; have f1 := hH2.now_; clear hb hbb hH2 hR2 hN2)
  |(go_at_call 26; have hs := HS2.out.kept (m := w1.heap.size) ((Below.refl _ _).setCell (p := ⟨b, 0, none⟩) HG2.out.1 (.int .i64 tt)) HG2.out.2; refine (take27_ (HH2.out.setNow tt) (HR2.out.keptBut (grownBy_setCell' w2 b 0 (.int .i64 tt)) (fun j => HH2.out.not_row (HR2.out.own j))) HN2.out HG2.out.1 h64 hs.rs HG2.out.2).mono ?_; rintro e w3 ⟨V, rfl, hF, hb⟩; have HS3 := Aside0.mk (hs.kept hb HG2.out.2); have HF3 := Aside0.mk hF; clear hs hb hF)
  |(go_at_call 28; refine (HWh.out _ _ _ V HF3.out HG2.out.1).mono ?_; rintro e w4 ⟨v, rfl, ho1, ho2, hap, hb⟩; obtain ⟨A8, n8, c8, rfl⟩ : ∃ A n c, v = .slice A n c := own_form ho1; have HS4 := Aside0.mk (HS3.out.kept hb HG2.out.2); have hle : w.heap.size ≤ w1.heap.size := (by have := HG2.out.2; omega); have HO1 := Aside0.mk (own_weaken ho1 hle); have HO2 := Aside0.mk (own_weaken ho2 hle); have HAp := Aside0.mk hap; have r0 := HS4.out.r0; have r1 := HS4.out.r1; have f2 := HS4.out.rf 0; have f3 := HS4.out.rf 1; clear hb ho1 ho2 hap hle))
 have hW := put2_heap (a := .int .i64 tt) (v := .slice A8 n8 c8) HS4.out.rs
 have hO := put2_own (a := .int .i64 tt) (v := .slice A8 n8 c8) HS4.out.rs HO1.out
 have hO2 := put2_own (a := .int .i64 tt) (v := .slice A8 n8 c8) HS4.out.rs HO2.out
 have hB := put2_below (a := .int .i64 tt) (v := .slice A8 n8 c8) (rb := w.heap.size + 1) HS4.out.bl (by omega)
 unfold put2 at hW hO hO2 hB
 generalize hW4 : (w4.setCell ⟨w.heap.size + 1, 0, none⟩ (.int .i64 tt)).setCell ⟨w.heap.size + 1, 1, none⟩ (.slice A8 n8 c8) = W4 at *
 have z0 : W4.cell? ⟨w.heap.size + 1, 0, none⟩ = some (.int .i64 tt) := by simp [World.cell?, hW]
 have z1 : W4.cell? ⟨w.heap.size + 1, 1, none⟩ = some (.slice A8 n8 c8) := by simp [World.cell?, hW]
 refine bodyPost_ret (v := .tuple #[.agg #[.int .i64 tt, .slice A8 n8 c8], V 8, .int .i64 0]) (by simp [results, Try.f11, go_sem, z0, z1]) rfl ?_
 exact ⟨_, _, rfl, hO, hO2, HAp.out, hB⟩
set_option maxHeartbeats 8000000 in
set_option maxRecDepth 100000 in
theorem step_ (now : Int) (A : Option Addr) (c : Nat) (xs : List T) (tt : Int) (w : World) (hr : ReadsT w A xs) (hc : xs.length ≤ c) (hl : xs.length < 1000) (hwf : ∀ x ∈ xs, (Lit.int .i64 x.1).wf = true) :
  Calls Try.prog 11 #[.agg #[.int .i64 now, .slice A xs.length c], .int .i64 tt] w fun e w' => ∃ v1 v2, e = .returned (.tuple #[.agg #[.int .i64 (stepR now xs tt).1, v1], v2, .int .i64 (stepR now xs tt).2.2.2]) ∧ Own1 w' w.heap.size v1 (stepR now xs tt).2.1 ∧ Own1 w' w.heap.size v2 (stepR now xs tt).2.2.1 ∧ Apart2 v1 v2 ∧ Below w.heap.size w w' := by
 have hu24 := Try.underlying24
 have hu48 := Try.underlying48
 have HR := Aside0.mk hr
 have HMay := Aside0.mk (fun W hb => may_ now A c xs W (hr.below (w1 := W) hb) hl hwf)
 have HOwn := Aside0.mk (fun W hb => own_ now A c xs W (hr.below (w1 := W) hb) hl)
 have HOk := Aside0.mk (step_ok now A c xs tt w hr hc hl hwf)
 clear hr hwf
 cases hM : mayB now xs with
 |false =>
  have hS : stepR now xs tt = (now, xs, [], 1) := by unfold stepR; rw [hM]; rfl
  rw [hS]
  rw [hM] at HMay
  clear hS hM
  go_enter Try.func11, Try.ntmps11
  go_wp2_with (first
   |(go_at_call 23; refine (HMay.out _ (ST.start w now A xs.length c).bl).mono ?_; rintro e w1 ⟨rfl, hb⟩; have HS1 := Aside0.mk ((ST.start w now A xs.length c).kept hb (ST.start w now A xs.length c).lt); have b0 := HS1.out.b0; have b1 := HS1.out.b1; clear hb)
   |(go_at_call 24; refine (HOwn.out _ HS1.out.bl).mono ?_; rintro e w2 ⟨v, rfl, ho, hb⟩; obtain ⟨A8, n8, c8, rfl⟩ : ∃ A n c, v = .slice A n c := own_form ho; have HS2 := Aside0.mk (HS1.out.kept hb HS1.out.lt); have HO2 := Aside0.mk (own_weaken ho (Nat.le_of_lt (Nat.lt_of_succ_lt HS1.out.lt))); have r0 := HS2.out.r0; have r1 := HS2.out.r1; have f0 := HS2.out.rf 0; have f1 := HS2.out.rf 1; clear ho hb))
  have hW := put2_heap (a := .int .i64 now) (v := .slice A8 n8 c8) HS2.out.rs
  have hO := put2_own (a := .int .i64 now) (v := .slice A8 n8 c8) HS2.out.rs HO2.out
  have hB := put2_below (a := .int .i64 now) (v := .slice A8 n8 c8) (rb := w.heap.size + 1) HS2.out.bl (by omega)
  unfold put2 at hW hO hB
  generalize hW4 : (w2.setCell ⟨w.heap.size + 1, 0, none⟩ (.int .i64 now)).setCell ⟨w.heap.size + 1, 1, none⟩ (.slice A8 n8 c8) = W4 at *
  have z0 : W4.cell? ⟨w.heap.size + 1, 0, none⟩ = some (.int .i64 now) := by simp [World.cell?, hW]
  have z1 : W4.cell? ⟨w.heap.size + 1, 1, none⟩ = some (.slice A8 n8 c8) := by simp [World.cell?, hW]
  refine bodyPost_ret (v := .tuple #[.agg #[.int .i64 now, .slice A8 n8 c8], .slice none 0 0, .int .i64 1]) (by simp [results, Try.f11, go_sem, z0, z1]) rfl ?_
  exact ⟨_, _, rfl, hO, own_nil _ _, Apart2.symm (.inl rfl), hB⟩
 |true =>
  rw [hM] at HMay
  by_cases hto : tt < now ∨ tt > maxTick
  ·have hS : stepR now xs tt = (now, xs, [], 10) := by unfold stepR; rw [hM, if_pos rfl, if_pos hto]
   rw [hS]
   clear hS hM
   have hto' : tt < now ∨ 1073741824 < tt := hto
   clear hto
   by_cases d1 : tt < now
   ·have e1 : decide (tt < now) = true := decide_eq_true d1
    go_enter Try.func11, Try.ntmps11
    go_wp2_with (first
     |(go_at_call 23; refine (HMay.out _ (ST.start w now A xs.length c).bl).mono ?_; rintro e w1 ⟨rfl, hb⟩; have HS1 := Aside0.mk ((ST.start w now A xs.length c).kept hb (ST.start w now A xs.length c).lt); have b0 := HS1.out.b0; have b1 := HS1.out.b1; clear hb)
     |(go_at_call 24; refine (HOwn.out _ HS1.out.bl).mono ?_; rintro e w2 ⟨v, rfl, ho, hb⟩; obtain ⟨A8, n8, c8, rfl⟩ : ∃ A n c, v = .slice A n c := own_form ho; have HS2 := Aside0.mk (HS1.out.kept hb HS1.out.lt); have HO2 := Aside0.mk (own_weaken ho (Nat.le_of_lt (Nat.lt_of_succ_lt HS1.out.lt))); have r0 := HS2.out.r0; have r1 := HS2.out.r1; have f0 := HS2.out.rf 0; have f1 := HS2.out.rf 1; clear ho hb))
    have hW := put2_heap (a := .int .i64 now) (v := .slice A8 n8 c8) HS2.out.rs
    have hO := put2_own (a := .int .i64 now) (v := .slice A8 n8 c8) HS2.out.rs HO2.out
    have hB := put2_below (a := .int .i64 now) (v := .slice A8 n8 c8) (rb := w.heap.size + 1) HS2.out.bl (by omega)
    unfold put2 at hW hO hB
    generalize hW4 : (w2.setCell ⟨w.heap.size + 1, 0, none⟩ (.int .i64 now)).setCell ⟨w.heap.size + 1, 1, none⟩ (.slice A8 n8 c8) = W4 at *
    have z0 : W4.cell? ⟨w.heap.size + 1, 0, none⟩ = some (.int .i64 now) := by simp [World.cell?, hW]
    have z1 : W4.cell? ⟨w.heap.size + 1, 1, none⟩ = some (.slice A8 n8 c8) := by simp [World.cell?, hW]
    refine bodyPost_ret (v := .tuple #[.agg #[.int .i64 now, .slice A8 n8 c8], .slice none 0 0, .int .i64 10]) (by simp [results, Try.f11, go_sem, z0, z1]) rfl ?_
    exact ⟨_, _, rfl, hO, own_nil _ _, Apart2.symm (.inl rfl), hB⟩
   ·have e1 : decide (tt < now) = false := decide_eq_false d1
    have e2 : decide (1073741824 < tt) = true := decide_eq_true (by omega)
    go_enter Try.func11, Try.ntmps11
    go_wp2_with (first
     |(go_at_call 23; refine (HMay.out _ (ST.start w now A xs.length c).bl).mono ?_; rintro e w1 ⟨rfl, hb⟩; have HS1 := Aside0.mk ((ST.start w now A xs.length c).kept hb (ST.start w now A xs.length c).lt); have b0 := HS1.out.b0; have b1 := HS1.out.b1; clear hb)
     |(go_at_call 24; refine (HOwn.out _ HS1.out.bl).mono ?_; rintro e w2 ⟨v, rfl, ho, hb⟩; obtain ⟨A8, n8, c8, rfl⟩ : ∃ A n c, v = .slice A n c := own_form ho; have HS2 := Aside0.mk (HS1.out.kept hb HS1.out.lt); have HO2 := Aside0.mk (own_weaken ho (Nat.le_of_lt (Nat.lt_of_succ_lt HS1.out.lt))); have r0 := HS2.out.r0; have r1 := HS2.out.r1; have f0 := HS2.out.rf 0; have f1 := HS2.out.rf 1; clear ho hb))
    have hW := put2_heap (a := .int .i64 now) (v := .slice A8 n8 c8) HS2.out.rs
    have hO := put2_own (a := .int .i64 now) (v := .slice A8 n8 c8) HS2.out.rs HO2.out
    have hB := put2_below (a := .int .i64 now) (v := .slice A8 n8 c8) (rb := w.heap.size + 1) HS2.out.bl (by omega)
    unfold put2 at hW hO hB
    generalize hW4 : (w2.setCell ⟨w.heap.size + 1, 0, none⟩ (.int .i64 now)).setCell ⟨w.heap.size + 1, 1, none⟩ (.slice A8 n8 c8) = W4 at *
    have z0 : W4.cell? ⟨w.heap.size + 1, 0, none⟩ = some (.int .i64 now) := by simp [World.cell?, hW]
    have z1 : W4.cell? ⟨w.heap.size + 1, 1, none⟩ = some (.slice A8 n8 c8) := by simp [World.cell?, hW]
    refine bodyPost_ret (v := .tuple #[.agg #[.int .i64 now, .slice A8 n8 c8], .slice none 0 0, .int .i64 10]) (by simp [results, Try.f11, go_sem, z0, z1]) rfl ?_
    exact ⟨_, _, rfl, hO, own_nil _ _, Apart2.symm (.inl rfl), hB⟩
  ·have hS : stepR now xs tt = (tt, pick (fun x => !decide (x.2 ≤ tt)) xs, pick (fun x => decide (x.2 ≤ tt)) xs, 0) := by unfold stepR; rw [hM, if_pos rfl, if_neg hto]
   rw [hS]
   exact HOk.out hM (fun h => hto (.inl h)) (fun h => hto (.inr h))
end Go.Proofs.Ytggkealdbebbkaa.W10
end
section
namespace Go.Proofs.Ytggkealdbebbkaa.W10
-- part NJ
open Go.RowKit Go.Proofs.YtggkealdbebbkaaW.PrintWords Go.Proofs.YtggkealdbebbkaaW.PrintLast Go.Proofs.YtggkealdbebbkaaW.PrintMore
set_option linter.unusedVariables false
set_option linter.unusedSimpArgs false
/-- The parameter's block, the id's, and the result's. -/
structure S3 (W w : World) (now : Int) (A : Option Addr) (n c : Nat) (id : Int) : Prop where
 bx : W.heap[w.heap.size]? = some (.cells #[.int .i64 now, .slice A n c] 24 (0, 0))
 ib : W.heap[w.heap.size + 1]? = some (.cells #[.int .i64 id] 3 (0, 0))
 rs : W.heap[w.heap.size + 2]? = some (.cells #[.int .i64 0, .slice none 0 0] 24 (0, 0))
 bl : Below w.heap.size w W
section
variable {W W1 w : World} {now id : Int} {A : Option Addr} {n c : Nat}
theorem S3.start (w : World) (now : Int) (A : Option Addr) (n c : Nat) (id : Int) : S3 (((w.alloc (.cells #[.int .i64 now, .slice A n c] 24)).alloc (.cells #[.int .i64 id] 3)).alloc (.cells #[.int .i64 0, .slice none 0 0] 24)) w now A n c id := by
 refine ⟨blk_alloc (blk_alloc (blk_new w _) _) _, ?_, ?_, below_alloc (below_alloc (below_alloc (Below.refl _ _) _) _) _⟩
 ·have := blk_new (w.alloc (.cells #[.int .i64 now, .slice A n c] 24)) (.cells #[.int .i64 id] 3)
  rw [World.size_alloc] at this
  exact blk_alloc this _
 ·have := blk_new ((w.alloc (.cells #[.int .i64 now, .slice A n c] 24)).alloc (.cells #[.int .i64 id] 3)) (.cells #[.int .i64 0, .slice none 0 0] 24)
  rw [World.size_alloc, World.size_alloc] at this
  exact this
theorem S3.lt (h : S3 W w now A n c id) : w.heap.size + 2 < W.heap.size := (Array.getElem?_eq_some_iff.1 h.rs).1
theorem S3.kept (h : S3 W w now A n c id) {m : Nat} (hb : Below m W W1) (hm : w.heap.size + 2 < m) : S3 W1 w now A n c id :=
 ⟨(hb.block _ (by omega)).trans h.bx, (hb.block _ (by omega)).trans h.ib, (hb.block _ hm).trans h.rs, h.bl.trans (hb.mono (by omega))⟩
theorem S3.b0 (h : S3 W w now A n c id) : W.cell? ⟨w.heap.size, 0, none⟩ = some (.int .i64 now) := by simp [World.cell?, h.bx]
theorem S3.b1 (h : S3 W w now A n c id) : W.cell? ⟨w.heap.size, 1, none⟩ = some (.slice A n c) := by simp [World.cell?, h.bx]
theorem S3.i0 (h : S3 W w now A n c id) : W.cell? ⟨w.heap.size + 1, 0, none⟩ = some (.int .i64 id) := by simp [World.cell?, h.ib]
theorem S3.r0 (h : S3 W w now A n c id) : W.cell? ⟨w.heap.size + 2, 0, none⟩ = some (.int .i64 0) := by simp [World.cell?, h.rs]
theorem S3.r1 (h : S3 W w now A n c id) : W.cell? ⟨w.heap.size + 2, 1, none⟩ = some (.slice none 0 0) := by simp [World.cell?, h.rs]
theorem S3.rf (h : S3 W w now A n c id) (j : Nat) : W.frozen? ⟨w.heap.size + 2, j, none⟩ = false := by simp [World.frozen?, h.rs]
end
def dropR (now : Int) (xs : List T) (id : Int) : List T × Bool := if mayB now xs then (pick (fun x => !(x.1 == id)) xs, decide (0 < (pick (fun x => x.1 == id) xs).length)) else (xs, false)
theorem take34_ {W : World} {b B pb cb : Nat} {now id : Int} {vs : Nat → Value} {xs : List T} {po : Obj} (hH : HubC W b now vs) (hR : Rows W B vs (slots xs)) (hN : ∀ j, 8 ≤ j → vs j = nilS) (hB : B ≤ b) (hl : xs.length ≤ 64) (hp : W.heap[pb]? = some po) (hpB : pb < B) (hc : W.cell? ⟨cb, 0, none⟩ = some (.int .i64 id)) (hcb : cb < B) :
  Calls Try.prog 26 #[.pointer (some ⟨b, 0, none⟩), .func (.func 34) #[] #[.pointer (some ⟨cb, 0, none⟩)]] W fun e w' => ∃ V : Nat → Value, e = .returned (V 8) ∧ Half w' b B now (fun x => x.1 == id) xs V ∧ Below B W w' := by
 refine (take_34 (cb := cb) (fun x => x.1 == id) hH hR (hN 8 (by decide)) (hN 9 (by decide)) hB (fun j => by have := slots_len xs j; omega) pb po ⟨hp, fun j e => by have := (own_base (hR.own j) _ e).1; omega⟩ (by omega) (fun x W' hb _ hlt => pred34 x cb id W' ((hb.cell (p := ⟨cb, 0, none⟩) hcb).trans hc) (by omega))).mono ?_
 rintro e w' ⟨V, rfl, hH', hR', h9, hV, hb, _⟩
 exact ⟨V, rfl, ⟨hH', hR', h9, fun j hj => (hV j hj).trans (hN j (by omega))⟩, hb⟩
set_option maxHeartbeats 8000000 in
set_option maxRecDepth 100000 in
theorem drop_ (now : Int) (A : Option Addr) (c : Nat) (xs : List T) (id : Int) (w : World) (hr : ReadsT w A xs) (hc : xs.length ≤ c) (hl : xs.length < 1000) (hwf : ∀ x ∈ xs, (Lit.int .i64 x.1).wf = true) :
  Calls Try.prog 16 #[.agg #[.int .i64 now, .slice A xs.length c], .int .i64 id] w fun e w' => ∃ v1, e = .returned (.tuple #[.agg #[.int .i64 now, v1], .bool (dropR now xs id).2]) ∧ Own1 w' w.heap.size v1 (dropR now xs id).1 ∧ Below w.heap.size w w' := by
 have hu24 := Try.underlying24
 have hu48 := Try.underlying48
 cases hM : mayB now xs with
 |false =>
  have hS : dropR now xs id = (xs, false) := by unfold dropR; rw [hM]; rfl
  rw [hS]
  have HMay := Aside0.mk (fun W hb => may_ now A c xs W (hr.below (w1 := W) hb) hl hwf)
  have HOwn := Aside0.mk (fun W hb => own_ now A c xs W (hr.below (w1 := W) hb) hl)
  rw [hM] at HMay
  clear hS hM hr hwf
  go_enter Try.func16, Try.ntmps16
  go_wp2_with (first
   |(go_at_call 23; refine (HMay.out _ (S3.start w now A xs.length c id).bl).mono ?_; rintro e w1 ⟨rfl, hb⟩; have HS1 := Aside0.mk ((S3.start w now A xs.length c id).kept hb (S3.start w now A xs.length c id).lt); have b0 := HS1.out.b0; have b1 := HS1.out.b1; clear hb)
   |(go_at_call 24; refine (HOwn.out _ HS1.out.bl).mono ?_; rintro e w2 ⟨v, rfl, ho, hb⟩; obtain ⟨A8, n8, c8, rfl⟩ : ∃ A n c, v = .slice A n c := own_form ho; have HS2 := Aside0.mk (HS1.out.kept hb HS1.out.lt); have HO2 := Aside0.mk (own_weaken ho (by have := HS1.out.lt; omega : w.heap.size ≤ w1.heap.size)); have r0 := HS2.out.r0; have r1 := HS2.out.r1; have f0 := HS2.out.rf 0; have f1 := HS2.out.rf 1; clear ho hb))
  have hW := put2_heap (a := .int .i64 now) (v := .slice A8 n8 c8) HS2.out.rs
  have hO := put2_own (a := .int .i64 now) (v := .slice A8 n8 c8) HS2.out.rs HO2.out
  have hB := put2_below (a := .int .i64 now) (v := .slice A8 n8 c8) (rb := w.heap.size + 2) HS2.out.bl (by omega)
  unfold put2 at hW hO hB
  generalize hW4 : (w2.setCell ⟨w.heap.size + 2, 0, none⟩ (.int .i64 now)).setCell ⟨w.heap.size + 2, 1, none⟩ (.slice A8 n8 c8) = W4 at *
  have z0 : W4.cell? ⟨w.heap.size + 2, 0, none⟩ = some (.int .i64 now) := by simp [World.cell?, hW]
  have z1 : W4.cell? ⟨w.heap.size + 2, 1, none⟩ = some (.slice A8 n8 c8) := by simp [World.cell?, hW]
  refine bodyPost_ret (v := .tuple #[.agg #[.int .i64 now, .slice A8 n8 c8], .bool false]) (by simp [results, Try.f16, go_sem, z0, z1]) rfl ?_
  exact ⟨_, rfl, hO, hB⟩
 |true =>
  obtain ⟨hat, h64⟩ := mayB_at hM
  have hS : dropR now xs id = (pick (fun x => !(x.1 == id)) xs, decide (0 < (pick (fun x => x.1 == id) xs).length)) := by unfold dropR; rw [hM]; rfl
  rw [hS]
  have HMay := Aside0.mk (fun W hb => may_ now A c xs W (hr.below (w1 := W) hb) hl hwf)
  have HOpen := Aside0.mk (fun W hb => open_ now A c xs W (hr.below (w1 := W) hb) hc hl hat)
  have HWh := Aside0.mk (fun (W : World) (b B : Nat) (V : Nat → Value) (h : Half W b B now (fun x => x.1 == id) xs V) (hB : B ≤ b) => h.wheel hB hat h64)
  rw [hM] at HMay
  generalize hpk : (pick (fun x => x.1 == id) xs) = gone at *
  have HPk := Aside0.mk hpk
  clear hr hwf hS hM hat hpk
  go_enter Try.func16, Try.ntmps16
  go_wp2_with (first
   |(go_at_call 23; refine (HMay.out _ (S3.start w now A xs.length c id).bl).mono ?_; rintro e w1 ⟨rfl, hb⟩; have HS1 := Aside0.mk ((S3.start w now A xs.length c id).kept hb (S3.start w now A xs.length c id).lt); have b0 := HS1.out.b0; have b1 := HS1.out.b1; clear hb)
   |(go_at_call 25; refine (HOpen.out _ HS1.out.bl).mono ?_; rintro e w2 ⟨b, vs, rfl, hbb, hH2, hR2, hN2, hb⟩; have HS2 := Aside0.mk (HS1.out.kept hb HS1.out.lt); have HH2 := Aside0.mk hH2; have HR2 := Aside0.mk hR2; have HN2 := Aside0.mk hN2; have HG2 := Aside0.mk (And.intro hbb HS1.out.lt); clear hb hbb hH2 hR2 hN2)
   |(go_at_call 26; refine (take34_ HH2.out HR2.out HN2.out HG2.out.1 h64 HS2.out.rs HG2.out.2 HS2.out.i0 (Nat.lt_of_succ_lt HG2.out.2)).mono ?_; rintro e w3 ⟨V, rfl, hF, hb⟩; have HS3 := Aside0.mk (HS2.out.kept hb HG2.out.2); have hF' := hF.rows.own 8; rw [Lst_8 (Nat.le_refl _), (show sortT (col (fun x => x.1 == id) (slots xs) 8 0) = gone from HPk.out)] at hF'; obtain ⟨A7, c7, e7, _⟩ := own_slice hF'; have HF3 := Aside0.mk hF; rw [e7]; have HE7 := Aside0.mk e7; clear hb hF hF' e7)
   |(go_at_call 28; refine (HWh.out _ _ _ V HF3.out HG2.out.1).mono ?_; rintro e w4 ⟨v, rfl, ho1, ho2, hap, hb⟩; obtain ⟨A8, n8, c8, rfl⟩ : ∃ A n c, v = .slice A n c := own_form ho1; have HS4 := Aside0.mk (HS3.out.kept hb HG2.out.2); have hle : w.heap.size ≤ w1.heap.size := (by have := HG2.out.2; omega); have HO1 := Aside0.mk (own_weaken ho1 hle); have r0 := HS4.out.r0; have r1 := HS4.out.r1; have f2 := HS4.out.rf 0; have f3 := HS4.out.rf 1; clear hb ho1 ho2 hap hle))
  have hW := put2_heap (a := .int .i64 now) (v := .slice A8 n8 c8) HS4.out.rs
  have hO := put2_own (a := .int .i64 now) (v := .slice A8 n8 c8) HS4.out.rs HO1.out
  have hB := put2_below (a := .int .i64 now) (v := .slice A8 n8 c8) (rb := w.heap.size + 2) HS4.out.bl (by omega)
  unfold put2 at hW hO hB
  generalize hW4 : (w4.setCell ⟨w.heap.size + 2, 0, none⟩ (.int .i64 now)).setCell ⟨w.heap.size + 2, 1, none⟩ (.slice A8 n8 c8) = W4 at *
  have z0 : W4.cell? ⟨w.heap.size + 2, 0, none⟩ = some (.int .i64 now) := by simp [World.cell?, hW]
  have z1 : W4.cell? ⟨w.heap.size + 2, 1, none⟩ = some (.slice A8 n8 c8) := by simp [World.cell?, hW]
  refine bodyPost_ret (v := .tuple #[.agg #[.int .i64 now, .slice A8 n8 c8], .bool (decide (0 < gone.length))]) (by simp [results, Try.f16, go_sem, z0, z1]) rfl ?_
  exact ⟨_, rfl, hO, hB⟩
end Go.Proofs.Ytggkealdbebbkaa.W10
end
section
namespace Go.Proofs.Ytggkealdbebbkaa.W10
-- part NL
open Go.RowKit Go.Proofs.YtggkealdbebbkaaW.PrintWords Go.Proofs.YtggkealdbebbkaaW.PrintLast Go.Proofs.YtggkealdbebbkaaW.PrintMore
set_option linter.unusedVariables false
set_option linter.unusedSimpArgs false
def addR (now : Int) (xs : List T) (id at_ : Int) : List T × Int :=
 if mayB now xs = false ∨ id < 0 then (xs, 1) else if at_ ≤ now ∨ at_ > maxTick then (xs, 10) else if (xs.any fun x => x.1 == id) = true then (xs, 11) else if xs.length = 64 then (xs, 9) else (pick (fun _ => true) (xs ++ [(id, at_)]), 0)
theorem mayB_now {now : Int} {xs : List T} (h : mayB now xs = true) : 0 ≤ now := by
 unfold mayB at h
 simp only [Bool.and_eq_true, decide_eq_true_eq] at h
 exact h.2.1
/-- The hub with its rows. -/
structure Hub (W : World) (b B : Nat) (now : Int) (xs : List T) (V : Nat → Value) : Prop where
 hub : HubC W b now V
 rows : Rows W B V (slots xs)
 rest : ∀ j, 8 ≤ j → V j = nilS
theorem Hub.put {W : World} {b B : Nat} {now : Int} {xs : List T} {V : Nat → Value} (h : Hub W b B now xs V) (hB : B ≤ b) (hl : xs.length ≤ 64) (x : T) (ha : AtOk x) :
  Calls Try.prog 32 #[.pointer (some ⟨b, 0, none⟩), .agg #[.int .i64 x.1, .int .i64 x.2]] W fun e w' => e = .returned (.tuple #[]) ∧ ∃ V', Hub w' b B now (xs ++ [x]) V' ∧ Below B W w' := by
 refine (put_ h.hub h.rows hB x ha.1 ha.2 (by have := slots_len xs (slotN x.2); omega)).mono ?_
 rintro e w' ⟨rfl, v', hH, hR, hb⟩
 rw [slots_snoc] at hR
 exact ⟨rfl, _, ⟨hH, hR, fun j hj => by rw [upd_other _ _ (by have := ha.lt; omega)]; exact h.rest j hj⟩, hb⟩
theorem Hub.wheel {W : World} {b B : Nat} {now : Int} {xs : List T} {V : Nat → Value} (h : Hub W b B now xs V) (hB : B ≤ b) (hl : xs.length ≤ 100) :
  Calls Try.prog 28 #[.pointer (some ⟨b, 0, none⟩)] W fun e w' => ∃ v, e = .returned (.agg #[.int .i64 now, v]) ∧ Own1 w' B v (pick (fun _ => true) xs) ∧ Below B W w' := by
 refine (wheel_ h.hub h.rows (h.rest 8 (by decide)) (h.rest 9 (by decide)) hB (fun j => by have := slots_len xs j; omega)).mono ?_
 rintro e w' ⟨V', rfl, hH', hR', h9', hV', hB'⟩
 refine ⟨V' 8, rfl, ?_, hB'⟩
 have := hR'.own 8
 rw [Lst_8 (Nat.le_refl _)] at this
 exact this
set_option maxHeartbeats 8000000 in
set_option maxRecDepth 100000 in
theorem add_c1 (now : Int) (A : Option Addr) (c : Nat) (xs : List T) (id at_ : Int) (w : World) (hr : ReadsT w A xs) (hc : xs.length ≤ c) (hl : xs.length < 1000) (hwf : ∀ x ∈ xs, (Lit.int .i64 x.1).wf = true) (hM : mayB now xs = false) :
  Calls Try.prog 14 #[.agg #[.int .i64 now, .slice A xs.length c], .int .i64 id, .int .i64 at_] w fun e w' => ∃ v1, e = .returned (.tuple #[.agg #[.int .i64 now, v1], .int .i64 1]) ∧ Own1 w' w.heap.size v1 xs ∧ Below w.heap.size w w' := by
  have hu24 := Try.underlying24
  have HMay := Aside0.mk (fun W hb => may_ now A c xs W (hr.below (w1 := W) hb) hl hwf)
  have HOwn := Aside0.mk (fun W hb => own_ now A c xs W (hr.below (w1 := W) hb) hl)
  rw [hM] at HMay
  clear hr hwf
  go_enter Try.func14, Try.ntmps14
  go_wp2_with (first
   |(go_at_call 23; refine (HMay.out _ (S3.start w now A xs.length c id).bl).mono ?_; rintro e w1 ⟨rfl, hb⟩; have HS1 := Aside0.mk ((S3.start w now A xs.length c id).kept hb (S3.start w now A xs.length c id).lt); have b0 := HS1.out.b0; have b1 := HS1.out.b1; have i0 := HS1.out.i0; clear hb)
   |(go_at_call 24; refine (HOwn.out _ HS1.out.bl).mono ?_; rintro e w2 ⟨v, rfl, ho, hb⟩; obtain ⟨A8, n8, c8, rfl⟩ : ∃ A n c, v = .slice A n c := own_form ho; have HS2 := Aside0.mk (HS1.out.kept hb HS1.out.lt); have HO2 := Aside0.mk (own_weaken ho HS1.out.bl.size); have r0 := HS2.out.r0; have r1 := HS2.out.r1; have f0 := HS2.out.rf 0; have f1 := HS2.out.rf 1; clear ho hb))
  have hW := put2_heap (a := .int .i64 now) (v := .slice A8 n8 c8) HS2.out.rs
  have hO := put2_own (a := .int .i64 now) (v := .slice A8 n8 c8) HS2.out.rs HO2.out
  have hB := put2_below (a := .int .i64 now) (v := .slice A8 n8 c8) (rb := w.heap.size + 2) HS2.out.bl (by omega)
  unfold put2 at hW hO hB
  generalize hW4 : (w2.setCell ⟨w.heap.size + 2, 0, none⟩ (.int .i64 now)).setCell ⟨w.heap.size + 2, 1, none⟩ (.slice A8 n8 c8) = W4 at *
  have z0 : W4.cell? ⟨w.heap.size + 2, 0, none⟩ = some (.int .i64 now) := by simp [World.cell?, hW]
  have z1 : W4.cell? ⟨w.heap.size + 2, 1, none⟩ = some (.slice A8 n8 c8) := by simp [World.cell?, hW]
  refine bodyPost_ret (v := .tuple #[.agg #[.int .i64 now, .slice A8 n8 c8], .int .i64 1]) (by simp [results, Try.f14, go_sem, z0, z1]) rfl ?_
  exact ⟨_, rfl, hO, hB⟩
set_option maxHeartbeats 8000000 in
set_option maxRecDepth 100000 in
theorem add_c2 (now : Int) (A : Option Addr) (c : Nat) (xs : List T) (id at_ : Int) (w : World) (hr : ReadsT w A xs) (hc : xs.length ≤ c) (hl : xs.length < 1000) (hwf : ∀ x ∈ xs, (Lit.int .i64 x.1).wf = true) (hM : mayB now xs = true) (h1 : id < 0) :
  Calls Try.prog 14 #[.agg #[.int .i64 now, .slice A xs.length c], .int .i64 id, .int .i64 at_] w fun e w' => ∃ v1, e = .returned (.tuple #[.agg #[.int .i64 now, v1], .int .i64 1]) ∧ Own1 w' w.heap.size v1 xs ∧ Below w.heap.size w w' := by
  have hu24 := Try.underlying24
  have HMay := Aside0.mk (fun W hb => may_ now A c xs W (hr.below (w1 := W) hb) hl hwf)
  have HOwn := Aside0.mk (fun W hb => own_ now A c xs W (hr.below (w1 := W) hb) hl)
  rw [hM] at HMay
  have e1 : decide (id < 0) = true := decide_eq_true h1
  clear hr hwf
  go_enter Try.func14, Try.ntmps14
  go_wp2_with (first
   |(go_at_call 23; refine (HMay.out _ (S3.start w now A xs.length c id).bl).mono ?_; rintro e w1 ⟨rfl, hb⟩; have HS1 := Aside0.mk ((S3.start w now A xs.length c id).kept hb (S3.start w now A xs.length c id).lt); have b0 := HS1.out.b0; have b1 := HS1.out.b1; have i0 := HS1.out.i0; clear hb)
   |(go_at_call 24; refine (HOwn.out _ HS1.out.bl).mono ?_; rintro e w2 ⟨v, rfl, ho, hb⟩; obtain ⟨A8, n8, c8, rfl⟩ : ∃ A n c, v = .slice A n c := own_form ho; have HS2 := Aside0.mk (HS1.out.kept hb HS1.out.lt); have HO2 := Aside0.mk (own_weaken ho HS1.out.bl.size); have r0 := HS2.out.r0; have r1 := HS2.out.r1; have f0 := HS2.out.rf 0; have f1 := HS2.out.rf 1; clear ho hb))
  have hW := put2_heap (a := .int .i64 now) (v := .slice A8 n8 c8) HS2.out.rs
  have hO := put2_own (a := .int .i64 now) (v := .slice A8 n8 c8) HS2.out.rs HO2.out
  have hB := put2_below (a := .int .i64 now) (v := .slice A8 n8 c8) (rb := w.heap.size + 2) HS2.out.bl (by omega)
  unfold put2 at hW hO hB
  generalize hW4 : (w2.setCell ⟨w.heap.size + 2, 0, none⟩ (.int .i64 now)).setCell ⟨w.heap.size + 2, 1, none⟩ (.slice A8 n8 c8) = W4 at *
  have z0 : W4.cell? ⟨w.heap.size + 2, 0, none⟩ = some (.int .i64 now) := by simp [World.cell?, hW]
  have z1 : W4.cell? ⟨w.heap.size + 2, 1, none⟩ = some (.slice A8 n8 c8) := by simp [World.cell?, hW]
  refine bodyPost_ret (v := .tuple #[.agg #[.int .i64 now, .slice A8 n8 c8], .int .i64 1]) (by simp [results, Try.f14, go_sem, z0, z1]) rfl ?_
  exact ⟨_, rfl, hO, hB⟩
set_option maxHeartbeats 8000000 in
set_option maxRecDepth 100000 in
theorem add_c3 (now : Int) (A : Option Addr) (c : Nat) (xs : List T) (id at_ : Int) (w : World) (hr : ReadsT w A xs) (hc : xs.length ≤ c) (hl : xs.length < 1000) (hwf : ∀ x ∈ xs, (Lit.int .i64 x.1).wf = true) (hM : mayB now xs = true) (h1 : ¬ id < 0) (h2 : at_ ≤ now) :
  Calls Try.prog 14 #[.agg #[.int .i64 now, .slice A xs.length c], .int .i64 id, .int .i64 at_] w fun e w' => ∃ v1, e = .returned (.tuple #[.agg #[.int .i64 now, v1], .int .i64 10]) ∧ Own1 w' w.heap.size v1 xs ∧ Below w.heap.size w w' := by
  have hu24 := Try.underlying24
  have HMay := Aside0.mk (fun W hb => may_ now A c xs W (hr.below (w1 := W) hb) hl hwf)
  have HOwn := Aside0.mk (fun W hb => own_ now A c xs W (hr.below (w1 := W) hb) hl)
  rw [hM] at HMay
  have e1 : decide (id < 0) = false := decide_eq_false h1
  have e2 : decide (at_ ≤ now) = true := decide_eq_true h2
  clear hr hwf
  go_enter Try.func14, Try.ntmps14
  go_wp2_with (first
   |(go_at_call 23; refine (HMay.out _ (S3.start w now A xs.length c id).bl).mono ?_; rintro e w1 ⟨rfl, hb⟩; have HS1 := Aside0.mk ((S3.start w now A xs.length c id).kept hb (S3.start w now A xs.length c id).lt); have b0 := HS1.out.b0; have b1 := HS1.out.b1; have i0 := HS1.out.i0; clear hb)
   |(go_at_call 24; refine (HOwn.out _ HS1.out.bl).mono ?_; rintro e w2 ⟨v, rfl, ho, hb⟩; obtain ⟨A8, n8, c8, rfl⟩ : ∃ A n c, v = .slice A n c := own_form ho; have HS2 := Aside0.mk (HS1.out.kept hb HS1.out.lt); have HO2 := Aside0.mk (own_weaken ho HS1.out.bl.size); have r0 := HS2.out.r0; have r1 := HS2.out.r1; have f0 := HS2.out.rf 0; have f1 := HS2.out.rf 1; clear ho hb))
  have hW := put2_heap (a := .int .i64 now) (v := .slice A8 n8 c8) HS2.out.rs
  have hO := put2_own (a := .int .i64 now) (v := .slice A8 n8 c8) HS2.out.rs HO2.out
  have hB := put2_below (a := .int .i64 now) (v := .slice A8 n8 c8) (rb := w.heap.size + 2) HS2.out.bl (by omega)
  unfold put2 at hW hO hB
  generalize hW4 : (w2.setCell ⟨w.heap.size + 2, 0, none⟩ (.int .i64 now)).setCell ⟨w.heap.size + 2, 1, none⟩ (.slice A8 n8 c8) = W4 at *
  have z0 : W4.cell? ⟨w.heap.size + 2, 0, none⟩ = some (.int .i64 now) := by simp [World.cell?, hW]
  have z1 : W4.cell? ⟨w.heap.size + 2, 1, none⟩ = some (.slice A8 n8 c8) := by simp [World.cell?, hW]
  refine bodyPost_ret (v := .tuple #[.agg #[.int .i64 now, .slice A8 n8 c8], .int .i64 10]) (by simp [results, Try.f14, go_sem, z0, z1]) rfl ?_
  exact ⟨_, rfl, hO, hB⟩
set_option maxHeartbeats 8000000 in
set_option maxRecDepth 100000 in
theorem add_c4 (now : Int) (A : Option Addr) (c : Nat) (xs : List T) (id at_ : Int) (w : World) (hr : ReadsT w A xs) (hc : xs.length ≤ c) (hl : xs.length < 1000) (hwf : ∀ x ∈ xs, (Lit.int .i64 x.1).wf = true) (hM : mayB now xs = true) (h1 : ¬ id < 0) (h2 : ¬ at_ ≤ now) (h3 : at_ > maxTick) :
  Calls Try.prog 14 #[.agg #[.int .i64 now, .slice A xs.length c], .int .i64 id, .int .i64 at_] w fun e w' => ∃ v1, e = .returned (.tuple #[.agg #[.int .i64 now, v1], .int .i64 10]) ∧ Own1 w' w.heap.size v1 xs ∧ Below w.heap.size w w' := by
  have hu24 := Try.underlying24
  have HMay := Aside0.mk (fun W hb => may_ now A c xs W (hr.below (w1 := W) hb) hl hwf)
  have HOwn := Aside0.mk (fun W hb => own_ now A c xs W (hr.below (w1 := W) hb) hl)
  rw [hM] at HMay
  have e1 : decide (id < 0) = false := decide_eq_false h1
  have e2 : decide (at_ ≤ now) = false := decide_eq_false h2
  have e3 : decide (1073741824 < at_) = true := decide_eq_true h3
  clear hr hwf
  go_enter Try.func14, Try.ntmps14
  go_wp2_with (first
   |(go_at_call 23; refine (HMay.out _ (S3.start w now A xs.length c id).bl).mono ?_; rintro e w1 ⟨rfl, hb⟩; have HS1 := Aside0.mk ((S3.start w now A xs.length c id).kept hb (S3.start w now A xs.length c id).lt); have b0 := HS1.out.b0; have b1 := HS1.out.b1; have i0 := HS1.out.i0; clear hb)
   |(go_at_call 24; refine (HOwn.out _ HS1.out.bl).mono ?_; rintro e w2 ⟨v, rfl, ho, hb⟩; obtain ⟨A8, n8, c8, rfl⟩ : ∃ A n c, v = .slice A n c := own_form ho; have HS2 := Aside0.mk (HS1.out.kept hb HS1.out.lt); have HO2 := Aside0.mk (own_weaken ho HS1.out.bl.size); have r0 := HS2.out.r0; have r1 := HS2.out.r1; have f0 := HS2.out.rf 0; have f1 := HS2.out.rf 1; clear ho hb))
  have hW := put2_heap (a := .int .i64 now) (v := .slice A8 n8 c8) HS2.out.rs
  have hO := put2_own (a := .int .i64 now) (v := .slice A8 n8 c8) HS2.out.rs HO2.out
  have hB := put2_below (a := .int .i64 now) (v := .slice A8 n8 c8) (rb := w.heap.size + 2) HS2.out.bl (by omega)
  unfold put2 at hW hO hB
  generalize hW4 : (w2.setCell ⟨w.heap.size + 2, 0, none⟩ (.int .i64 now)).setCell ⟨w.heap.size + 2, 1, none⟩ (.slice A8 n8 c8) = W4 at *
  have z0 : W4.cell? ⟨w.heap.size + 2, 0, none⟩ = some (.int .i64 now) := by simp [World.cell?, hW]
  have z1 : W4.cell? ⟨w.heap.size + 2, 1, none⟩ = some (.slice A8 n8 c8) := by simp [World.cell?, hW]
  refine bodyPost_ret (v := .tuple #[.agg #[.int .i64 now, .slice A8 n8 c8], .int .i64 10]) (by simp [results, Try.f14, go_sem, z0, z1]) rfl ?_
  exact ⟨_, rfl, hO, hB⟩
set_option maxHeartbeats 8000000 in
set_option maxRecDepth 100000 in
theorem add_c5 (now : Int) (A : Option Addr) (c : Nat) (xs : List T) (id at_ : Int) (w : World) (hr : ReadsT w A xs) (hc : xs.length ≤ c) (hl : xs.length < 1000) (hwf : ∀ x ∈ xs, (Lit.int .i64 x.1).wf = true) (hM : mayB now xs = true) (h1 : ¬ id < 0) (h2 : ¬ at_ ≤ now) (h3 : ¬ at_ > maxTick) (hA : (xs.any fun x => x.1 == id) = true) :
  Calls Try.prog 14 #[.agg #[.int .i64 now, .slice A xs.length c], .int .i64 id, .int .i64 at_] w fun e w' => ∃ v1, e = .returned (.tuple #[.agg #[.int .i64 now, v1], .int .i64 11]) ∧ Own1 w' w.heap.size v1 xs ∧ Below w.heap.size w w' := by
  have hu24 := Try.underlying24
  have HMay := Aside0.mk (fun W hb => may_ now A c xs W (hr.below (w1 := W) hb) hl hwf)
  have HOwn := Aside0.mk (fun W hb => own_ now A c xs W (hr.below (w1 := W) hb) hl)
  have HCon := Aside0.mk (fun W hb hc0 hlt => contains_ A c xs W id (w.heap.size + 1) (hr.below (w1 := W) hb) hl hlt hc0)
  rw [hA] at HCon
  rw [hM] at HMay
  have e1 : decide (id < 0) = false := decide_eq_false h1
  have e2 : decide (at_ ≤ now) = false := decide_eq_false h2
  have e3 : decide (1073741824 < at_) = false := decide_eq_false h3
  clear hr hwf
  go_enter Try.func14, Try.ntmps14
  go_wp2_with (first
   |(go_at_call 23; refine (HMay.out _ (S3.start w now A xs.length c id).bl).mono ?_; rintro e w1 ⟨rfl, hb⟩; have HS1 := Aside0.mk ((S3.start w now A xs.length c id).kept hb (S3.start w now A xs.length c id).lt); have b0 := HS1.out.b0; have b1 := HS1.out.b1; have i0 := HS1.out.i0; clear hb)
   |(go_at_call 31; refine (HCon.out _ HS1.out.bl HS1.out.i0 (Nat.lt_of_succ_lt HS1.out.lt)).mono ?_; rintro e w3 ⟨rfl, hb⟩; have HS3 := Aside0.mk (HS1.out.kept hb HS1.out.lt); have b0 := HS3.out.b0; have b1 := HS3.out.b1; have i0 := HS3.out.i0; clear hb)
   |(go_at_call 24; refine (HOwn.out _ HS3.out.bl).mono ?_; rintro e w2 ⟨v, rfl, ho, hb⟩; obtain ⟨A8, n8, c8, rfl⟩ : ∃ A n c, v = .slice A n c := own_form ho; have HS2 := Aside0.mk (HS3.out.kept hb HS3.out.lt); have HO2 := Aside0.mk (own_weaken ho HS3.out.bl.size); have r0 := HS2.out.r0; have r1 := HS2.out.r1; have f0 := HS2.out.rf 0; have f1 := HS2.out.rf 1; clear ho hb))
  have hW := put2_heap (a := .int .i64 now) (v := .slice A8 n8 c8) HS2.out.rs
  have hO := put2_own (a := .int .i64 now) (v := .slice A8 n8 c8) HS2.out.rs HO2.out
  have hB := put2_below (a := .int .i64 now) (v := .slice A8 n8 c8) (rb := w.heap.size + 2) HS2.out.bl (by omega)
  unfold put2 at hW hO hB
  generalize hW4 : (w2.setCell ⟨w.heap.size + 2, 0, none⟩ (.int .i64 now)).setCell ⟨w.heap.size + 2, 1, none⟩ (.slice A8 n8 c8) = W4 at *
  have z0 : W4.cell? ⟨w.heap.size + 2, 0, none⟩ = some (.int .i64 now) := by simp [World.cell?, hW]
  have z1 : W4.cell? ⟨w.heap.size + 2, 1, none⟩ = some (.slice A8 n8 c8) := by simp [World.cell?, hW]
  refine bodyPost_ret (v := .tuple #[.agg #[.int .i64 now, .slice A8 n8 c8], .int .i64 11]) (by simp [results, Try.f14, go_sem, z0, z1]) rfl ?_
  exact ⟨_, rfl, hO, hB⟩
set_option maxHeartbeats 8000000 in
set_option maxRecDepth 100000 in
theorem add_c6 (now : Int) (A : Option Addr) (c : Nat) (xs : List T) (id at_ : Int) (w : World) (hr : ReadsT w A xs) (hc : xs.length ≤ c) (hl : xs.length < 1000) (hwf : ∀ x ∈ xs, (Lit.int .i64 x.1).wf = true) (hM : mayB now xs = true) (h1 : ¬ id < 0) (h2 : ¬ at_ ≤ now) (h3 : ¬ at_ > maxTick) (hA : (xs.any fun x => x.1 == id) = false) (h6 : xs.length = 64) :
  Calls Try.prog 14 #[.agg #[.int .i64 now, .slice A xs.length c], .int .i64 id, .int .i64 at_] w fun e w' => ∃ v1, e = .returned (.tuple #[.agg #[.int .i64 now, v1], .int .i64 9]) ∧ Own1 w' w.heap.size v1 xs ∧ Below w.heap.size w w' := by
  have hu24 := Try.underlying24
  have HMay := Aside0.mk (fun W hb => may_ now A c xs W (hr.below (w1 := W) hb) hl hwf)
  have HOwn := Aside0.mk (fun W hb => own_ now A c xs W (hr.below (w1 := W) hb) hl)
  have HCon := Aside0.mk (fun W hb hc0 hlt => contains_ A c xs W id (w.heap.size + 1) (hr.below (w1 := W) hb) hl hlt hc0)
  rw [hA] at HCon
  rw [hM] at HMay
  have e1 : decide (id < 0) = false := decide_eq_false h1
  have e2 : decide (at_ ≤ now) = false := decide_eq_false h2
  have e3 : decide (1073741824 < at_) = false := decide_eq_false h3
  have e4 : ((xs.length : Int) == 64) = true := beq_iff_eq.2 (by omega)
  clear h6
  clear hr hwf
  go_enter Try.func14, Try.ntmps14
  go_wp2_with (first
   |(go_at_call 23; refine (HMay.out _ (S3.start w now A xs.length c id).bl).mono ?_; rintro e w1 ⟨rfl, hb⟩; have HS1 := Aside0.mk ((S3.start w now A xs.length c id).kept hb (S3.start w now A xs.length c id).lt); have b0 := HS1.out.b0; have b1 := HS1.out.b1; have i0 := HS1.out.i0; clear hb)
   |(go_at_call 31; refine (HCon.out _ HS1.out.bl HS1.out.i0 (Nat.lt_of_succ_lt HS1.out.lt)).mono ?_; rintro e w3 ⟨rfl, hb⟩; have HS3 := Aside0.mk (HS1.out.kept hb HS1.out.lt); have b0 := HS3.out.b0; have b1 := HS3.out.b1; have i0 := HS3.out.i0; clear hb)
   |(go_at_call 24; refine (HOwn.out _ HS3.out.bl).mono ?_; rintro e w2 ⟨v, rfl, ho, hb⟩; obtain ⟨A8, n8, c8, rfl⟩ : ∃ A n c, v = .slice A n c := own_form ho; have HS2 := Aside0.mk (HS3.out.kept hb HS3.out.lt); have HO2 := Aside0.mk (own_weaken ho HS3.out.bl.size); have r0 := HS2.out.r0; have r1 := HS2.out.r1; have f0 := HS2.out.rf 0; have f1 := HS2.out.rf 1; clear ho hb))
  have hW := put2_heap (a := .int .i64 now) (v := .slice A8 n8 c8) HS2.out.rs
  have hO := put2_own (a := .int .i64 now) (v := .slice A8 n8 c8) HS2.out.rs HO2.out
  have hB := put2_below (a := .int .i64 now) (v := .slice A8 n8 c8) (rb := w.heap.size + 2) HS2.out.bl (by omega)
  unfold put2 at hW hO hB
  generalize hW4 : (w2.setCell ⟨w.heap.size + 2, 0, none⟩ (.int .i64 now)).setCell ⟨w.heap.size + 2, 1, none⟩ (.slice A8 n8 c8) = W4 at *
  have z0 : W4.cell? ⟨w.heap.size + 2, 0, none⟩ = some (.int .i64 now) := by simp [World.cell?, hW]
  have z1 : W4.cell? ⟨w.heap.size + 2, 1, none⟩ = some (.slice A8 n8 c8) := by simp [World.cell?, hW]
  refine bodyPost_ret (v := .tuple #[.agg #[.int .i64 now, .slice A8 n8 c8], .int .i64 9]) (by simp [results, Try.f14, go_sem, z0, z1]) rfl ?_
  exact ⟨_, rfl, hO, hB⟩
set_option maxHeartbeats 8000000 in
set_option maxRecDepth 100000 in
theorem add_ok (now : Int) (A : Option Addr) (c : Nat) (xs : List T) (id at_ : Int) (w : World) (hr : ReadsT w A xs) (hc : xs.length ≤ c) (hl : xs.length < 1000) (hwf : ∀ x ∈ xs, (Lit.int .i64 x.1).wf = true) (hM : mayB now xs = true) (h1 : ¬ id < 0) (h2 : ¬ at_ ≤ now) (h3 : ¬ at_ > maxTick) (hA : (xs.any fun x => x.1 == id) = false) (h6 : ¬ xs.length = 64) :
  Calls Try.prog 14 #[.agg #[.int .i64 now, .slice A xs.length c], .int .i64 id, .int .i64 at_] w fun e w' => ∃ v1, e = .returned (.tuple #[.agg #[.int .i64 now, v1], .int .i64 0]) ∧ Own1 w' w.heap.size v1 (pick (fun _ => true) (xs ++ [(id, at_)])) ∧ Below w.heap.size w w' := by
  have hu24 := Try.underlying24
  have hu33 := Try.underlying33
  obtain ⟨hat, h64⟩ := mayB_at hM
  have hn0 := mayB_now hM
  have hx2 : at_ < 2 ^ 62 := by have h4 : ¬ at_ > 1073741824 := h3; omega
  have hax : AtOk (id, at_) := atOk_of (show 0 ≤ at_ by omega) hx2
  clear hn0 hx2
  have HMay := Aside0.mk (fun W hb => may_ now A c xs W (hr.below (w1 := W) hb) hl hwf)
  have HCon := Aside0.mk (fun W hb hc0 hlt => contains_ A c xs W id (w.heap.size + 1) (hr.below (w1 := W) hb) hl hlt hc0)
  have HOpen := Aside0.mk (fun W hb => open_ now A c xs W (hr.below (w1 := W) hb) hc hl hat)
  have HPut := Aside0.mk (fun (W : World) (b B : Nat) (V : Nat → Value) (h : Hub W b B now xs V) (hB : B ≤ b) => h.put hB h64 (id, at_) hax)
  have HWh := Aside0.mk (fun (W : World) (b B : Nat) (V : Nat → Value) (h : Hub W b B now (xs ++ [(id, at_)]) V) (hB : B ≤ b) => h.wheel hB (by simp; omega))
  rw [hA] at HCon
  rw [hM] at HMay
  have e1 : decide (id < 0) = false := decide_eq_false h1
  have e2 : decide (at_ ≤ now) = false := decide_eq_false h2
  have e3 : decide (1073741824 < at_) = false := decide_eq_false h3
  have e4 : ((xs.length : Int) == 64) = false := beq_eq_false_iff_ne.2 (by omega)
  clear h6
  clear hr hwf hat hax hA hM
  go_enter Try.func14, Try.ntmps14
  go_wp2_with (first
   |(go_at_call 23; refine (HMay.out _ (S3.start w now A xs.length c id).bl).mono ?_; rintro e w1 ⟨rfl, hb⟩; have HS1 := Aside0.mk ((S3.start w now A xs.length c id).kept hb (S3.start w now A xs.length c id).lt); have b0 := HS1.out.b0; have b1 := HS1.out.b1; have i0 := HS1.out.i0; clear hb)
   |(go_at_call 31; refine (HCon.out _ HS1.out.bl HS1.out.i0 (Nat.lt_of_succ_lt HS1.out.lt)).mono ?_; rintro e w3 ⟨rfl, hb⟩; have HS3 := Aside0.mk (HS1.out.kept hb HS1.out.lt); have b0 := HS3.out.b0; have b1 := HS3.out.b1; have i0 := HS3.out.i0; clear hb)
   |(go_at_call 25; refine (HOpen.out _ HS3.out.bl).mono ?_; rintro e w4 ⟨b, vs, rfl, hbb, hH2, hR2, hN2, hb⟩; have HS4 := Aside0.mk (HS3.out.kept hb HS3.out.lt); have HH4 := Aside0.mk (Hub.mk hH2 hR2 hN2); have HG2 := Aside0.mk (And.intro hbb HS3.out.lt); have i0 := HS4.out.i0; clear hb hbb hH2 hR2 hN2)
   |(go_at_call 32; refine (HPut.out _ _ _ _ HH4.out HG2.out.1).mono ?_; rintro e w5 ⟨rfl, V, hH5, hb⟩; have HS5 := Aside0.mk (HS4.out.kept hb HG2.out.2); have HH5 := Aside0.mk hH5; clear hb hH5)
   |(go_at_call 28; refine (HWh.out _ _ _ V HH5.out HG2.out.1).mono ?_; rintro e w6 ⟨v, rfl, ho1, hb⟩; obtain ⟨A8, n8, c8, rfl⟩ : ∃ A n c, v = .slice A n c := own_form ho1; have HS6 := Aside0.mk (HS5.out.kept hb HG2.out.2); have HO1 := Aside0.mk (own_weaken ho1 (Nat.le_of_lt (Nat.lt_of_le_of_lt (Nat.le_add_right _ 2) HG2.out.2))); have r0 := HS6.out.r0; have r1 := HS6.out.r1; have f2 := HS6.out.rf 0; have f3 := HS6.out.rf 1; clear hb ho1))
  have hW := put2_heap (a := .int .i64 now) (v := .slice A8 n8 c8) HS6.out.rs
  have hO := put2_own (a := .int .i64 now) (v := .slice A8 n8 c8) HS6.out.rs HO1.out
  have hB := put2_below (a := .int .i64 now) (v := .slice A8 n8 c8) (rb := w.heap.size + 2) HS6.out.bl (by omega)
  unfold put2 at hW hO hB
  generalize hW4 : (w6.setCell ⟨w.heap.size + 2, 0, none⟩ (.int .i64 now)).setCell ⟨w.heap.size + 2, 1, none⟩ (.slice A8 n8 c8) = W4 at *
  have z0 : W4.cell? ⟨w.heap.size + 2, 0, none⟩ = some (.int .i64 now) := by simp [World.cell?, hW]
  have z1 : W4.cell? ⟨w.heap.size + 2, 1, none⟩ = some (.slice A8 n8 c8) := by simp [World.cell?, hW]
  refine bodyPost_ret (v := .tuple #[.agg #[.int .i64 now, .slice A8 n8 c8], .int .i64 0]) (by simp [results, Try.f14, go_sem, z0, z1]) rfl ?_
  exact ⟨_, rfl, hO, hB⟩
theorem add_ (now : Int) (A : Option Addr) (c : Nat) (xs : List T) (id at_ : Int) (w : World) (hr : ReadsT w A xs) (hc : xs.length ≤ c) (hl : xs.length < 1000) (hwf : ∀ x ∈ xs, (Lit.int .i64 x.1).wf = true) :
  Calls Try.prog 14 #[.agg #[.int .i64 now, .slice A xs.length c], .int .i64 id, .int .i64 at_] w fun e w' => ∃ v1, e = .returned (.tuple #[.agg #[.int .i64 now, v1], .int .i64 (addR now xs id at_).2]) ∧ Own1 w' w.heap.size v1 (addR now xs id at_).1 ∧ Below w.heap.size w w' := by
 unfold addR
 by_cases hM : mayB now xs = true
 ·by_cases h1 : id < 0
  ·rw [if_pos (.inr h1)]
   exact add_c2 now A c xs id at_ w hr hc hl hwf hM h1
  ·rw [if_neg (by rw [hM]; simp; omega)]
   by_cases h2 : at_ ≤ now
   ·rw [if_pos (.inl h2)]
    exact add_c3 now A c xs id at_ w hr hc hl hwf hM h1 h2
   ·by_cases h3 : at_ > maxTick
    ·rw [if_pos (.inr h3)]
     exact add_c4 now A c xs id at_ w hr hc hl hwf hM h1 h2 h3
    ·rw [if_neg (fun h => h.elim h2 h3)]
     cases hA : xs.any fun x => x.1 == id with
     |true =>
      rw [if_pos rfl]
      exact add_c5 now A c xs id at_ w hr hc hl hwf hM h1 h2 h3 hA
     |false =>
      rw [if_neg (by simp)]
      by_cases h6 : xs.length = 64
      ·rw [if_pos h6]
       exact add_c6 now A c xs id at_ w hr hc hl hwf hM h1 h2 h3 hA h6
      ·rw [if_neg h6]
       exact add_ok now A c xs id at_ w hr hc hl hwf hM h1 h2 h3 hA h6
 ·have hM := Bool.eq_false_iff.2 hM
  rw [if_pos (.inl hM)]
  exact add_c1 now A c xs id at_ w hr hc hl hwf hM
end Go.Proofs.Ytggkealdbebbkaa.W10
end
