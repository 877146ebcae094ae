/- Chapter 10's machine side by hand: rows of timers, the library's sort, put, open, take, wheel. -/
import Derived.Test.YtggkealdbebbkaaProg
import Derived.Test.YtggkealdbebbkaaQ1
import Derived.Below
import Derived.Deep.Draws
import Derived.Maps.AppendAt
import Derived.OwnWalk
import Derived.Laws.OwnMore
import Derived.WalkKit
import Derived.KernelRfl
import Derived.RowKit
import Derived.Test.YtggkealdbebbkaaShelf
import Derived.Sort.QuietTacIn
import Derived.Deep.QuietTactic
import Derived.Deep.RegionHeld3
import Derived.LoopTactic
section
namespace Go.Proofs.Ytggkealdbebbkaa.W10
-- part NR
open Go.RowKit
abbrev T := Int × Int
abbrev nilS : Value := .slice none 0 0
def enc2 (x : T) : List Value := [.int .i64 x.1, .int .i64 x.2]
def flat (xs : List T) : List Value := xs.flatMap enc2
@[simp] theorem flat_nil : flat [] = [] := rfl
theorem flat_snoc (xs : List T) (x : T) : flat (xs ++ [x]) = flat xs ++ enc2 x := by simp [flat]
theorem flat_len (xs : List T) : (flat xs).length = xs.length * 2 := by
 induction xs with
 |nil => rfl
 |cons x r ih => simp [flat, enc2] at ih ⊢; omega
def Own1 (w : World) (base : Nat) (v : Value) (xs : List T) : Prop := w.ownsRow base 33 2 v xs.length (flat xs)
def upd {α : Type} (f : Nat → α) (j : Nat) (v : α) : Nat → α := fun i => if i = j then v else f i
theorem upd_same {α : Type} (f : Nat → α) (j : Nat) (v : α) : upd f j v j = v := by simp [upd]
theorem upd_other {α : Type} (f : Nat → α) {i j : Nat} (v : α) (h : i ≠ j) : upd f j v i = f i := by simp [upd, h]
/-- Two values share no block of their own. -/
def Apart2 (v u : Value) : Prop := v.ownBlock = none ∨ v.ownBlock ≠ u.ownBlock
theorem grown_of_below {W W' : World} (h : Below W.heap.size W W') : W.grownBy W' none := ⟨h.os, h.tape, h.output, h.size, fun k hk _ => h.block k hk⟩
structure Rows (w : World) (base : Nat) (vs : Nat → Value) (ls : Nat → List T) : Prop where
 own : ∀ j, Own1 w base (vs j) (ls j)
 apart : ∀ i j, i ≠ j → Apart2 (vs i) (vs j)
variable {w w1 : World} {base : Nat} {vs : Nat → Value} {ls : Nat → List T}
theorem own_nil (w : World) (base : Nat) : Own1 w base nilS [] := World.ownsRow_nil w base 33 2
theorem Rows.empty (w : World) (base : Nat) : Rows w base (fun _ => nilS) (fun _ => []) := ⟨fun _ => own_nil w base, fun _ _ _ => .inl rfl⟩
theorem Rows.kept (h : Rows w base vs ls) (hg : w.grownBy w1 none) : Rows w1 base vs ls :=
 ⟨fun j => (h.own j).kept hg (by cases (vs j).ownBlock with | none => exact .inl rfl | some k => exact .inr (by simp)), h.apart⟩
theorem Rows.below (h : Rows w base vs ls) (hb : Below w.heap.size w w1) : Rows w1 base vs ls := h.kept (grown_of_below hb)
theorem Rows.keptBut (h : Rows w base vs ls) {b : Nat} (hg : w.grownBy w1 (some b)) (hne : ∀ j, (vs j).ownBlock ≠ some b) : Rows w1 base vs ls :=
 ⟨fun j => (h.own j).kept hg (.inr (hne j)), h.apart⟩
theorem Rows.append (h : Rows w base vs ls) (j : Nat) {v' : Value} {x : T} (hg : w.grownBy w1 (vs j).ownBlock) (ho : w1.ownsRow base 33 2 v' ((ls j).length + 1) (flat (ls j) ++ enc2 x)) (hb : v'.ownBlock = (vs j).ownBlock ∨ v'.ownBlock = some w.heap.size) :
  Rows w1 base (upd vs j v') (upd ls j (ls j ++ [x])) := by
 refine ⟨fun i => ?_, fun i k hik => ?_⟩
 ·by_cases e : i = j
  ·subst e
   rw [upd_same, upd_same]
   unfold Own1
   rw [flat_snoc, List.length_append]
   exact ho
  ·rw [upd_other _ _ e, upd_other _ _ e]
   exact (h.own i).kept hg (h.apart i j e)
 ·have lt := fun i => (h.own i).lt
  by_cases e : i = j
  ·subst e
   have hk : k ≠ i := fun e => hik e.symm
   rw [upd_same, upd_other _ _ hk]
   rcases hb with hb | hb
   ·unfold Apart2
    rw [hb]
    exact h.apart i k hik
   ·refine .inr fun e => ?_
    rw [hb] at e
    have := (lt k _ e.symm).2
    omega
  ·rw [upd_other _ _ e]
   by_cases e2 : k = j
   ·subst e2
    rw [upd_same]
    rcases hb with hb | hb
    ·unfold Apart2
     rw [hb]
     exact h.apart i k hik
    ·refine .inr fun e3 => ?_
     rw [hb] at e3
     have := (lt i _ e3).2
     omega
   ·rw [upd_other _ _ e2]
    exact h.apart i k hik
theorem Rows.drop (h : Rows w base vs ls) (j : Nat) : Rows w base (upd vs j nilS) (upd ls j []) := by
 refine ⟨fun i => ?_, fun i k hik => ?_⟩
 ·by_cases e : i = j
  ·subst e
   rw [upd_same, upd_same]
   exact own_nil w base
  ·rw [upd_other _ _ e, upd_other _ _ e]
   exact h.own i
 ·by_cases e : i = j
  ·subst e
   rw [upd_same]
   exact .inl rfl
  ·rw [upd_other _ _ e]
   by_cases e2 : k = j
   ·subst e2
    rw [upd_same]
    cases hv : (vs i).ownBlock with
    |none => exact .inl hv
    |some g => exact .inr (by rw [hv]; simp [Value.ownBlock])
   ·rw [upd_other _ _ e2]
    exact h.apart i k hik
theorem Apart2.symm {v u : Value} (h : Apart2 v u) : Apart2 u v := by
 unfold Apart2 at *
 cases hu : u.ownBlock with
 |none => exact .inl rfl
 |some g =>
  rcases h with h | h
  ·exact .inr (by rw [h]; simp)
  ·exact .inr (by rw [hu] at h; exact fun e => h e.symm)
/-- Row j becomes row i; row j is empty then. -/
theorem Rows.move (h : Rows w base vs ls) {i j : Nat} (hij : i ≠ j) : Rows w base (upd (upd vs i (vs j)) j nilS) (upd (upd ls i (ls j)) j []) := by
 have h' : Rows w base (upd (upd vs j nilS) i (vs j)) (upd (upd ls j []) i (ls j)) := by
  have hd := h.drop j
  refine ⟨fun a => ?_, fun a k hak => ?_⟩
  ·by_cases e : a = i
   ·subst e
    rw [upd_same, upd_same]
    exact h.own j
   ·rw [upd_other _ _ e, upd_other _ _ e]
    exact hd.own a
  ·have key : ∀ k, k ≠ i → Apart2 (vs j) (upd vs j nilS k) := fun k hk => by
    by_cases e2 : k = j
    ·subst e2
     rw [upd_same]
     cases hv : (vs k).ownBlock with
     |none => exact .inl hv
     |some g => exact .inr (by rw [hv]; simp [Value.ownBlock])
    ·rw [upd_other _ _ e2]
     exact h.apart j k (fun e => e2 e.symm)
   by_cases e : a = i
   ·subst e
    rw [upd_same, upd_other _ _ (fun e => hak e.symm)]
    exact key k (fun e => hak e.symm)
   ·rw [upd_other _ _ e]
    by_cases e2 : k = i
    ·subst e2
     rw [upd_same]
     exact (key a e).symm
    ·rw [upd_other _ _ e2]
     exact hd.apart a k hak
 have c : ∀ {α : Type} (f : Nat → α) (a b : α), upd (upd f i a) j b = upd (upd f j b) i a := fun f a b => by
  funext k
  by_cases e : k = i
  ·subst e
   rw [upd_other _ _ hij, upd_same, upd_same]
  ·by_cases e2 : k = j
   ·subst e2
    rw [upd_same, upd_other _ _ e, upd_same]
   ·rw [upd_other _ _ e2, upd_other _ _ e, upd_other _ _ e, upd_other _ _ e2]
 rw [c, c]
 exact h'
/-- The hub's block. -/
def HubC (w : World) (b : Nat) (now : Int) (vs : Nat → Value) : Prop := w.heap[b]? = some (.cells #[.int .i64 now, vs 0, vs 1, vs 2, vs 3, vs 4, vs 5, vs 6, vs 7] 48 (0, 0))
variable {b : Nat} {now : Int}
theorem HubC.lt (h : HubC w b now vs) : b < w.heap.size := (Array.getElem?_eq_some_iff.1 h).1
theorem HubC.now_ (h : HubC w b now vs) : w.cell? ⟨b, 0, none⟩ = some (.int .i64 now) := by simp [World.cell?, show w.heap[b]? = _ from h]
theorem HubC.cell (h : HubC w b now vs) {j : Nat} (hj : j < 8) : w.cell? ⟨b, 1 + j, none⟩ = some (vs j) := by
 match j, hj with
 |0, _ | 1, _ | 2, _ | 3, _ | 4, _ | 5, _ | 6, _ | 7, _ => simp [World.cell?, show w.heap[b]? = _ from h]
theorem HubC.frozen (h : HubC w b now vs) (j : Nat) : w.frozen? ⟨b, j, none⟩ = false := by simp [World.frozen?, show w.heap[b]? = _ from h]
theorem HubC.kept (h : HubC w b now vs) {row : Option Nat} (hg : w.grownBy w1 row) (hne : some b ≠ row) : HubC w1 b now vs := (hg.block b h.lt hne).trans h
theorem HubC.below (h : HubC w b now vs) (hb : Below w.heap.size w w1) : HubC w1 b now vs := h.kept (grown_of_below hb) (by simp)
theorem setCell_heap (w : World) (b o : Nat) (v : Value) {cs : Array Value} {t : TypeId} {fz : Nat × Nat} (h : w.heap[b]? = some (.cells cs t fz)) : (w.setCell ⟨b, o, none⟩ v).heap[b]? = some (.cells (cs.setIfInBounds o v) t fz) := by
 obtain ⟨hlt, hk⟩ := Array.getElem?_eq_some_iff.1 h
 show (w.heap.modify b _)[b]? = _
 rw [Array.getElem?_eq_getElem (by rw [Array.size_modify]; exact hlt), Array.getElem_modify_self, hk]
 rfl
theorem HubC.set (h : HubC w b now vs) {j : Nat} (hj : j < 8) (v : Value) : HubC (w.setCell ⟨b, 1 + j, none⟩ v) b now (upd vs j v) := by
 have := setCell_heap w b (1 + j) v h
 unfold HubC
 rw [this]
 match j, hj with
 |0, _ | 1, _ | 2, _ | 3, _ | 4, _ | 5, _ | 6, _ | 7, _ => simp [upd]
theorem HubC.setNow (h : HubC w b now vs) (n : Int) : HubC (w.setCell ⟨b, 0, none⟩ (.int .i64 n)) b n vs := by
 have := setCell_heap w b 0 (.int .i64 n) h
 unfold HubC
 rw [this]
 simp
/-- A row of timers is not the hub's block. -/
theorem HubC.not_row (h : HubC w b now vs) {v : Value} {xs : List T} (ho : Own1 w base v xs) : v.ownBlock ≠ some b := by
 rcases ho.2 with ⟨rfl, _⟩ | ⟨g, cap, cur, rfl, _, hgb, _⟩
 ·simp [Value.ownBlock]
 ·intro e
  obtain rfl : g = b := by simpa [Value.ownBlock] using e
  have := (show w.heap[g]? = _ from h).symm.trans hgb
  simp at this
theorem grownBy_setCell' (W : World) (b o : Nat) (v : Value) : W.grownBy (W.setCell ⟨b, o, none⟩ v) (some b) :=
 ⟨rfl, rfl, rfl, by simp [World.setCell], fun k _ hk => Below.heap_setCell _ _ _ k (fun e => hk (by rw [e]))⟩
end Go.Proofs.Ytggkealdbebbkaa.W10
end
section
namespace Go.Proofs.Ytggkealdbebbkaa.W10
-- part NO
open Go.RowKit Go.Proofs.YtggkealdbebbkaaW.PrintWords Go.Proofs.YtggkealdbebbkaaW.PrintLast Go.Proofs.YtggkealdbebbkaaW.PrintMore
open Go.Sort Go.Lib
set_option linter.unusedVariables false
set_option linter.unusedSimpArgs false
/-- Blocks laid, draws made, and nothing else. -/
def Ex (w w' : World) : Prop := ∃ q os, w' = grow (w.drewN q) os
theorem Ex.refl (w : World) : Ex w w := ⟨0, #[], by simp [World.drewN]⟩
theorem ex_alloc {w w' : World} (h : Ex w w') (o : Obj) : Ex w (w'.alloc o) := by
 obtain ⟨q, os, rfl⟩ := h
 exact ⟨q, os ++ #[o], by rw [alloc_eq_grow, grow_grow]⟩
theorem ex_drewN {w w' : World} (h : Ex w w') (n : Nat) : Ex w (w'.drewN n) := by
 obtain ⟨q, os, rfl⟩ := h
 exact ⟨q + n, os, by simp [World.drewN, grow, Nat.add_assoc]⟩
theorem ex_drew1 {w w' : World} (h : Ex w w') : Ex w w'.drew := ex_drewN h 1
theorem ex_step {w w1 w2 : World} (h : Ex w w1) (k : Ex w1 w2) : Ex w w2 := by
 obtain ⟨q, os, rfl⟩ := k
 obtain ⟨p, os', e⟩ := ex_drewN h q
 exact ⟨p, os' ++ os, by rw [e, grow_grow]⟩
section
variable {P : Program} {ops : Array Oper} {rest : List Oper} {o : Oper} {a : Act} {Q : Exit → Act → World → Prop} {Kc : Act → World → Prop}
theorem box_eventX {W : World} (hgd : o.guard = none) {N : Tmp} (_hd : o.dst = some N) {cs : Array Value} {t : TypeId}
  (hrun : (execOp a.eval o).run P W = .ok (.value (.pointer (some ⟨W.heap.size, 0, none⟩))) (W.alloc (.cells cs t (0, 0))))
  (h : ∀ g, g = W.heap.size → ∀ w1, w1.heap[g]? = some (.cells cs t (0, 0)) → Below W.heap.size W w1 → Ex W w1 → wpList P ops Q rest (a.put o.dst (.pointer (some ⟨g, 0, none⟩))) w1) : wpList P ops Q (o :: rest) a W :=
 Kd.event_run hgd hrun (h _ rfl _ (blk_new W _) (below_alloc (Below.refl _ _) _) (ex_alloc (Ex.refl _) _))
theorem lit_stepX {w0 W W0 : World} (base e : Nat) (hw : Region.wanted o (yielded ops a.tmps) = true) {N : Tmp} (_hd : o.dst = some N) {xs : List Int} {inner : List Value} (hin : inner = xs.map (Value.int .i64))
  (hrun : (execOp a.eval o).run P W = .ok (.value (.slice (some ⟨W.heap.size, 0, none⟩) xs.length xs.length)) (W.alloc (.cells inner.toArray e)))
  (HB : Below base w0 W) (hbase : base ≤ W.heap.size) (hm : xs.length ≤ 9223372036854775807) (HX : Ex W0 W)
  (h : ∀ v1 w1, (Kd.int .i64).R e w1 base (fun _ => True) v1 xs → Below base w0 w1 → Ex W0 w1 → Kc (a.put o.dst v1) w1) : if Region.wanted o (yielded ops a.tmps) = true then Oper.wp P o a W Kc Q else Kc (a.put o.dst undef) W :=
 event_step hw hrun (h _ _ (Kd.R_of_own (by
  have h2 := World.ownsRow_lit (base := base) (e := e) (size := 1) W inner.toArray xs.length hbase (by simpa [maxLen] using hm) (by simp [hin])
  simpa [hin, encs] using h2) (fun _ _ => trivial)) (HB.alloc hbase _) (ex_alloc HX _))
end
set_option maxHeartbeats 8000000 in
set_option maxRecDepth 100000 in
theorem order_ex (k : Nat) (a0_0 : Int) (a0_1 : Int) (a1_0 : Int) (a1_1 : Int) (r : Int) (w : World) (h : Q.wheel_order.f k a0_0 a0_1 a1_0 a1_1 = some r) :
  Calls Try.prog 35 #[.agg #[.int .i64 a0_0, .int .i64 a0_1], .agg #[.int .i64 a1_0, .int .i64 a1_1]] w fun e w' => e = .returned (.int .i64 r) ∧ Ex w w' := by
 have hu33 := Try.underlying33
 have HB := Aside0.mk (Below.refl w.heap.size w)
 have HX := Aside0.mk (Ex.refl w)
 have H : ((Q.cmp_Compare_int.f a0_1 a1_1).bind fun t106 => ((Q.cmp_Compare_int.f a0_0 a1_0).bind fun t107 => ((Q.cmp_Or_int.f k (([t106, t107] : List Int))).bind fun t111 => (some t111)))) = some r := h
 clear h
 replace H := Option.bind_eq_some_iff.mp H
 obtain ⟨t106, A30, H⟩ := H
 replace H : ((Q.cmp_Compare_int.f a0_0 a1_0).bind fun t107 => ((Q.cmp_Or_int.f k (([t106, t107] : List Int))).bind fun t111 => (some t111))) = some r := H
 have A3 := Aside0.mk A30
 clear A30
 replace H := Option.bind_eq_some_iff.mp H
 obtain ⟨t107, A40, H⟩ := H
 replace H : ((Q.cmp_Or_int.f k (([t106, t107] : List Int))).bind fun t111 => (some t111)) = some r := H
 have A4 := Aside0.mk A40
 clear A40
 obtain ⟨y108, hy108⟩ : ∃ y_ : List Int, y_ = (([t106, t107] : List Int)) := ⟨_, rfl⟩
 replace H : ((Q.cmp_Or_int.f k y108).bind fun t111 => (some t111)) = some r := by first | (rw [hy108]; with_reducible exact H) | (have H2_ := (Option.bind_some _ _).symm.trans H; rw [hy108]; with_reducible exact H2_) | (have H2_ := (Option.bind_some _ _).symm.trans H; with_reducible exact H2_) | with_reducible exact H | (rw [hy108]; exact H) | exact H
 have Ny108 := Aside0.mk hy108
 clear hy108
 replace H := Option.bind_eq_some_iff.mp H
 obtain ⟨t111, A50, H⟩ := H
 replace H : (some t111) = some r := H
 have A5 := Aside0.mk A50
 clear A50
 obtain rfl := Option.some.inj H
 go_enter Try.func35, Try.ntmps35
 try go_wp2_with (first | ((with_reducible refine gate_dst (N := 2) rfl ?_); refine box_eventX ?hg (N := 2) ?hd (cs := #[.int .i64 a0_0, .int .i64 a0_1]) (t := 33) ?hr ?_; (case hd => rfl); (case hg => rfl); (case hr => first | (go_simp; done) | (go_simp; rfl)); intro gb104 hg w6 hbox hb hx_; have HX' := Aside0.mk (ex_step (by repeat (first | exact HX.out | apply ex_alloc | apply ex_drewN | apply ex_drew1)) hx_); clear HX; have HX := HX'; clear HX'; clear hx_; have n0_ := Aside0.mk (below_step (by repeat (first | (with_reducible first | exact HB.out | apply below_alloc | apply pw_below_drewN | apply below_drew1) | exact HB.out)) hb); have n1_ := Aside0.mk (hbox); have n2_ := Aside0.mk ((by rw [hg]; exact (below_size (by repeat (first | (with_reducible first | exact HB.out | apply below_alloc | apply pw_below_drewN | apply below_drew1) | exact HB.out))) : w.heap.size ≤ gb104)); have n3_ := Aside0.mk ((by rw [hg]; exact (below_size (by repeat (first | (with_reducible first | exact HB.out | apply below_alloc | apply pw_below_drewN | apply below_drew1) | exact HB.out))) : w.heap.size ≤ gb104)); clear HB; have HB := n0_; have BK104 := n1_; have GW104 := n2_; have GE104 := n3_; clear n0_ n1_ n2_ n3_; clear hb hbox hg) | ((with_reducible refine gate_dst (N := 3) rfl ?_); refine box_eventX ?hg (N := 3) ?hd (cs := #[.int .i64 a1_0, .int .i64 a1_1]) (t := 33) ?hr ?_; (case hd => rfl); (case hg => rfl); (case hr => first | (go_simp; done) | (go_simp; rfl)); intro gb105 hg w7 hbox hb hx_; have HX' := Aside0.mk (ex_step (by repeat (first | exact HX.out | apply ex_alloc | apply ex_drewN | apply ex_drew1)) hx_); clear HX; have HX := HX'; clear HX'; clear hx_; have n0_ := Aside0.mk (blk_below (g := gb104) (o := .cells #[.int .i64 a0_0, .int .i64 a0_1] 33 (0, 0)) (by (with_reducible repeat (first | refine blk_drewN ?_ _ | refine blk_drew ?_ | refine blk_alloc ?_ _)); exact BK104.out) hb); have n1_ := Aside0.mk (below_step (by repeat (first | (with_reducible first | exact HB.out | apply below_alloc | apply pw_below_drewN | apply below_drew1 | refine below_set ?_ GE104.out) | exact HB.out)) hb); have n2_ := Aside0.mk (hbox); have n3_ := Aside0.mk ((by rw [hg]; exact (below_size (by repeat (first | (with_reducible first | exact HB.out | apply below_alloc | apply pw_below_drewN | apply below_drew1 | refine below_set ?_ GE104.out) | exact HB.out))) : w.heap.size ≤ gb105)); have n4_ := Aside0.mk ((by rw [hg]; exact (below_size (by repeat (first | (with_reducible first | exact HB.out | apply below_alloc | apply pw_below_drewN | apply below_drew1 | refine below_set ?_ GE104.out) | exact HB.out))) : w.heap.size ≤ gb105)); have n5_ := Aside0.mk ((by rw [hg]; exact Nat.ne_of_lt (blk_lt (g := gb104) (o := .cells #[.int .i64 a0_0, .int .i64 a0_1] 33 (0, 0)) (by (with_reducible repeat (first | refine blk_drewN ?_ _ | refine blk_drew ?_ | refine blk_alloc ?_ _)); exact BK104.out)) : gb104 ≠ gb105)); have n6_ := Aside0.mk ((by rw [hg]; exact Nat.ne_of_gt (blk_lt (g := gb104) (o := .cells #[.int .i64 a0_0, .int .i64 a0_1] 33 (0, 0)) (by (with_reducible repeat (first | refine blk_drewN ?_ _ | refine blk_drew ?_ | refine blk_alloc ?_ _)); exact BK104.out)) : gb105 ≠ gb104)); clear BK104; clear HB; have BK104 := n0_; have HB := n1_; have BK105 := n2_; have GW105 := n3_; have GE105 := n4_; have NB104_105 := n5_; have NB105_104 := n6_; clear n0_ n1_ n2_ n3_ n4_ n5_ n6_; clear hb hbox hg))
 have n0_ := Aside0.mk (blk_drew BK104.out)
 have n1_ := Aside0.mk (blk_drew BK105.out)
 have n2_ := Aside0.mk (below_drew1 HB.out)
 have HX' := Aside0.mk (ex_drew1 HX.out)
 clear HX
 have HX := HX'
 clear HX'
 clear BK104
 clear BK105
 clear HB
 have BK104 := n0_
 have BK105 := n1_
 have HB := n2_
 clear n0_ n1_ n2_
 refine start_ (n := 13) (S := fun w' => w'.cell? ⟨gb104, 0, none⟩ = some (.int .i64 a0_0) ∧ w'.cell? ⟨gb104, 1, none⟩ = some (.int .i64 a0_1) ∧ w'.cell? ⟨gb105, 0, none⟩ = some (.int .i64 a1_0) ∧ w'.cell? ⟨gb105, 1, none⟩ = some (.int .i64 a1_1)) (ds := []) #[false, false, false, false, false, false, false, false, false, false, false, false, false] (by kernel_rfl) rfl rfl ⟨(blk_cell BK104.out 0).trans rfl, (blk_cell BK104.out 1).trans rfl, (blk_cell BK105.out 0).trans rfl, (blk_cell BK105.out 1).trans rfl⟩ (fun hHeld => ?_); refine with_tabW Q.wheel_order.tab1 Q.wheel_order.bits1 (fun HT_ HW_ => ?_)
 generalize w7.drew = w8 at BK104 BK105 HB HX hHeld ⊢
 refine pure_ (i := 0) (N := some 5) (v := ?_) (a' := ?_) #[true, false, false, false, false, false, false, false, false, false, false, false, false] rfl rfl (any_of HT_.out (by kernel_rfl)) (fun _ _ _ h => h) (Or.inl ⟨by rfl, ?_⟩) ?_ ?_
 rotate_left
 ·intro w'
  go_simp
  with_reducible rfl
 rotate_left
 ·simp only [Act.put, List.setIfInBounds_toArray, List.set_cons_zero, List.set_cons_succ, i64_w, i32_w]
  rfl
 refine pure_ (i := 2) (N := some 7) (v := ?_) (a' := ?_) #[true, false, true, false, false, false, false, false, false, false, false, false, false] rfl rfl (any_of HT_.out (by kernel_rfl)) (fun _ _ _ h => h) (Or.inl ⟨by rfl, ?_⟩) ?_ ?_
 rotate_left
 ·intro w'
  go_simp
  with_reducible rfl
 rotate_left
 ·simp only [Act.put, List.setIfInBounds_toArray, List.set_cons_zero, List.set_cons_succ, i64_w, i32_w]
  rfl
 refine pure_ (i := 5) (N := some 10) (v := ?_) (a' := ?_) #[true, false, true, false, false, true, false, false, false, false, false, false, false] rfl rfl (any_of HT_.out (by kernel_rfl)) (fun _ _ _ h => h) (Or.inl ⟨by rfl, ?_⟩) ?_ ?_
 rotate_left
 ·intro w'
  go_simp
  with_reducible rfl
 rotate_left
 ·simp only [Act.put, List.setIfInBounds_toArray, List.set_cons_zero, List.set_cons_succ, i64_w, i32_w]
  rfl
 refine pure_ (i := 7) (N := some 12) (v := ?_) (a' := ?_) #[true, false, true, false, false, true, false, true, false, false, false, false, false] rfl rfl (any_of HT_.out (by kernel_rfl)) (fun _ _ _ h => h) (Or.inl ⟨by rfl, ?_⟩) ?_ ?_
 rotate_left
 ·intro w'
  go_simp
  with_reducible rfl
 rotate_left
 ·simp only [Act.put, List.setIfInBounds_toArray, List.set_cons_zero, List.set_cons_succ, i64_w, i32_w]
  rfl
 refine take_ (i := 1) (N := some 6) (v := ?_) (a' := ?_) #[true, true, true, false, false, true, false, true, false, false, false, false, false] rfl rfl (take_ofW HT_.out HW_.out (by kernel_rfl)) (fun _ _ _ h => h) (Or.inl ⟨by rfl, ?_⟩) hHeld ?_ ?_
 rotate_left
 ·rintro w' ⟨s0, s1, s2, s3⟩
  go_simp
  with_reducible rfl
 rotate_left
 ·simp only [Act.put, List.setIfInBounds_toArray, List.set_cons_zero, List.set_cons_succ, i64_w, i32_w]
  rfl
 refine take_ (i := 3) (N := some 8) (v := ?_) (a' := ?_) #[true, true, true, true, false, true, false, true, false, false, false, false, false] rfl rfl (take_ofW HT_.out HW_.out (by kernel_rfl)) (fun _ _ _ h => h) (Or.inl ⟨by rfl, ?_⟩) hHeld ?_ ?_
 rotate_left
 ·rintro w' ⟨s0, s1, s2, s3⟩
  go_simp
  with_reducible rfl
 rotate_left
 ·simp only [Act.put, List.setIfInBounds_toArray, List.set_cons_zero, List.set_cons_succ, i64_w, i32_w]
  rfl
 refine take_ (i := 6) (N := some 11) (v := ?_) (a' := ?_) #[true, true, true, true, false, true, true, true, false, false, false, false, false] rfl rfl (take_ofW HT_.out HW_.out (by kernel_rfl)) (fun _ _ _ h => h) (Or.inl ⟨by rfl, ?_⟩) hHeld ?_ ?_
 rotate_left
 ·rintro w' ⟨s0, s1, s2, s3⟩
  go_simp
  with_reducible rfl
 rotate_left
 ·simp only [Act.put, List.setIfInBounds_toArray, List.set_cons_zero, List.set_cons_succ, i64_w, i32_w]
  rfl
 refine take_ (i := 8) (N := some 13) (v := ?_) (a' := ?_) #[true, true, true, true, false, true, true, true, true, false, false, false, false] rfl rfl (take_ofW HT_.out HW_.out (by kernel_rfl)) (fun _ _ _ h => h) (Or.inl ⟨by rfl, ?_⟩) hHeld ?_ ?_
 rotate_left
 ·rintro w' ⟨s0, s1, s2, s3⟩
  go_simp
  with_reducible rfl
 rotate_left
 ·simp only [Act.put, List.setIfInBounds_toArray, List.set_cons_zero, List.set_cons_succ, i64_w, i32_w]
  rfl
 refine one_ (i := 4) (N := some 9) #[true, true, true, true, true, true, true, true, true, false, false, false, false] rfl rfl (one_of HT_.out (by kernel_rfl)) (by decide) (fun K hK => ?_)
 refine goes_ Try.func42 (by kernel_rfl) rfl #[.int .i64 a0_1, .int .i64 a1_1] (by rfl) rfl rfl (by (try simp only [List.map_toArray, List.map_cons, List.map_nil]); first | done | rfl | (simp only [List.length_drop, List.length_take]; rfl)) ?_
 with_reducible refine (Q.cmp_Compare_int.calls a0_1 a1_1 t106 _ A3.out).mono ?_
 rintro e w' ⟨rfl, ⟨nd, rfl⟩⟩
 refine ⟨_, rfl, ?_⟩
 refine hK.out _ _ ⟨(blk_cell BK104.out 0).trans rfl, (blk_cell BK104.out 1).trans rfl, (blk_cell BK105.out 0).trans rfl, (blk_cell BK105.out 1).trans rfl⟩ (fun hHeld => ?_)
 clear hK K
 refine norm_ (a' := ?_) ?_ ?_
 rotate_left
 ·show Act.put _ (some 9) _ = _
  simp only [Act.put, List.setIfInBounds_toArray, List.set_cons_zero, List.set_cons_succ, i64_w, i32_w]
  rfl
 refine one_ (i := 9) (N := some 14) #[true, true, true, true, true, true, true, true, true, true, false, false, false] rfl rfl (one_of HT_.out (by kernel_rfl)) (by decide) (fun K hK => ?_)
 refine goes_ Try.func42 (by kernel_rfl) rfl #[.int .i64 a0_0, .int .i64 a1_0] (by rfl) rfl rfl (by (try simp only [List.map_toArray, List.map_cons, List.map_nil]); first | done | rfl | (simp only [List.length_drop, List.length_take]; rfl)) ?_
 with_reducible refine (Q.cmp_Compare_int.calls a0_0 a1_0 t107 _ A4.out).mono ?_
 rintro e w' ⟨rfl, ⟨nd, rfl⟩⟩
 refine ⟨_, rfl, ?_⟩
 refine hK.out _ _ ⟨(blk_cell BK104.out 0).trans rfl, (blk_cell BK104.out 1).trans rfl, (blk_cell BK105.out 0).trans rfl, (blk_cell BK105.out 1).trans rfl⟩ (fun hHeld => ?_)
 clear hK K
 refine norm_ (a' := ?_) ?_ ?_
 rotate_left
 ·show Act.put _ (some 14) _ = _
  simp only [Act.put, List.setIfInBounds_toArray, List.set_cons_zero, List.set_cons_succ, i64_w, i32_w]
  rfl
 refine one_ (i := 10) (N := some 15) #[true, true, true, true, true, true, true, true, true, true, true, false, false] rfl rfl (one_of HT_.out (by kernel_rfl)) (by decide) (fun K hK => ?_)
 refine lit_stepX _ 3 ?hg (N := 15) ?hd (xs := ([t106, t107] : List Int)) (inner := [.int .i64 t106, .int .i64 t107]) rfl ?hr (Below.refl _ _) (Nat.le_refl _) (by simp) (by repeat (first | exact HX.out | apply ex_alloc | apply ex_drewN | apply ex_drew1)) ?_; (case hd => rfl); (case hg => rfl); (case hr => first | (go_simp; done) | (go_simp; rfl))
 intro v109 w9 ho10 hb HX'
 clear HX
 have HX := Aside0.mk HX'
 clear HX'
 (first | rw [← Ny108.out] at ho10 | (simp only [Int.reduceToNat] at ho10; rw [← Ny108.out] at ho10))
 have n0_ := Aside0.mk (Kd.R_lower ho10 (below_size (by repeat (first | (with_reducible first | exact HB.out | apply below_alloc | apply pw_below_drewN | apply below_drew1 | refine below_set ?_ GE104.out | refine below_set ?_ GE105.out) | exact HB.out))))
 have n1_ := Aside0.mk (blk_below (g := gb104) (o := .cells #[.int .i64 a0_0, .int .i64 a0_1] 33 (0, 0)) (by (with_reducible repeat (first | refine blk_drewN ?_ _ | refine blk_drew ?_ | refine blk_alloc ?_ _)); exact BK104.out) hb)
 have n2_ := Aside0.mk (blk_below (g := gb105) (o := .cells #[.int .i64 a1_0, .int .i64 a1_1] 33 (0, 0)) (by (with_reducible repeat (first | refine blk_drewN ?_ _ | refine blk_drew ?_ | refine blk_alloc ?_ _)); exact BK105.out) hb)
 have n3_ := Aside0.mk (below_step (by repeat (first | (with_reducible first | exact HB.out | apply below_alloc | apply pw_below_drewN | apply below_drew1 | refine below_set ?_ GE104.out | refine below_set ?_ GE105.out) | exact HB.out)) hb)
 clear BK104
 clear BK105
 clear HB
 have HO110 := n0_
 have BK104 := n1_
 have BK105 := n2_
 have HB := n3_
 clear n0_ n1_ n2_ n3_
 clear hb ho10
 obtain ⟨Ao11, co11, eo11⟩ := Kd.R_slice HO110.out
 (first | subst eo11 | (injection eo11 with f1_ f2_ f3_; have f4_ := f1_.symm; have f5_ := f3_.symm; clear f1_ f2_ f3_; subst f4_; subst f5_))
 refine hK.out _ _ ⟨(blk_cell BK104.out 0).trans rfl, (blk_cell BK104.out 1).trans rfl, (blk_cell BK105.out 0).trans rfl, (blk_cell BK105.out 1).trans rfl⟩ (fun hHeld => ?_)
 clear hK K
 refine norm_ (a' := ?_) ?_ ?_
 rotate_left
 ·show Act.put _ (some 15) _ = _
  simp only [Act.put, List.setIfInBounds_toArray, List.set_cons_zero, List.set_cons_succ, i64_w, i32_w]
  rfl
 refine one_ (i := 11) (N := some 16) #[true, true, true, true, true, true, true, true, true, true, true, true, false] rfl rfl (one_of HT_.out (by kernel_rfl)) (by decide) (fun K hK => ?_)
 refine goes_ Try.func41 (by kernel_rfl) rfl #[.slice Ao11 y108.length co11] (by rfl) rfl rfl (by (try simp only [List.map_toArray, List.map_cons, List.map_nil]); first | done | rfl | (simp only [List.length_drop, List.length_take]; rfl)) ?_
 with_reducible refine (Q.cmp_Or_int.calls k _ _ y108 t111 _ ?side1 ?side2 A5.out).mono ?_
 (case side1 => repeat (first | exact (Kd.R_reads' HO110.out).2.2 | (with_reducible refine Kd.C_alloc ?_ _) | (with_reducible refine Kd.C_drewN ?_ _) | (with_reducible refine Kd.C_drew ?_)))
 (case side2 => exact (Kd.R_reads' HO110.out).2.1)
 rintro e w' ⟨rfl, ⟨nd, rfl⟩⟩
 refine ⟨_, rfl, ?_⟩
 refine hK.out _ _ ⟨(blk_cell BK104.out 0).trans rfl, (blk_cell BK104.out 1).trans rfl, (blk_cell BK105.out 0).trans rfl, (blk_cell BK105.out 1).trans rfl⟩ (fun hHeld => ?_)
 clear hK K
 refine norm_ (a' := ?_) ?_ ?_
 rotate_left
 ·show Act.put _ (some 16) _ = _
  simp only [Act.put, List.setIfInBounds_toArray, List.set_cons_zero, List.set_cons_succ, i64_w, i32_w]
  rfl
 refine pure_ (i := 12) (N := some 4) (v := ?_) (a' := ?_) #[true, true, true, true, true, true, true, true, true, true, true, true, true] rfl rfl (any_of HT_.out (by kernel_rfl)) (fun _ _ _ h => h) (Or.inl ⟨by rfl, ?_⟩) ?_ ?_
 rotate_left
 ·intro w'
  go_simp
  with_reducible rfl
 rotate_left
 ·simp only [Act.put, List.setIfInBounds_toArray, List.set_cons_zero, List.set_cons_succ, i64_w, i32_w]
  rfl
 refine done_ (done_of HT_.out (by kernel_rfl)) ?_
 try go_wp2
 go_ret
 exact ⟨by first | rfl | (simp [errW_none, errW_some] <;> rfl) | (simp [*, errW_none, errW_some] <;> rfl), (by repeat (first | exact HX.out | apply ex_alloc | apply ex_drewN | apply ex_drew1))⟩
end Go.Proofs.Ytggkealdbebbkaa.W10
end
section
namespace Go.Proofs.Ytggkealdbebbkaa.W10
-- part NT
open Go.RowKit Go.Sort Go.Lib
/-- The order as a number. -/
def cmpI (x y : Int) : Int := if x < y then -1 else if x > y then 1 else 0
def cf (x y : T) : Int := if cmpI x.2 y.2 = 0 then cmpI x.1 y.1 else cmpI x.2 y.2
theorem or_f (a b : Int) : Q.cmp_Or_int.f 4 [a, b] = some (if a = 0 then b else a) := by
 by_cases ha : a = 0
 ·subst ha
  by_cases hb : b = 0
  ·subst hb; decide +kernel
  ·simp [Q.cmp_Or_int.f, Q.cmp_Or_int.l0, YtggkealdbebbkaaW.PrintWords.rd, hb, wrap64]
 ·simp [Q.cmp_Or_int.f, Q.cmp_Or_int.l0, YtggkealdbebbkaaW.PrintWords.rd, ha]
theorem compare_f (a b : Int) : Q.cmp_Compare_int.f a b = some (cmpI a b) := by
 unfold Q.cmp_Compare_int.f Q.cmp_isNaN_int.f cmpI
 simp
 split
 ·rfl
 ·split <;> rfl
theorem order_f (x y : T) : Q.wheel_order.f 4 x.1 x.2 y.1 y.2 = some (cf x y) := by
 unfold Q.wheel_order.f
 rw [compare_f, compare_f, Option.bind_some, Option.bind_some, or_f]
 rfl
/-- x stands ahead of y. -/
def lt (x y : T) : Bool := decide (x.2 < y.2 ∨ x.2 = y.2 ∧ x.1 < y.1)
theorem lt_cf (x y : T) : ltOf cf x y = lt x y := by
 unfold ltOf lt cf cmpI
 by_cases h1 : x.2 < y.2
 ·simp [h1]
 ·by_cases h2 : y.2 < x.2
  ·simp [h1, h2]; omega
  ·have e : x.2 = y.2 := by omega
   by_cases h3 : x.1 < y.1
   ·simp [e, h3]
   ·by_cases h4 : y.1 < x.1 <;> simp [e, h3, h4]
theorem swo : SWO (ltOf cf) where
 irrefl x := by rw [lt_cf]; simp [lt]
 trans x y z h1 h2 := by rw [lt_cf] at *; simp [lt] at *; omega
 ntrans x y z h1 h2 := by rw [lt_cf] at *; simp [lt] at *; omega
theorem total (x y : T) (h1 : ltOf cf x y = false) (h2 : ltOf cf y x = false) : x = y := by
 rw [lt_cf] at *
 simp [lt] at h1 h2
 exact Prod.ext (by omega) (by omega)
def sortT (xs : List T) : List T := xs.mergeSort fun x y => !(ltOf cf) y x
theorem sortT_len (xs : List T) : (sortT xs).length = xs.length := List.length_mergeSort _
theorem cmpLays (blk off size : Nat) (w : World) : CmpLays Try.prog 35 #[] enc2 2 cf blk off size w := fun m os dk hd x y => by
 have := order_ex 4 x.1 x.2 y.1 y.2 (cf x y) (sortWorldK enc2 2 w blk off m dk os) (order_f x y)
 exact this
theorem flat_get : ∀ (xs : List T) (t : Nat), t < xs.length * 2 → (flat xs)[t]! = (enc2 (xs[t / 2]!))[t % 2]!
 |[], t, h => by simp at h
 |x :: r, 0, _ => by simp [flat, enc2]
 |x :: r, 1, _ => by simp [flat, enc2]
 |x :: r, t + 2, h => by
  have ih := flat_get r t (by simp at h; omega)
  have e1 : (t + 2) / 2 = t / 2 + 1 := by omega
  have e2 : (t + 2) % 2 = t % 2 := by omega
  rw [e1, e2]
  have e3 : (flat (x :: r))[t + 2]! = (flat r)[t]! := by simp [flat, enc2]
  rw [e3, ih]
  simp
theorem flatK_flat (xs : List T) : flatK enc2 2 xs.toArray = (flat xs).toArray := by
 refine ext_get! (by simp [flat_len]) fun t ht => ?_
 have ht' : t < xs.length * 2 := by simpa using ht
 rw [get_flatK _ _ _ t (by simpa using ht')]
 have := flat_get xs t ht'
 simpa using this.symm
theorem heap_sorted {w : World} {g n : Nat} {os : Array Obj} {cur : Array Value} {e : TypeId} {fr : Nat × Nat} (F : Array Value) (hb : w.heap[g]? = some (.cells cur e fr)) :
  (grow (putRow id (Sort.ahead w n) g 0 F) os).heap[g]? = some (.cells (putCells id 0 F cur) e fr) := by
 have hg : g < w.heap.size := (Array.getElem?_eq_some_iff.1 hb).1
 rw [heap_grow_old _ _ (by simpa using hg)]
 simp [putRow, mapBlock, Sort.ahead, Array.getElem?_modify, hb, onCells]
theorem grownBy_sorted {w : World} {g n : Nat} {os : Array Obj} (F : Array Value) : w.grownBy (grow (putRow id (Sort.ahead w n) g 0 F) os) (some g) := by
 refine ⟨rfl, rfl, rfl, by simp, fun k hk hne => ?_⟩
 rw [heap_grow_old _ _ (by simpa using hk)]
 have : g ≠ k := fun e => hne (by rw [e])
 simp [putRow, mapBlock, Sort.ahead, Array.getElem?_modify, this]
theorem take_putCells (cur : Array Value) (ts : List Value) (h : ts.length ≤ cur.size) : (putCells id 0 ts.toArray cur).toList.take ts.length = ts := by
 apply List.ext_getElem?
 intro j
 by_cases hj : j < ts.length
 ·rw [List.getElem?_take_of_lt hj, Array.getElem?_toList]
  simp [putCells, hj, show j < cur.size by omega]
 ·rw [List.getElem?_take_eq_none (by omega), List.getElem?_eq_none (by omega)]
theorem sort_row {w : World} {base : Nat} {v : Value} {xs : List T} (ho : Own1 w base v xs) (hl : xs.length ≤ 1000) :
  Calls Try.prog 37 #[v, .func (.func 35) #[] #[]] w fun e w' => e = .returned (.tuple #[]) ∧ Own1 w' base v (sortT xs) ∧ w.grownBy w' v.ownBlock := by
 have ho' := ho
 obtain ⟨hlen, hv⟩ := ho
 rcases hv with ⟨rfl, h0⟩ | ⟨g, cap, cur, rfl, hbase, hgb, h1, h2, h3, h4⟩
 ·have hx : xs = [] := List.length_eq_zero_iff.1 h0
  subst hx
  refine (AnyF.slices_SortFunc_none { Try.sortT with } none 0 (.func (.func 35) #[] #[]) w).mono fun e w' ⟨he, hw⟩ => ?_
  subst hw
  exact ⟨he, by simpa [sortT] using ho', ⟨rfl, rfl, rfl, Nat.le_refl _, fun _ _ _ => rfl⟩⟩
 ·have hH : HoldsK enc2 2 w g 0 xs.toArray := by
   unfold HoldsK
   rw [flatK_flat]
   intro j hj
   have hj' : j < xs.length * 2 := by simpa [flat_len] using hj
   have hc := World.ownsRow.cellAt ho' j hj'
   refine ⟨?_, by simp [World.frozen?, hgb]⟩
   rw [Nat.zero_add, hc]
   have : j < (flat xs).length := by rw [flat_len]; exact hj'
   simp [List.getElem?_eq_getElem this]
  have hcon := AnyQ.slices_SortFunc_total Try.sortT 2 Try.isAgg33 Try.sizeOf33 enc2 (fun _ => rfl) (fun x v hv => by simp [enc2] at hv; rcases hv with rfl | rfl <;> rfl) cf swo 35 #[] g 0 cap xs.toArray w
   (enters_of Try.func35 (by kernel_rfl) rfl) (cmpLays g 0 _ w) hH (Array.getElem?_eq_some_iff.1 hgb).1 (by simp; omega) total
  change Calls Try.prog 37 _ _ _ at hcon
  refine hcon.mono fun e w' ⟨he, n, os, hw⟩ => ?_
  subst hw
  have e : (xs.toArray.toList.mergeSort fun x y => !(ltOf cf) y x) = sortT xs := by simp [sortT]
  rw [e]
  unfold sortWorldK putRowK
  rw [flatK_flat]
  refine ⟨he, ⟨by rw [flat_len], .inr ⟨g, cap, _, by simp [sortT_len], hbase, heap_sorted _ hgb, by rw [sortT_len]; exact h1, h2, by simp [putCells, h3], ?_⟩⟩, grownBy_sorted _⟩
  rw [← flat_len]
  refine take_putCells _ _ ?_
  rw [flat_len, sortT_len, h3]
  omega
end Go.Proofs.Ytggkealdbebbkaa.W10
end
section
namespace Go.Proofs.Ytggkealdbebbkaa.W10
-- part NH
open Go.RowKit Go.Proofs.YtggkealdbebbkaaW.PrintWords Go.Proofs.YtggkealdbebbkaaW.PrintLast Go.Proofs.YtggkealdbebbkaaW.PrintMore
set_option linter.unusedVariables false
set_option linter.unusedSimpArgs false
theorem info33 : (Try.prog.info? 33).map (fun i => (i.zero, i.size, i.bytes)) = some (some (.agg #[.int .i64 0, .int .i64 0]), 2, 16) := by kernel_rfl
def slotN (a : Int) : Nat := (Go.bits .and .i64 a 7).toNat
variable {w : World} {base b : Nat} {now : Int} {vs : Nat → Value} {ls : Nat → List T}
def put.T : Bool × List (List Nat × List Nat) := (true, [([], []), ([], []), ([], []), ([], []), ([2], [2]), ([4], [4]), ([5, 3], [3, 5]), ([6], [6]), ([], []), ([8], [8]), ([7, 9], [7, 9]), ([0], [0]), ([11], [11]), ([12, 1, 0, 1, 2, 3, 4, 5, 6, 7, 8, 9, 10], [1, 12]), ([13, 10, 10, 0, 1, 2, 3, 4, 5, 6, 7, 8, 9, 10], [10, 13])])
def put.B : List Nat := [0, 0, 0, 0, 4, 20, 60, 124, 0, 256, 1020, 1, 2049, 8191, 16383]
theorem put.tab : rtab .any (opsOf Try.f32 2) = put.T := by kernel_rfl
theorem put.bits : waitsOk put.T.2 put.B = true := by kernel_rfl
theorem grown_drew {W W' : World} {row : Option Nat} (h : W.drew.grownBy W' row) : W.grownBy W' row := by
 obtain ⟨h1, h2, h3, h4, h5⟩ := h
 exact ⟨h1, h2, h3, h4, h5⟩
theorem append_run {P : Program} {a : Act} {o : Oper} {t : TypeId} {s x : Operand} {v r : Value} {W W' : World} (ho : o.op = .call { callee := .builtin .append, args := #[s, x], argTypes := #[t, t] }) (hs : a.eval s = v) {u : Value} (hx : a.eval x = u) (h : (Builtin.append_ #[t, t] o.type #[v, u]).run P W = .ok r W') : (execOp a.eval o).run P W = .ok (.value r) W' := by
 unfold execOp
 simp only [ho, resolve, invoke, builtin, Sem.run_bind, Sem.run_pure, Result.andThen_ok, List.map_toArray, List.map_cons, List.map_nil, hs, hx, h]
theorem store_stepX {P : Program} {ops : Array Oper} {o : Oper} {a : Act} {Q : Exit → Act → World → Prop} {Kc : Act → World → Prop} {W w1 : World} (hw : Region.wanted o (yielded ops a.tmps) = true) (hrun : (execOp a.eval o).run P W = .ok .skip w1) (h : Kc (a.put o.dst undef) w1) : if Region.wanted o (yielded ops a.tmps) = true then Oper.wp P o a W Kc Q else Kc (a.put o.dst undef) W := by
 rw [if_pos hw]
 unfold Oper.wp
 rw [hrun]
 exact h
/-- A timer's own two cells. -/
def Box2 (w : World) (g : Nat) (x : T) : Prop := w.heap[g]? = some (.cells #[.int .i64 x.1, .int .i64 x.2] 33 (0, 0))
theorem Box2.new (w : World) (x : T) : Box2 (w.alloc (.cells #[.int .i64 x.1, .int .i64 x.2] 33)) w.heap.size x := blk_new w _
theorem Box2.lt {w : World} {g : Nat} {x : T} (h : Box2 w g x) : g < w.heap.size := (Array.getElem?_eq_some_iff.1 h).1
theorem Box2.c0 {w : World} {g : Nat} {x : T} (h : Box2 w g x) : w.cell? ⟨g, 0, none⟩ = some (.int .i64 x.1) := by simp [World.cell?, show w.heap[g]? = _ from h]
theorem Box2.c1 {w : World} {g : Nat} {x : T} (h : Box2 w g x) : w.cell? ⟨g, 1, none⟩ = some (.int .i64 x.2) := by simp [World.cell?, show w.heap[g]? = _ from h]
theorem Box2.kept {w w1 : World} {g : Nat} {x : T} (h : Box2 w g x) {row : Option Nat} (hg : w.grownBy w1 row) (hne : some g ≠ row) : Box2 w1 g x := (hg.block g h.lt hne).trans h
theorem Box2.below {w w1 : World} {g : Nat} {x : T} (h : Box2 w g x) (hb : Below w.heap.size w w1) : Box2 w1 g x := h.kept (grown_of_below hb) (by simp)
/-- A slice that owns an element at least is written out. -/
theorem ownsRow_succ {W : World} {base : Nat} {e : TypeId} {size : Nat} {v : Value} {k : Nat} {xs : List Value} (h : W.ownsRow base e size v (k + 1) xs) : ∃ g cap, v = .slice (some ⟨g, 0, none⟩) (k + 1) cap := by
 rcases h.2 with ⟨_, h0⟩ | ⟨g, cap, _, rfl, _⟩
 ·omega
 ·exact ⟨g, cap, rfl⟩
theorem own_base {w : World} {base : Nat} {v : Value} {xs : List T} (h : Own1 w base v xs) : ∀ k, v.ownBlock = some k → base ≤ k ∧ k < w.heap.size := World.ownsRow.lt h
set_option maxHeartbeats 2000000 in
set_option maxRecDepth 100000 in
theorem put_ (hH : HubC w b now vs) (hR : Rows w base vs ls) (hbase : base ≤ b) (x : T) (s0 : 0 ≤ Go.bits .and .i64 x.2 7) (s1 : Go.bits .and .i64 x.2 7 < 8) (hl : (ls (slotN x.2)).length < 1000) :
  Calls Try.prog 32 #[.pointer (some ⟨b, 0, none⟩), .agg #[.int .i64 x.1, .int .i64 x.2]] w fun e w' => e = .returned (.tuple #[]) ∧ ∃ v', HubC w' b now (upd vs (slotN x.2) v') ∧ Rows w' base (upd vs (slotN x.2) v') (upd ls (slotN x.2) (ls (slotN x.2) ++ [x])) ∧ Below base w w' := by
 have hu33 := Try.underlying33
 have hu48 := Try.underlying48
 have hu46 := Try.underlying46
 have HH := Aside0.mk hH
 have HR := Aside0.mk hR
 have hslot := Aside0.mk (fun W => Q.wheel_slot.calls x.2 (Go.bits .and .i64 x.2 7) W rfl)
 unfold slotN at *
 generalize Go.bits .and .i64 x.2 7 = s at *
 clear hH hR
 go_enter Try.func32, Try.ntmps32
 go_wp2_with (go_at_call 40; refine (hslot.out _).mono ?_; rintro e w1 ⟨rfl, ⟨nd, rfl⟩⟩)
 obtain ⟨W1, hW1⟩ : ∃ W1, (w.alloc (.cells #[.int .i64 x.1, .int .i64 x.2] 33)).drewN nd = W1 := ⟨_, rfl⟩
 have HB := Aside0.mk (show Below w.heap.size w W1 by rw [← hW1]; exact pw_below_drewN (below_alloc (Below.refl _ _) _) _)
 have HX := Aside0.mk (show Box2 W1 w.heap.size x by rw [← hW1]; exact Box2.new w x)
 rw [hW1]
 clear hW1
 have HH1 := Aside0.mk (HH.out.below HB.out)
 have HR1 := Aside0.mk (HR.out.below HB.out)
 have s1' : s.toNat < 8 := by omega
 have x0 := HX.out.c0
 have x1 := HX.out.c1
 have hc := HH1.out.cell s1'
 have hf := HH1.out.frozen (1 + s.toNat)
 obtain ⟨i0, hi, hz0, hz1, hz2⟩ := info_parts info33
 have hsz := HB.out.size
 have hbb : base ≤ W1.heap.size := by have := HH1.out.lt; omega
 have hnx : some w.heap.size ≠ (vs s.toNat).ownBlock := fun e => by have := (own_base (HR.out.own s.toNat) _ e.symm).2; omega
 have hnb : some b ≠ (vs s.toNat).ownBlock := fun e => HH1.out.not_row (HR1.out.own s.toNat) e.symm
 have hga := World.grownBy_alloc W1 (.cells #[.int .i64 x.1, .int .i64 x.2] 33) none
 have HHA := Aside0.mk (HH1.out.kept hga (by simp))
 have HRA := Aside0.mk (HR1.out.kept hga)
 have HXA := Aside0.mk (HX.out.kept hga (by simp))
 have HBA := Aside0.mk ((Below.refl base W1).alloc hbb (.cells #[.int .i64 x.1, .int .i64 x.2] 33))
 have HNA := Aside0.mk (Box2.new W1 x)
 clear hga
 have hnews : ∀ j u, (enc2 x)[j]? = some u → (W1.alloc (.cells #[.int .i64 x.1, .int .i64 x.2] 33)).drew.cell? ((⟨W1.heap.size, 0, none⟩ : Addr).add j) = some u := fun j u hju => by
  match j, hju with
  |0, hju =>
   simp [enc2] at hju
   subst hju
   exact HNA.out.c0
  |1, hju =>
   simp [enc2] at hju
   subst hju
   exact HNA.out.c1
  |j + 2, hju => simp [enc2] at hju
 obtain ⟨v', w1, hrun, hown', hgrow, -, hat⟩ := run_append_own_at (P := Try.prog) (W1.alloc (.cells #[.int .i64 x.1, .int .i64 x.2] 33)).drew base 22 22 33 i0 (.agg #[.int .i64 0, .int .i64 0]) 2 16 Try.underlying22 hi hz0 hz1 hz2 rfl (by decide) (vs s.toNat) (ls s.toNat).length (flat (ls s.toNat)) (HRA.out.own s.toNat) ⟨W1.heap.size, 0, none⟩ 1 1 (enc2 x) rfl hnews (by simp [enc2, Value.oneCell']) (by unfold maxLen; omega) (by omega) (by have := HHA.out.lt; show base ≤ (W1.alloc _).heap.size; omega)
 obtain ⟨g', cap', rfl⟩ := ownsRow_succ hown'
 have hgrow' : (W1.alloc (.cells #[.int .i64 x.1, .int .i64 x.2] 33)).grownBy w1 (vs s.toNat).ownBlock := grown_drew hgrow
 have HRC := Aside0.mk (HRA.out.append s.toNat hgrow' hown' hat)
 have HHC := Aside0.mk (HHA.out.kept hgrow' hnb)
 have HXC := Aside0.mk (HXA.out.kept hgrow' hnx)
 have HBC := Aside0.mk (HBA.out.grown hgrow' (Nat.le_trans hbb HBA.out.size) (fun k hk => (own_base (HRA.out.own s.toNat) k hk).1))
 have HN' := Aside0.mk hnews
 clear hown' hgrow hat hgrow' hnews
 refine start_ (n := 15) (S := fun w' => w'.cell? ⟨b, 1 + s.toNat, none⟩ = some (vs s.toNat) ∧ w'.cell? ⟨w.heap.size, 0, none⟩ = some (.int .i64 x.1) ∧ w'.cell? ⟨w.heap.size, 1, none⟩ = some (.int .i64 x.2)) (ds := [10, 14]) #[false, false, false, false, false, false, false, false, false, false, false, false, false, false, false] (by kernel_rfl) rfl rfl ⟨hc, x0, x1⟩ (fun hHeld => ?_)
 refine with_tabW put.tab put.bits (fun HT_ HW_ => ?_)
 refine pure_ (i := 0) (N := some 8) (v := ?_) (a' := ?_) #[true, false, false, false, false, false, false, false, false, false, false, false, false, false, false] rfl rfl (any_of HT_.out (by kernel_rfl)) (fun _ _ _ h => h) (Or.inl ⟨by rfl, ?_⟩) ?_ ?_
 rotate_left
 ·intro w'
  go_simp
  first | done | with_reducible rfl
 rotate_left
 ·simp only [Act.put, List.setIfInBounds_toArray, List.set_cons_zero, List.set_cons_succ, i64_w, i32_w]
  rfl
 refine pure_ (i := 1) (N := some 9) (v := ?_) (a' := ?_) #[true, true, false, false, false, false, false, false, false, false, false, false, false, false, false] rfl rfl (any_of HT_.out (by kernel_rfl)) (fun _ _ _ h => h) (Or.inl ⟨by rfl, ?_⟩) ?_ ?_
 rotate_left
 ·intro w'
  go_simp
  first | done | with_reducible rfl
 rotate_left
 ·simp only [Act.put, List.setIfInBounds_toArray, List.set_cons_zero, List.set_cons_succ, i64_w, i32_w]
  rfl
 refine pure_ (i := 2) (N := some 10) (v := ?_) (a' := ?_) #[true, true, true, false, false, false, false, false, false, false, false, false, false, false, false] rfl rfl (any_of HT_.out (by kernel_rfl)) (fun _ _ _ h => h) (Or.inl ⟨by rfl, ?_⟩) ?_ ?_
 rotate_left
 ·intro w'
  go_simp
  first | done | with_reducible rfl
 rotate_left
 ·simp only [Act.put, List.setIfInBounds_toArray, List.set_cons_zero, List.set_cons_succ, i64_w, i32_w]
  rfl
 refine pure_ (i := 3) (N := some 11) (v := ?_) (a' := ?_) #[true, true, true, true, false, false, false, false, false, false, false, false, false, false, false] rfl rfl (any_of HT_.out (by kernel_rfl)) (fun _ _ _ h => h) (Or.inl ⟨by rfl, ?_⟩) ?_ ?_
 rotate_left
 ·intro w'
  go_simp
  first | done | with_reducible rfl
 rotate_left
 ·simp only [Act.put, List.setIfInBounds_toArray, List.set_cons_zero, List.set_cons_succ, i64_w, i32_w]
  rfl
 refine pure_ (i := 4) (N := some 12) (v := ?_) (a' := ?_) #[true, true, true, true, true, false, false, false, false, false, false, false, false, false, false] rfl rfl (any_of HT_.out (by kernel_rfl)) (fun _ _ _ h => h) (Or.inl ⟨by rfl, ?_⟩) ?_ ?_
 rotate_left
 ·intro w'
  go_simp
  first | done | with_reducible rfl
 rotate_left
 ·simp only [Act.put, List.setIfInBounds_toArray, List.set_cons_zero, List.set_cons_succ, i64_w, i32_w]
  rfl
 refine pure_ (i := 5) (N := some 13) (v := ?_) (a' := ?_) #[true, true, true, true, true, true, false, false, false, false, false, false, false, false, false] rfl rfl (any_of HT_.out (by kernel_rfl)) (fun _ _ _ h => h) (Or.inl ⟨by rfl, ?_⟩) ?_ ?_
 rotate_left
 ·intro w'
  go_simp
  first | done | with_reducible rfl
 rotate_left
 ·simp only [Act.put, List.setIfInBounds_toArray, List.set_cons_zero, List.set_cons_succ, i64_w, i32_w]
  rfl
 refine pure_ (i := 6) (N := some 14) (v := ?_) (a' := ?_) #[true, true, true, true, true, true, true, false, false, false, false, false, false, false, false] rfl rfl (any_of HT_.out (by kernel_rfl)) (fun _ _ _ h => h) (Or.inl ⟨by rfl, ?_⟩) ?_ ?_
 rotate_left
 ·intro w'
  go_simp
  first | done | with_reducible rfl
 rotate_left
 ·simp only [Act.put, List.setIfInBounds_toArray, List.set_cons_zero, List.set_cons_succ, i64_w, i32_w]
  rfl
 refine pure_ (i := 11) (N := some 19) (v := ?_) (a' := ?_) #[true, true, true, true, true, true, true, false, false, false, false, true, false, false, false] rfl rfl (any_of HT_.out (by kernel_rfl)) (fun _ _ _ h => h) (Or.inl ⟨by rfl, ?_⟩) ?_ ?_
 rotate_left
 ·intro w'
  go_simp
  first | done | with_reducible rfl
 rotate_left
 ·simp only [Act.put, List.setIfInBounds_toArray, List.set_cons_zero, List.set_cons_succ, i64_w, i32_w]
  rfl
 refine pure_ (i := 12) (N := some 20) (v := ?_) (a' := ?_) #[true, true, true, true, true, true, true, false, false, false, false, true, true, false, false] rfl rfl (any_of HT_.out (by kernel_rfl)) (fun _ _ _ h => h) (Or.inl ⟨by rfl, ?_⟩) ?_ ?_
 rotate_left
 ·intro w'
  go_simp
  first | done | with_reducible rfl
 rotate_left
 ·simp only [Act.put, List.setIfInBounds_toArray, List.set_cons_zero, List.set_cons_succ, i64_w, i32_w]
  rfl
 refine take_ (i := 7) (N := some 15) (v := ?_) (a' := ?_) #[true, true, true, true, true, true, true, true, false, false, false, true, true, false, false] rfl rfl (take_ofW HT_.out HW_.out (by kernel_rfl)) (fun _ _ _ h => h) (Or.inl ⟨by rfl, ?_⟩) hHeld ?_ ?_
 rotate_left
 ·rintro w' ⟨q0, q1, q2⟩
  go_simp
  first | done | with_reducible rfl
 rotate_left
 ·simp only [Act.put, List.setIfInBounds_toArray, List.set_cons_zero, List.set_cons_succ, i64_w, i32_w]
  rfl
 refine take_ (i := 8) (N := some 16) (v := ?_) (a' := ?_) #[true, true, true, true, true, true, true, true, true, false, false, true, true, false, false] rfl rfl (take_ofW HT_.out HW_.out (by kernel_rfl)) (fun _ _ _ h => h) (Or.inl ⟨by rfl, ?_⟩) hHeld ?_ ?_
 rotate_left
 ·rintro w' ⟨q0, q1, q2⟩
  go_simp
  first | done | with_reducible rfl
 rotate_left
 ·simp only [Act.put, List.setIfInBounds_toArray, List.set_cons_zero, List.set_cons_succ, i64_w, i32_w]
  rfl
 refine one_ (i := 9) (N := some 17) #[true, true, true, true, true, true, true, true, true, true, false, true, true, false, false] rfl rfl (one_of HT_.out (by kernel_rfl)) (by decide) (fun K hK => ?_)
 refine event_step (v := .slice (some ⟨W1.heap.size, 0, none⟩) 1 1) (w1 := (W1.alloc (.cells #[.int .i64 x.1, .int .i64 x.2] 33)).drew) ?hg ?hr ?_
 case hg => rfl
 case hr => first | (go_simp; done) | (go_simp; rfl)
 refine hK.out _ _ ⟨HHA.out.cell s1', HXA.out.c0, HXA.out.c1⟩ (fun hHeld => ?_)
 clear hK K
 refine norm_ (a' := ?_) ?_ ?_
 rotate_left
 ·show Act.put _ (some 17) _ = _
  simp only [Act.put, List.setIfInBounds_toArray, List.set_cons_zero, List.set_cons_succ, i64_w, i32_w]
  rfl
 refine last_ (i := 10) (N := some 18) #[true, true, true, true, true, true, true, true, true, true, true, true, true, false, false] rfl rfl (one_of HT_.out (by kernel_rfl)) (by decide) (fun K hK => ?_)
 refine event_step (v := .slice (some ⟨g', 0, none⟩) ((ls s.toNat).length + 1) cap') (w1 := w1) ?hg2 ?hr2 ?_
 case hg2 => rfl
 case hr2 => exact append_run rfl rfl rfl hrun
 refine hK.out _ _ ?_
 clear hK K
 refine norm_ (a' := ?_) ?_ ?_
 rotate_left
 ·show Act.put _ (some 18) _ = _
  simp only [Act.put, List.setIfInBounds_toArray, List.set_cons_zero, List.set_cons_succ, i64_w, i32_w]
  rfl
 refine pure_ (i := 13) (N := some 21) (v := ?_) (a' := ?_) #[true, true, true, true, true, true, true, true, true, true, true, true, true, true, false] rfl rfl (any_of HT_.out (by kernel_rfl)) (fun _ _ _ h => h) (Or.inl ⟨by rfl, ?_⟩) ?_ ?_
 rotate_left
 ·intro w'
  go_simp
  first | done | with_reducible rfl
 rotate_left
 ·simp only [Act.put, List.setIfInBounds_toArray, List.set_cons_zero, List.set_cons_succ, i64_w, i32_w]
  rfl
 refine last_ (i := 14) (N := none) #[true, true, true, true, true, true, true, true, true, true, true, true, true, true, true] rfl rfl (one_of HT_.out (by kernel_rfl)) (by decide) (fun K hK => ?_)
 have hfC := HHC.out.frozen (1 + s.toNat)
 have hcC := HHC.out.cell s1'
 refine store_stepX (w1 := w1.setCell ⟨b, 1 + s.toNat, none⟩ (.slice (some ⟨g', 0, none⟩) ((ls s.toNat).length + 1) cap')) ?hg3 ?hr3 ?_
 case hg3 => rfl
 case hr3 => first | (go_simp; done) | (go_simp; rfl)
 refine hK.out _ _ ?_
 clear hK K
 refine done_ (done_of HT_.out (by kernel_rfl)) ?_
 try go_wp2
 go_end0
 refine ⟨rfl, _, HHC.out.set s1' _, HRC.out.keptBut (grownBy_setCell' _ _ _ _) (fun j => HHC.out.not_row (HRC.out.own j)), ?_⟩
 exact ((HB.out.mono (by have := HH.out.lt; omega)).trans HBC.out).setCell (p := ⟨b, 1 + s.toNat, none⟩) hbase _
end Go.Proofs.Ytggkealdbebbkaa.W10
end
section
namespace Go.Proofs.Ytggkealdbebbkaa.W10
-- part NP
open Go.RowKit Go.Proofs.YtggkealdbebbkaaW.PrintWords Go.Proofs.YtggkealdbebbkaaW.PrintLast Go.Proofs.YtggkealdbebbkaaW.PrintMore
set_option linter.unusedVariables false
set_option linter.unusedSimpArgs false
theorem add_block' (a : Addr) (n : Nat) : (a.add n).block = a.block := by unfold Addr.add; split <;> rfl
/-- A row of timers that is read. -/
def ReadsT (w : World) (A : Option Addr) (xs : List T) : Prop := ∀ j x, xs[j]? = some x → ∃ ad, A = some ad ∧ ad.block < w.heap.size ∧ w.cell? (ad.add (j * 2)) = some (.int .i64 x.1) ∧ w.cell? ⟨(ad.add (j * 2)).block, (ad.add (j * 2)).off + 1, none⟩ = some (.int .i64 x.2)
theorem ReadsT.below {w w1 : World} {A : Option Addr} {xs : List T} (h : ReadsT w A xs) (hb : Below w.heap.size w w1) : ReadsT w1 A xs := fun j x hx => by
 obtain ⟨ad, e, hl, h0, h1⟩ := h j x hx
 have hl' : (ad.add (j * 2)).block < w.heap.size := by rw [add_block']; exact hl
 exact ⟨ad, e, Nat.lt_of_lt_of_le hl hb.size, (hb.cell (p := ad.add (j * 2)) hl').trans h0, (hb.cell (p := ⟨(ad.add (j * 2)).block, (ad.add (j * 2)).off + 1, none⟩) hl').trans h1⟩
def slots (xs : List T) : Nat → List T := fun j => xs.filter fun x => slotN x.2 == j
theorem slots_snoc (xs : List T) (x : T) : upd (slots xs) (slotN x.2) (slots xs (slotN x.2) ++ [x]) = slots (xs ++ [x]) := by
 funext j
 by_cases e : j = slotN x.2
 ·subst e
  rw [upd_same]
  simp [slots]
 ·rw [upd_other _ _ e]
  have : ¬ slotN x.2 = j := fun h => e h.symm
  simp [slots, this]
theorem slots_len (xs : List T) (j : Nat) : (slots xs j).length ≤ xs.length := List.length_filter_le _ _
def AtOk (x : T) : Prop := 0 ≤ Go.bits .and .i64 x.2 7 ∧ Go.bits .and .i64 x.2 7 < 8
theorem AtOk.lt {x : T} (h : AtOk x) : slotN x.2 < 8 := by have := h.1; have := h.2; unfold slotN; omega
set_option maxHeartbeats 4000000 in
set_option maxRecDepth 100000 in
theorem open_ (now : Int) (A : Option Addr) (c : Nat) (xs : List T) (w : World) (hr : ReadsT w A xs) (hc : xs.length ≤ c) (hl : xs.length < 1000) (hat : ∀ x ∈ xs, AtOk x) :
  Calls Try.prog 25 #[.agg #[.int .i64 now, .slice A xs.length c]] w fun e w' => ∃ b vs, e = .returned (.pointer (some ⟨b, 0, none⟩)) ∧ w.heap.size ≤ b ∧ HubC w' b now vs ∧ Rows w' w.heap.size vs (slots xs) ∧ (∀ j, 8 ≤ j → vs j = nilS) ∧ Below w.heap.size w w' := by
 have hu24 := Try.underlying24
 have hu33 := Try.underlying33
 have hu48 := Try.underlying48
 have HR := Aside0.mk hr
 have HA := Aside0.mk hat
 clear hr hat
 go_enter Try.func25, Try.ntmps25
 go_wp2
 obtain ⟨W1, hW1⟩ : ∃ W1, ((w.alloc (.cells #[.int .i64 now, .slice A xs.length c] 24)).alloc (.cells #[.int .i64 now, .slice none 0 0, .slice none 0 0, .slice none 0 0, .slice none 0 0, .slice none 0 0, .slice none 0 0, .slice none 0 0, .slice none 0 0] 48)) = W1 := ⟨_, rfl⟩
 have HB := Aside0.mk (show Below w.heap.size w W1 by rw [← hW1]; exact below_alloc (below_alloc (Below.refl _ _) _) _)
 have HH := Aside0.mk (show HubC W1 (w.heap.size + 1) now (fun _ => nilS) by
  rw [← hW1]
  have := blk_new (w.alloc (.cells #[.int .i64 now, .slice A xs.length c] 24)) (.cells #[.int .i64 now, .slice none 0 0, .slice none 0 0, .slice none 0 0, .slice none 0 0, .slice none 0 0, .slice none 0 0, .slice none 0 0, .slice none 0 0] 48)
  rw [World.size_alloc] at this
  exact this)
 rw [hW1]
 clear hW1
 have HW := Aside0.mk (show Rows W1 w.heap.size (fun _ => nilS) (slots []) from Rows.empty W1 w.heap.size)
 go_loopw [13] (fun i wr => ∃ (k : Nat) (vs : Nat → Value), k ≤ xs.length ∧ i = .int .i64 k ∧ Aside0 (HubC wr (w.heap.size + 1) now vs) ∧ Aside0 (Rows wr w.heap.size vs (slots (xs.take k))) ∧ Aside0 (∀ j, 8 ≤ j → vs j = nilS) ∧ Aside0 (Below w.heap.size w wr)) (fun i _ => xs.length - (intOf i).toNat)
 case atStart => exact ⟨0, fun _ => nilS, Nat.zero_le _, rfl, HH, HW, ⟨fun _ _ => rfl⟩, HB⟩
 case round =>
  obtain ⟨k, vs, hk, rfl, HH1, HW1, HN1, HB1⟩ := hrel
  by_cases hlt : k < xs.length
  ·have hx : xs[k]? = some xs[k] := List.getElem?_eq_getElem hlt
   obtain ⟨ad, rfl, hadl, hc0, hc1⟩ := (HR.out.below HB1.out) k _ hx
   have hok := HA.out xs[k] (List.getElem_mem hlt)
   have htk : xs.take (k + 1) = xs.take k ++ [xs[k]] := by rw [List.take_add_one, hx]; rfl
   generalize xs[k] = x at hx hc0 hc1 hok htk
   have HT := Aside0.mk htk
   have HO := Aside0.mk hok
   clear htk hok hx
   have hlen : (slots (xs.take k) (slotN x.2)).length < 1000 := by
    have h1 := slots_len (xs.take k) (slotN x.2)
    rw [List.length_take] at h1
    omega
   go_wp2_with (go_at_call 32; refine (put_ (HH1.out.kept (World.grownBy_alloc wr _ none) (by simp)) (HW1.out.kept (World.grownBy_alloc wr _ none)) (Nat.le_add_right _ 1) x HO.out.1 HO.out.2 hlen).mono ?_; rintro e w3 ⟨rfl, v', hH3, hR3, hB3⟩; have HH3 := Aside0.mk hH3; have HR3 := Aside0.mk hR3; have HB3 := Aside0.mk ((HB1.out.alloc HB1.out.size _).trans hB3); clear hH3 hR3 hB3)
   go_roundw
   case rel => exact ⟨k + 1, upd vs (slotN x.2) v', by omega, by go_num, HH3, ⟨by have h3 := HR3.out; rw [slots_snoc, ← HT.out] at h3; exact h3⟩, ⟨fun j hj => by rw [upd_other _ _ (by have := HO.out.lt; omega)]; exact HN1.out j hj⟩, HB3⟩
   case measure => simp [intOf]; omega
  ·have : k = xs.length := by omega
   subst this
   go_wp2
   go_ret
   exact ⟨_, vs, rfl, by omega, HH1.out, by have := HW1.out; rwa [List.take_length] at this, HN1.out, HB1.out⟩
end Go.Proofs.Ytggkealdbebbkaa.W10
end
section
namespace Go.Proofs.Ytggkealdbebbkaa.W10
-- part NK
open Go.RowKit Go.Proofs.YtggkealdbebbkaaW.PrintWords Go.Proofs.YtggkealdbebbkaaW.PrintLast Go.Proofs.YtggkealdbebbkaaW.PrintMore
set_option linter.unusedVariables false
set_option linter.unusedSimpArgs false
/-- The rows while take goes on: k slots are done; a has been taken; r is the rest of the slot at hand. -/
def Lst (p : T → Bool) (ls : Nat → List T) (k : Nat) (a r : List T) : Nat → List T := fun j => if j < k then (ls j).filter (fun x => !p x) else if j = 8 then a else if j = 9 then r else ls j
variable {p : T → Bool} {ls : Nat → List T}
theorem Lst_8 {k : Nat} (hk : k ≤ 8) (a r : List T) : Lst p ls k a r 8 = a := by
 unfold Lst; rw [if_neg (by omega), if_pos rfl]
theorem Lst_9 {k : Nat} (hk : k ≤ 8) (a r : List T) : Lst p ls k a r 9 = r := by
 unfold Lst; rw [if_neg (by omega), if_neg (by omega), if_pos rfl]
theorem Lst_at {k j : Nat} (h1 : k ≤ j) (h2 : j < 8) (a r : List T) : Lst p ls k a r j = ls j := by
 unfold Lst; rw [if_neg (by omega), if_neg (by omega), if_neg (by omega)]
theorem Lst_out {k : Nat} (hk : k ≤ 8) (a r a' : List T) : upd (Lst p ls k a r) 8 a' = Lst p ls k a' r := by
 funext j
 by_cases e : j = 8
 ·subst e; rw [upd_same, Lst_8 hk]
 ·rw [upd_other _ _ e]; unfold Lst; simp only [if_neg e]
theorem Lst_rest {k : Nat} (hk : k ≤ 8) (a r r' : List T) : upd (Lst p ls k a r) 9 r' = Lst p ls k a r' := by
 funext j
 by_cases e : j = 9
 ·subst e; rw [upd_same, Lst_9 hk]
 ·rw [upd_other _ _ e]; unfold Lst; simp only [if_neg e]
theorem Lst_next {k : Nat} (hk : k < 8) (a : List T) : upd (upd (Lst p ls k a ((ls k).filter fun x => !p x)) k (Lst p ls k a ((ls k).filter fun x => !p x) 9)) 9 [] = Lst p ls (k + 1) a [] := by
 rw [Lst_9 (by omega)]
 funext j
 by_cases e : j = 9
 ·subst e; rw [upd_same, Lst_9 (by omega)]
 ·rw [upd_other _ _ e]
  by_cases e2 : j = k
  ·subst e2; rw [upd_same]; unfold Lst; rw [if_pos (by omega)]
  ·rw [upd_other _ _ e2]
   unfold Lst
   by_cases h : j < k
   ·rw [if_pos h, if_pos (by omega)]
   ·rw [if_neg h, if_neg (show ¬ j < k + 1 by omega)]
    simp only [if_neg e]
/-- What has been taken: k slots, and m timers of the next. -/
def col (p : T → Bool) (ls : Nat → List T) (k m : Nat) : List T := (List.range k).flatMap (fun j => (ls j).filter p) ++ ((ls k).take m).filter p
theorem col_zero (k : Nat) : col p ls k 0 = (List.range k).flatMap fun j => (ls j).filter p := by simp [col]
theorem col_next (k : Nat) : col p ls k (ls k).length = col p ls (k + 1) 0 := by
 rw [col_zero, List.range_succ]
 simp [col]
theorem col_snoc {k m : Nat} {x : T} (hx : (ls k)[m]? = some x) : col p ls k (m + 1) = if p x then col p ls k m ++ [x] else col p ls k m := by
 unfold col
 rw [List.take_add_one, hx]
 cases hp : p x <;> simp [hp]
theorem rest_snoc {k m : Nat} {x : T} (hx : (ls k)[m]? = some x) : (((ls k).take (m + 1)).filter fun y => !p y) = if p x then ((ls k).take m).filter fun y => !p y else (((ls k).take m).filter fun y => !p y) ++ [x] := by
 rw [List.take_add_one, hx]
 cases hp : p x <;> simp [hp]
theorem col_len (hL : ∀ j, (ls j).length ≤ 100) (k m : Nat) (hk : k ≤ 8) : (col p ls k m).length ≤ 900 := by
 have h1 : ∀ k, ((List.range k).flatMap fun j => (ls j).filter p).length ≤ k * 100 := fun k => by
  induction k with
  |zero => simp
  |succ k ih =>
   rw [List.range_succ, List.flatMap_append, List.length_append]
   have := Nat.le_trans (List.length_filter_le p (ls k)) (hL k)
   simp at ih ⊢
   omega
 have h2 : (((ls k).take m).filter p).length ≤ 100 := Nat.le_trans (List.length_filter_le _ _) (Nat.le_trans (by rw [List.length_take]; omega) (hL k))
 have := h1 k
 unfold col
 rw [List.length_append]
 omega
theorem rest_len (hL : ∀ j, (ls j).length ≤ 100) (k m : Nat) : (((ls k).take m).filter fun y => !p y).length ≤ 100 := Nat.le_trans (List.length_filter_le _ _) (Nat.le_trans (by rw [List.length_take]; omega) (hL k))
theorem HubC.congr {w : World} {b : Nat} {now : Int} {vs vs' : Nat → Value} (h : HubC w b now vs) (e : ∀ j, j < 8 → vs' j = vs j) : HubC w b now vs' := by
 unfold HubC at *
 rw [h, e 0 (by omega), e 1 (by omega), e 2 (by omega), e 3 (by omega), e 4 (by omega), e 5 (by omega), e 6 (by omega), e 7 (by omega)]
theorem own_slice {w : World} {base : Nat} {v : Value} {xs : List T} (h : Own1 w base v xs) : ∃ A cap, v = .slice A xs.length cap ∧ (∀ (m : Nat) (x : T), xs[m]? = some x → ∃ g, A = some ⟨g, 0, none⟩) := by
 rcases h.2 with ⟨rfl, h0⟩ | ⟨g, cap, cur, rfl, _⟩
 ·have hx : xs = [] := List.length_eq_zero_iff.1 h0
  subst hx
  exact ⟨none, 0, rfl, fun m x hx => by simp at hx⟩
 ·exact ⟨_, cap, rfl, fun _ _ _ => ⟨g, rfl⟩⟩
theorem own_cells {w : World} {base g n cap : Nat} {xs : List T} (h : Own1 w base (.slice (some ⟨g, 0, none⟩) n cap) xs) {m : Nat} {x : T} (hx : xs[m]? = some x) : w.cell? ⟨g, 0 + m * 2, none⟩ = some (.int .i64 x.1) ∧ w.cell? ⟨g, 0 + m * 2 + 1, none⟩ = some (.int .i64 x.2) := by
 have hm : m < xs.length := (List.getElem?_eq_some_iff.1 hx).1
 obtain ⟨A, c, e, _⟩ := own_slice h
 injection e with e1 e2 e3
 subst e2
 have h0 := World.ownsRow.cellAt h (m * 2) (by omega)
 have h1 := World.ownsRow.cellAt h (m * 2 + 1) (by omega)
 have f : ∀ (ys : List T) (m : Nat) (y : T), ys[m]? = some y → (flat ys)[m * 2]? = some (.int .i64 y.1) ∧ (flat ys)[m * 2 + 1]? = some (.int .i64 y.2) := by
  intro ys
  induction ys with
  |nil => intro m y h; simp at h
  |cons z r ih =>
   intro m y h
   cases m with
   |zero => simp at h; subst h; simp [flat, enc2]
   |succ m =>
    have := ih m y (by simpa using h)
    have e1 : (m + 1) * 2 = m * 2 + 2 := by omega
    rw [e1]
    simpa [flat, enc2] using this
 rw [Nat.zero_add, h0, h1]
 exact f xs m x hx
/-- A block that is none of the rows', and not the hub's: it stays as it lies. -/
def Prot (w : World) (vs : Nat → Value) (pb : Nat) (po : Obj) : Prop := w.heap[pb]? = some po ∧ ∀ j, (vs j).ownBlock ≠ some pb
theorem Prot.lt {w : World} {vs : Nat → Value} {pb : Nat} {po : Obj} (h : Prot w vs pb po) : pb < w.heap.size := (Array.getElem?_eq_some_iff.1 h.1).1
theorem Prot.kept {w w1 : World} {vs : Nat → Value} {pb : Nat} {po : Obj} (h : Prot w vs pb po) {row : Option Nat} (hg : w.grownBy w1 row) (hne : some pb ≠ row) : Prot w1 vs pb po := ⟨(hg.block pb h.lt hne).trans h.1, h.2⟩
theorem Prot.own {w w1 : World} {vs : Nat → Value} {pb : Nat} {po : Obj} (h : Prot w vs pb po) {j : Nat} (hg : w.grownBy w1 (vs j).ownBlock) : Prot w1 vs pb po := h.kept hg (fun e => h.2 j e.symm)
theorem Prot.below {w w1 : World} {vs : Nat → Value} {pb : Nat} {po : Obj} (h : Prot w vs pb po) (hb : Below w.heap.size w w1) : Prot w1 vs pb po := h.kept (grown_of_below hb) (by simp)
theorem Prot.append {w w1 : World} {vs : Nat → Value} {pb : Nat} {po : Obj} (h : Prot w vs pb po) (j : Nat) {v' : Value} (hg : w.grownBy w1 (vs j).ownBlock) (hat : v'.ownBlock = (vs j).ownBlock ∨ v'.ownBlock = some w.heap.size) : Prot w1 (upd vs j v') pb po := by
 refine ⟨(h.own hg).1, fun i => ?_⟩
 by_cases e : i = j
 ·subst e
  rw [upd_same]
  rcases hat with e | e
  ·rw [e]; exact h.2 i
  ·rw [e]
   intro e2
   have := h.lt
   simp at e2
   omega
 ·rw [upd_other _ _ e]; exact h.2 i
theorem Prot.move {w : World} {vs : Nat → Value} {pb : Nat} {po : Obj} (h : Prot w vs pb po) (i j : Nat) : Prot w (upd (upd vs i (vs j)) j nilS) pb po := by
 refine ⟨h.1, fun k => ?_⟩
 by_cases e : k = j
 ·subst e; rw [upd_same]; simp [Value.ownBlock]
 ·rw [upd_other _ _ e]
  by_cases e2 : k = i
  ·subst e2; rw [upd_same]; exact h.2 j
  ·rw [upd_other _ _ e2]; exact h.2 k
theorem index_hub (vs : Nat → Value) (k : Nat) (hk : k < 8) (W : World) : (Instr.index 46 (.agg #[vs 0, vs 1, vs 2, vs 3, vs 4, vs 5, vs 6, vs 7]) (.int .i64 k)).run Try.prog W = .ok (vs k) W := by
 match k, hk with
 |0, _ => rfl
 |1, _ => rfl
 |2, _ => rfl
 |3, _ => rfl
 |4, _ => rfl
 |5, _ => rfl
 |6, _ => rfl
 |7, _ => rfl
theorem box2_news {w : World} {x : T} {W : World} (hb : Below (w.heap.size + 1) (w.alloc (.cells #[.int .i64 x.1, .int .i64 x.2] 33)) W) : ∀ j u, (enc2 x)[j]? = some u → W.cell? ((⟨w.heap.size, 0, none⟩ : Addr).add j) = some u := fun j u hju => by
 have hB : Box2 W w.heap.size x := (hb.block w.heap.size (by omega)).trans (Box2.new w x)
 match j, hju with
 |0, hju =>
  simp [enc2] at hju
  subst hju
  exact hB.c0
 |1, hju =>
  simp [enc2] at hju
  subst hju
  exact hB.c1
 |j + 2, hju => simp [enc2] at hju
theorem Rows.sorted {w w' : World} {base : Nat} {V : Nat → Value} {L : Nat → List T} (h : Rows w base V L) (j : Nat) {ys : List T} (ho : Own1 w' base (V j) ys) (hg : w.grownBy w' (V j).ownBlock) : Rows w' base V (upd L j ys) := by
 refine ⟨fun i => ?_, h.apart⟩
 by_cases e : i = j
 ·subst e; rw [upd_same]; exact ho
 ·rw [upd_other _ _ e]; exact (h.own i).kept hg (h.apart i j e)
set_option maxHeartbeats 8000000 in
set_option maxRecDepth 100000 in
theorem take_38 {w : World} {b base cb : Nat} {now : Int} {vs : Nat → Value} {ls : Nat → List T} (p : T → Bool) (hH : HubC w b now vs) (hR : Rows w base vs ls) (h8 : vs 8 = nilS) (h9 : vs 9 = nilS) (hbase : base ≤ b) (hL : ∀ j, (ls j).length ≤ 100) (pb : Nat) (po : Obj) (hPr : Prot w vs pb po) (hpb : pb ≠ b)
  (hP : ∀ (x : T) (W : World), Below base w W → W.cell? ⟨b, 0, none⟩ = some (.int .i64 now) → b < W.heap.size → Calls Try.prog 38 #[.agg #[.int .i64 x.1, .int .i64 x.2]] W fun e w' => e = .returned (.bool (p x)) ∧ Below W.heap.size W w') :
  Calls Try.prog 26 #[.pointer (some ⟨b, 0, none⟩), .func (.func 38) #[] #[]] w fun e w' => ∃ V : Nat → Value, e = .returned (V 8) ∧ HubC w' b now V ∧ Rows w' base V (Lst p ls 8 (sortT (col p ls 8 0)) []) ∧ V 9 = nilS ∧ (∀ j, 10 ≤ j → V j = vs j) ∧ Below base w w' ∧ Prot w' V pb po := by
 have hu33 := Try.underlying33
 have hu48 := Try.underlying48
 have hu46 := Try.underlying46
 have hbw := hH.lt
 have c0 := hH.cell (j := 0) (by omega)
 have c1 := hH.cell (j := 1) (by omega)
 have c2 := hH.cell (j := 2) (by omega)
 have c3 := hH.cell (j := 3) (by omega)
 have c4 := hH.cell (j := 4) (by omega)
 have c5 := hH.cell (j := 5) (by omega)
 have c6 := hH.cell (j := 6) (by omega)
 have c7 := hH.cell (j := 7) (by omega)
 have hl0 : ls 8 = [] := by have := (hR.own 8).1; have h := (hR.own 8).2; rw [h8] at h; rcases h with ⟨_, h⟩ | ⟨g, c, d, h, _⟩; exact List.length_eq_zero_iff.1 h; cases h
 have hl1 : ls 9 = [] := by have := (hR.own 9).1; have h := (hR.own 9).2; rw [h9] at h; rcases h with ⟨_, h⟩ | ⟨g, c, d, h, _⟩; exact List.length_eq_zero_iff.1 h; cases h
 have e0 : Lst p ls 0 (col p ls 0 0) [] = ls := by
  funext j
  unfold Lst
  rw [if_neg (by omega)]
  by_cases e8 : j = 8
  ·subst e8; rw [if_pos rfl, hl0]; rfl
  ·rw [if_neg e8]
   by_cases e9 : j = 9
   ·subst e9; rw [if_pos rfl, hl1]
   ·rw [if_neg e9]
 have HH := Aside0.mk hH
 have HR := Aside0.mk hR
 have HP := Aside0.mk hP
 have HPr := Aside0.mk hPr
 clear hH hR hP hPr
 obtain ⟨i0, hi, hz0, hz1, hz2⟩ := info_parts info33
 go_enter Try.func26, Try.ntmps26
 go_wp2
 go_loopw [5, 15] (fun o i wr => ∃ (k : Nat) (V : Nat → Value), k ≤ 8 ∧ i = .int .i64 k ∧ o = V 8 ∧ Aside0 (V 9 = nilS) ∧ Aside0 (HubC wr b now V) ∧ Aside0 (Rows wr base V (Lst p ls k (col p ls k 0) [])) ∧ Aside0 (∀ j, k ≤ j → j ≠ 8 → j ≠ 9 → V j = vs j) ∧ Aside0 (Below base w wr) ∧ Aside0 (Prot wr V pb po)) (fun _ i _ => 8 - (intOf i).toNat)
 case atStart => exact ⟨0, vs, Nat.zero_le _, rfl, h8.symm, ⟨h9⟩, HH, ⟨by rw [e0]; exact HR.out⟩, ⟨fun _ _ _ _ => rfl⟩, ⟨Below.refl _ _⟩, HPr⟩
 case round =>
  obtain ⟨k, V, hk, rfl, rfl, HN1, HH1, HW1, HV1, HB1, HQ1⟩ := hrel
  by_cases hlt : k < 8
  ·have hvk : V k = vs k := HV1.out k (Nat.le_refl _) (by omega) (by omega)
   have hown := HW1.out.own k
   rw [Lst_at (Nat.le_refl _) hlt, hvk] at hown
   obtain ⟨A, cap, hsl, hA⟩ := own_slice hown
   have hix : ∀ W, (Instr.index 46 (.agg #[vs 0, vs 1, vs 2, vs 3, vs 4, vs 5, vs 6, vs 7]) (.int .i64 k)).run Try.prog W = .ok (.slice A (ls k).length cap) W := fun W => by
    rw [← hsl]
    exact index_hub vs k hlt W
   have hm0 : Lst p ls k (col p ls k 0) [] = Lst p ls k (col p ls k 0) (((ls k).take 0).filter fun y => !p y) := by simp
   have HW2 := Aside0.mk (show Rows wr base V (Lst p ls k (col p ls k 0) (((ls k).take 0).filter fun y => !p y)) by rw [← hm0]; exact HW1.out)
   have HS := Aside0.mk hsl
   have HA := Aside0.mk hA
   clear HW1 hown hm0 hsl hA hvk
   go_wp2
   rw [show decide ((k : Int) < 8) = true from decide_eq_true (by omega)]
   go_loopw [5, 8, 21] (fun o r i wi => ∃ (m : Nat) (V2 : Nat → Value), m ≤ (ls k).length ∧ i = .int .i64 m ∧ o = V2 8 ∧ r = V2 9 ∧ Aside0 (HubC wi b now V2) ∧ Aside0 (Rows wi base V2 (Lst p ls k (col p ls k m) (((ls k).take m).filter fun y => !p y))) ∧ Aside0 (∀ j, k ≤ j → j ≠ 8 → j ≠ 9 → V2 j = vs j) ∧ Aside0 (Below base w wi) ∧ Aside0 (Prot wi V2 pb po)) (fun _ _ i _ => (ls k).length - (intOf i).toNat)
   case atStart => exact ⟨0, V, Nat.zero_le _, rfl, rfl, HN1.out.symm, HH1, HW2, HV1, HB1, HQ1⟩
   case round =>
    obtain ⟨m, V2, hm, rfl, rfl, rfl, HH3, HW3, HV3, HB3, HQ3⟩ := hrel
    by_cases hml : m < (ls k).length
    ·have hLk := hL k
     have hx : (ls k)[m]? = some (ls k)[m] := List.getElem?_eq_getElem hml
     generalize (ls k)[m] = x at hx
     obtain ⟨g, rfl⟩ := HA.out m x hx
     have hown := HW3.out.own k
     rw [Lst_at (Nat.le_refl _) hlt, HV3.out k (Nat.le_refl _) (by omega) (by omega), HS.out] at hown
     obtain ⟨q0, q1⟩ := own_cells hown hx
     have q0' := q0
     have q1' := q1
     rw [Nat.zero_add] at q0' q1'
     have HXE := Aside0.mk hx
     have hga := World.grownBy_alloc wr (.cells #[.int .i64 x.1, .int .i64 x.2] 33) none
     have HHa := Aside0.mk (HH3.out.kept hga (by simp))
     have HWa := Aside0.mk (HW3.out.kept hga)
     have HXa := Aside0.mk (Box2.new wr x)
     have HQa := Aside0.mk (HQ3.out.kept hga (by simp))
     have HBa := Aside0.mk (HB3.out.alloc (by have := HH3.out.lt; omega) (.cells #[.int .i64 x.1, .int .i64 x.2] 33))
     clear hown hx hga
     cases hp : p x with
     |true =>
      have hll : (col p ls k m).length ≤ 900 := col_len hL k m (by omega)
      go_wp2_with (first
       |(go_at_call 38; refine (HP.out x _ HBa.out HHa.out.now_ HHa.out.lt).mono ?_; rintro e w3 ⟨rfl, hb⟩; rw [hp]; have HH4 := Aside0.mk (HHa.out.below hb); have HW4 := Aside0.mk (HWa.out.below hb); have HX4 := Aside0.mk (HXa.out.below hb); have HQ4 := Aside0.mk (HQa.out.below hb); have HB4 := Aside0.mk (HBa.out.trans (hb.mono (by have := HHa.out.lt; omega))); have y0 := HX4.out.c0; have y1 := HX4.out.c1; clear hb)
       |(at_builtin; refine wpList_append_own_at _ rfl _ _ 22 rfl base 33 i0 (.agg #[.int .i64 0, .int .i64 0]) 2 16 Try.underlying22 hi hz0 hz1 hz2 rfl (by decide) (V2 8) (col p ls k m).length (flat (col p ls k m)) rfl ?aO ⟨w3.heap.size, 0, none⟩ 1 1 (enc2 x) rfl rfl ?aN (by simp [enc2, Value.oneCell']) (by unfold maxLen; omega) (by omega) ?aB ?_; (case aO => have h := (HW4.out.kept (World.grownBy_alloc w3 (.cells #[.int .i64 x.1, .int .i64 x.2] 33) none)).own 8; rw [Lst_8 (by omega)] at h; exact h); (case aN => exact box2_news (Below.refl _ _)); (case aB => have := HH4.out.lt; simp; omega); intro v' w5 hown' hgrow _ hat; have HW5 := Aside0.mk ((HW4.out.kept (World.grownBy_alloc w3 (.cells #[.int .i64 x.1, .int .i64 x.2] 33) none)).append 8 (x := x) hgrow (by rw [Lst_8 (by omega)]; exact hown') hat); have HQ5 := Aside0.mk ((HQ4.out.kept (World.grownBy_alloc w3 (.cells #[.int .i64 x.1, .int .i64 x.2] 33) none) (by simp)).append 8 hgrow hat); have HH5 := Aside0.mk ((HH4.out.kept (World.grownBy_alloc w3 (.cells #[.int .i64 x.1, .int .i64 x.2] 33) none) (by simp)).kept hgrow (fun e => (HH4.out.not_row (HW4.out.own 8)) e.symm)); have HB5 := Aside0.mk ((HB4.out.alloc (by have := HH4.out.lt; omega) (.cells #[.int .i64 x.1, .int .i64 x.2] 33)).grown hgrow (by have := HH4.out.lt; simp; omega) (fun q hq => (own_base (HW4.out.own 8) q hq).1)); clear hown' hgrow hat))
      go_roundw
      case rel =>
       refine ⟨m + 1, upd V2 8 v', by omega, by go_num, ?_, ?_, ⟨HH5.out.congr (fun j hj => upd_other _ _ (by omega))⟩, ⟨?_⟩, ⟨fun j h1 h2 h3 => by rw [upd_other _ _ (by omega)]; exact HV3.out j h1 h2 h3⟩, HB5, HQ5⟩
       ·exact (upd_same _ _ _).symm
       ·exact (upd_other _ _ (by decide)).symm
       ·have h5 := HW5.out
        rw [Lst_8 (by omega), Lst_out (by omega)] at h5
        rw [col_snoc HXE.out, rest_snoc HXE.out, hp]
        exact h5
      case measure => simp [intOf]; omega
     |false =>
      have hll : (((ls k).take m).filter fun y => !p y).length ≤ 100 := rest_len hL k m
      go_wp2_with (first
       |(go_at_call 38; refine (HP.out x _ HBa.out HHa.out.now_ HHa.out.lt).mono ?_; rintro e w3 ⟨rfl, hb⟩; rw [hp]; have HH4 := Aside0.mk (HHa.out.below hb); have HW4 := Aside0.mk (HWa.out.below hb); have HX4 := Aside0.mk (HXa.out.below hb); have HQ4 := Aside0.mk (HQa.out.below hb); have HB4 := Aside0.mk (HBa.out.trans (hb.mono (by have := HHa.out.lt; omega))); have y0 := HX4.out.c0; have y1 := HX4.out.c1; clear hb)
       |(at_builtin; refine wpList_append_own_at _ rfl _ _ 22 rfl base 33 i0 (.agg #[.int .i64 0, .int .i64 0]) 2 16 Try.underlying22 hi hz0 hz1 hz2 rfl (by decide) (V2 9) (((ls k).take m).filter fun y => !p y).length (flat (((ls k).take m).filter fun y => !p y)) rfl ?aO ⟨w3.heap.size, 0, none⟩ 1 1 (enc2 x) rfl rfl ?aN (by simp [enc2, Value.oneCell']) (by unfold maxLen; omega) (by omega) ?aB ?_; (case aO => have h := (HW4.out.kept (World.grownBy_alloc w3 (.cells #[.int .i64 x.1, .int .i64 x.2] 33) none)).own 9; rw [Lst_9 (by omega)] at h; exact h); (case aN => exact box2_news (Below.refl _ _)); (case aB => have := HH4.out.lt; simp; omega); intro v' w5 hown' hgrow _ hat; have HW5 := Aside0.mk ((HW4.out.kept (World.grownBy_alloc w3 (.cells #[.int .i64 x.1, .int .i64 x.2] 33) none)).append 9 (x := x) hgrow (by rw [Lst_9 (by omega)]; exact hown') hat); have HQ5 := Aside0.mk ((HQ4.out.kept (World.grownBy_alloc w3 (.cells #[.int .i64 x.1, .int .i64 x.2] 33) none) (by simp)).append 9 hgrow hat); have HH5 := Aside0.mk ((HH4.out.kept (World.grownBy_alloc w3 (.cells #[.int .i64 x.1, .int .i64 x.2] 33) none) (by simp)).kept hgrow (fun e => (HH4.out.not_row (HW4.out.own 9)) e.symm)); have HB5 := Aside0.mk ((HB4.out.alloc (by have := HH4.out.lt; omega) (.cells #[.int .i64 x.1, .int .i64 x.2] 33)).grown hgrow (by have := HH4.out.lt; simp; omega) (fun q hq => (own_base (HW4.out.own 9) q hq).1)); clear hown' hgrow hat))
      go_roundw
      case rel =>
       refine ⟨m + 1, upd V2 9 v', by omega, by go_num, ?_, ?_, ⟨HH5.out.congr (fun j hj => upd_other _ _ (by omega))⟩, ⟨?_⟩, ⟨fun j h1 h2 h3 => by rw [upd_other _ _ (by omega)]; exact HV3.out j h1 h2 h3⟩, HB5, HQ5⟩
       ·exact (upd_other _ _ (by decide)).symm
       ·exact (upd_same _ _ _).symm
       ·have h5 := HW5.out
        rw [Lst_9 (by omega), Lst_rest (by omega)] at h5
        rw [col_snoc HXE.out, rest_snoc HXE.out, hp]
        exact h5
      case measure => simp [intOf]; omega
    ·have : m = (ls k).length := by omega
     subst this
     obtain ⟨A9, n9, cap9, e9⟩ : ∃ A n c, V2 9 = .slice A n c := by
      obtain ⟨A9, cap9, e9, _⟩ := own_slice (HW3.out.own 9)
      exact ⟨_, _, _, e9⟩
     rw [e9]
     have hc := HH3.out.cell hlt
     have hf := HH3.out.frozen (1 + k)
     have HE9 := Aside0.mk e9
     clear e9
     go_wp2
     go_roundw
     case rel =>
      have hk9 : k ≠ 9 := by omega
      have HM := HW3.out.keptBut (grownBy_setCell' wr b (1 + k) (V2 9)) (fun j => HH3.out.not_row (HW3.out.own j))
      have HM2 := HM.move hk9
      rw [List.take_length] at HM2
      rw [← HE9.out]
      refine ⟨k + 1, upd (upd V2 k (V2 9)) 9 nilS, by omega, by go_num, ?_, ⟨upd_same _ _ _⟩, ⟨(HH3.out.set hlt (V2 9)).congr (fun j hj => upd_other _ _ (by omega))⟩, ⟨?_⟩, ⟨fun j h1 h2 h3 => by rw [upd_other _ _ h3, upd_other _ _ (by omega)]; exact HV3.out j (by omega) h2 h3⟩, ⟨HB3.out.setCell (p := ⟨b, 1 + k, none⟩) hbase _⟩, ⟨(HQ3.out.kept (grownBy_setCell' wr b (1 + k) (V2 9)) (by simpa using hpb)).move k 9⟩⟩
      ·rw [upd_other _ _ (by decide), upd_other _ _ (by omega)]
      ·rw [Lst_next hlt, col_next] at HM2
       exact HM2
     case measure => simp [intOf]; omega
  ·have : k = 8 := by omega
   subst this
   have o8 := HW1.out.own 8
   rw [Lst_8 (Nat.le_refl _)] at o8
   have hsort := Aside0.mk (sort_row o8 (by have := col_len (p := p) hL 8 0 (Nat.le_refl _); omega))
   have hl8 := (own_base o8)
   clear o8
   go_wp2_with (go_at_call 37; refine hsort.out.mono ?_; rintro e w3 ⟨rfl, ho3, hg3⟩; have HW3 := Aside0.mk (HW1.out.sorted 8 ho3 hg3); have HH3 := Aside0.mk (HH1.out.kept hg3 (fun e => HH1.out.not_row (HW1.out.own 8) e.symm)); have HQ3 := Aside0.mk (HQ1.out.own hg3); have HB3 := Aside0.mk (HB1.out.grown hg3 (by have := HH1.out.lt; omega) (fun q hq => (hl8 q hq).1)); clear ho3 hg3)
   go_ret
   refine ⟨V, rfl, HH3.out, ?_, HN1.out, fun j hj => HV1.out j (by omega) (by omega) (by omega), HB3.out, HQ3.out⟩
   have h3 := HW3.out
   rw [Lst_out (Nat.le_refl _)] at h3
   exact h3
set_option maxHeartbeats 8000000 in
set_option maxRecDepth 100000 in
theorem take_27 {w : World} {b base cb : Nat} {now : Int} {vs : Nat → Value} {ls : Nat → List T} (p : T → Bool) (hH : HubC w b now vs) (hR : Rows w base vs ls) (h8 : vs 8 = nilS) (h9 : vs 9 = nilS) (hbase : base ≤ b) (hL : ∀ j, (ls j).length ≤ 100) (pb : Nat) (po : Obj) (hPr : Prot w vs pb po) (hpb : pb ≠ b)
  (hP : ∀ (x : T) (W : World), Below base w W → W.cell? ⟨b, 0, none⟩ = some (.int .i64 now) → b < W.heap.size → Calls Try.prog 27 #[.pointer (some ⟨b, 0, none⟩), .agg #[.int .i64 x.1, .int .i64 x.2]] W fun e w' => e = .returned (.bool (p x)) ∧ Below W.heap.size W w') :
  Calls Try.prog 26 #[.pointer (some ⟨b, 0, none⟩), .func (.func 27) #[.pointer (some ⟨b, 0, none⟩)] #[]] w fun e w' => ∃ V : Nat → Value, e = .returned (V 8) ∧ HubC w' b now V ∧ Rows w' base V (Lst p ls 8 (sortT (col p ls 8 0)) []) ∧ V 9 = nilS ∧ (∀ j, 10 ≤ j → V j = vs j) ∧ Below base w w' ∧ Prot w' V pb po := by
 have hu33 := Try.underlying33
 have hu48 := Try.underlying48
 have hu46 := Try.underlying46
 have hbw := hH.lt
 have c0 := hH.cell (j := 0) (by omega)
 have c1 := hH.cell (j := 1) (by omega)
 have c2 := hH.cell (j := 2) (by omega)
 have c3 := hH.cell (j := 3) (by omega)
 have c4 := hH.cell (j := 4) (by omega)
 have c5 := hH.cell (j := 5) (by omega)
 have c6 := hH.cell (j := 6) (by omega)
 have c7 := hH.cell (j := 7) (by omega)
 have hl0 : ls 8 = [] := by have := (hR.own 8).1; have h := (hR.own 8).2; rw [h8] at h; rcases h with ⟨_, h⟩ | ⟨g, c, d, h, _⟩; exact List.length_eq_zero_iff.1 h; cases h
 have hl1 : ls 9 = [] := by have := (hR.own 9).1; have h := (hR.own 9).2; rw [h9] at h; rcases h with ⟨_, h⟩ | ⟨g, c, d, h, _⟩; exact List.length_eq_zero_iff.1 h; cases h
 have e0 : Lst p ls 0 (col p ls 0 0) [] = ls := by
  funext j
  unfold Lst
  rw [if_neg (by omega)]
  by_cases e8 : j = 8
  ·subst e8; rw [if_pos rfl, hl0]; rfl
  ·rw [if_neg e8]
   by_cases e9 : j = 9
   ·subst e9; rw [if_pos rfl, hl1]
   ·rw [if_neg e9]
 have HH := Aside0.mk hH
 have HR := Aside0.mk hR
 have HP := Aside0.mk hP
 have HPr := Aside0.mk hPr
 clear hH hR hP hPr
 obtain ⟨i0, hi, hz0, hz1, hz2⟩ := info_parts info33
 go_enter Try.func26, Try.ntmps26
 go_wp2
 go_loopw [5, 15] (fun o i wr => ∃ (k : Nat) (V : Nat → Value), k ≤ 8 ∧ i = .int .i64 k ∧ o = V 8 ∧ Aside0 (V 9 = nilS) ∧ Aside0 (HubC wr b now V) ∧ Aside0 (Rows wr base V (Lst p ls k (col p ls k 0) [])) ∧ Aside0 (∀ j, k ≤ j → j ≠ 8 → j ≠ 9 → V j = vs j) ∧ Aside0 (Below base w wr) ∧ Aside0 (Prot wr V pb po)) (fun _ i _ => 8 - (intOf i).toNat)
 case atStart => exact ⟨0, vs, Nat.zero_le _, rfl, h8.symm, ⟨h9⟩, HH, ⟨by rw [e0]; exact HR.out⟩, ⟨fun _ _ _ _ => rfl⟩, ⟨Below.refl _ _⟩, HPr⟩
 case round =>
  obtain ⟨k, V, hk, rfl, rfl, HN1, HH1, HW1, HV1, HB1, HQ1⟩ := hrel
  by_cases hlt : k < 8
  ·have hvk : V k = vs k := HV1.out k (Nat.le_refl _) (by omega) (by omega)
   have hown := HW1.out.own k
   rw [Lst_at (Nat.le_refl _) hlt, hvk] at hown
   obtain ⟨A, cap, hsl, hA⟩ := own_slice hown
   have hix : ∀ W, (Instr.index 46 (.agg #[vs 0, vs 1, vs 2, vs 3, vs 4, vs 5, vs 6, vs 7]) (.int .i64 k)).run Try.prog W = .ok (.slice A (ls k).length cap) W := fun W => by
    rw [← hsl]
    exact index_hub vs k hlt W
   have hm0 : Lst p ls k (col p ls k 0) [] = Lst p ls k (col p ls k 0) (((ls k).take 0).filter fun y => !p y) := by simp
   have HW2 := Aside0.mk (show Rows wr base V (Lst p ls k (col p ls k 0) (((ls k).take 0).filter fun y => !p y)) by rw [← hm0]; exact HW1.out)
   have HS := Aside0.mk hsl
   have HA := Aside0.mk hA
   clear HW1 hown hm0 hsl hA hvk
   go_wp2
   rw [show decide ((k : Int) < 8) = true from decide_eq_true (by omega)]
   go_loopw [5, 8, 21] (fun o r i wi => ∃ (m : Nat) (V2 : Nat → Value), m ≤ (ls k).length ∧ i = .int .i64 m ∧ o = V2 8 ∧ r = V2 9 ∧ Aside0 (HubC wi b now V2) ∧ Aside0 (Rows wi base V2 (Lst p ls k (col p ls k m) (((ls k).take m).filter fun y => !p y))) ∧ Aside0 (∀ j, k ≤ j → j ≠ 8 → j ≠ 9 → V2 j = vs j) ∧ Aside0 (Below base w wi) ∧ Aside0 (Prot wi V2 pb po)) (fun _ _ i _ => (ls k).length - (intOf i).toNat)
   case atStart => exact ⟨0, V, Nat.zero_le _, rfl, rfl, HN1.out.symm, HH1, HW2, HV1, HB1, HQ1⟩
   case round =>
    obtain ⟨m, V2, hm, rfl, rfl, rfl, HH3, HW3, HV3, HB3, HQ3⟩ := hrel
    by_cases hml : m < (ls k).length
    ·have hLk := hL k
     have hx : (ls k)[m]? = some (ls k)[m] := List.getElem?_eq_getElem hml
     generalize (ls k)[m] = x at hx
     obtain ⟨g, rfl⟩ := HA.out m x hx
     have hown := HW3.out.own k
     rw [Lst_at (Nat.le_refl _) hlt, HV3.out k (Nat.le_refl _) (by omega) (by omega), HS.out] at hown
     obtain ⟨q0, q1⟩ := own_cells hown hx
     have q0' := q0
     have q1' := q1
     rw [Nat.zero_add] at q0' q1'
     have HXE := Aside0.mk hx
     have hga := World.grownBy_alloc wr (.cells #[.int .i64 x.1, .int .i64 x.2] 33) none
     have HHa := Aside0.mk (HH3.out.kept hga (by simp))
     have HWa := Aside0.mk (HW3.out.kept hga)
     have HXa := Aside0.mk (Box2.new wr x)
     have HQa := Aside0.mk (HQ3.out.kept hga (by simp))
     have HBa := Aside0.mk (HB3.out.alloc (by have := HH3.out.lt; omega) (.cells #[.int .i64 x.1, .int .i64 x.2] 33))
     clear hown hx hga
     cases hp : p x with
     |true =>
      have hll : (col p ls k m).length ≤ 900 := col_len hL k m (by omega)
      go_wp2_with (first
       |(go_at_call 27; refine (HP.out x _ HBa.out HHa.out.now_ HHa.out.lt).mono ?_; rintro e w3 ⟨rfl, hb⟩; rw [hp]; have HH4 := Aside0.mk (HHa.out.below hb); have HW4 := Aside0.mk (HWa.out.below hb); have HX4 := Aside0.mk (HXa.out.below hb); have HQ4 := Aside0.mk (HQa.out.below hb); have HB4 := Aside0.mk (HBa.out.trans (hb.mono (by have := HHa.out.lt; omega))); have y0 := HX4.out.c0; have y1 := HX4.out.c1; clear hb)
       |(at_builtin; refine wpList_append_own_at _ rfl _ _ 22 rfl base 33 i0 (.agg #[.int .i64 0, .int .i64 0]) 2 16 Try.underlying22 hi hz0 hz1 hz2 rfl (by decide) (V2 8) (col p ls k m).length (flat (col p ls k m)) rfl ?aO ⟨w3.heap.size, 0, none⟩ 1 1 (enc2 x) rfl rfl ?aN (by simp [enc2, Value.oneCell']) (by unfold maxLen; omega) (by omega) ?aB ?_; (case aO => have h := (HW4.out.kept (World.grownBy_alloc w3 (.cells #[.int .i64 x.1, .int .i64 x.2] 33) none)).own 8; rw [Lst_8 (by omega)] at h; exact h); (case aN => exact box2_news (Below.refl _ _)); (case aB => have := HH4.out.lt; simp; omega); intro v' w5 hown' hgrow _ hat; have HW5 := Aside0.mk ((HW4.out.kept (World.grownBy_alloc w3 (.cells #[.int .i64 x.1, .int .i64 x.2] 33) none)).append 8 (x := x) hgrow (by rw [Lst_8 (by omega)]; exact hown') hat); have HQ5 := Aside0.mk ((HQ4.out.kept (World.grownBy_alloc w3 (.cells #[.int .i64 x.1, .int .i64 x.2] 33) none) (by simp)).append 8 hgrow hat); have HH5 := Aside0.mk ((HH4.out.kept (World.grownBy_alloc w3 (.cells #[.int .i64 x.1, .int .i64 x.2] 33) none) (by simp)).kept hgrow (fun e => (HH4.out.not_row (HW4.out.own 8)) e.symm)); have HB5 := Aside0.mk ((HB4.out.alloc (by have := HH4.out.lt; omega) (.cells #[.int .i64 x.1, .int .i64 x.2] 33)).grown hgrow (by have := HH4.out.lt; simp; omega) (fun q hq => (own_base (HW4.out.own 8) q hq).1)); clear hown' hgrow hat))
      go_roundw
      case rel =>
       refine ⟨m + 1, upd V2 8 v', by omega, by go_num, ?_, ?_, ⟨HH5.out.congr (fun j hj => upd_other _ _ (by omega))⟩, ⟨?_⟩, ⟨fun j h1 h2 h3 => by rw [upd_other _ _ (by omega)]; exact HV3.out j h1 h2 h3⟩, HB5, HQ5⟩
       ·exact (upd_same _ _ _).symm
       ·exact (upd_other _ _ (by decide)).symm
       ·have h5 := HW5.out
        rw [Lst_8 (by omega), Lst_out (by omega)] at h5
        rw [col_snoc HXE.out, rest_snoc HXE.out, hp]
        exact h5
      case measure => simp [intOf]; omega
     |false =>
      have hll : (((ls k).take m).filter fun y => !p y).length ≤ 100 := rest_len hL k m
      go_wp2_with (first
       |(go_at_call 27; refine (HP.out x _ HBa.out HHa.out.now_ HHa.out.lt).mono ?_; rintro e w3 ⟨rfl, hb⟩; rw [hp]; have HH4 := Aside0.mk (HHa.out.below hb); have HW4 := Aside0.mk (HWa.out.below hb); have HX4 := Aside0.mk (HXa.out.below hb); have HQ4 := Aside0.mk (HQa.out.below hb); have HB4 := Aside0.mk (HBa.out.trans (hb.mono (by have := HHa.out.lt; omega))); have y0 := HX4.out.c0; have y1 := HX4.out.c1; clear hb)
       |(at_builtin; refine wpList_append_own_at _ rfl _ _ 22 rfl base 33 i0 (.agg #[.int .i64 0, .int .i64 0]) 2 16 Try.underlying22 hi hz0 hz1 hz2 rfl (by decide) (V2 9) (((ls k).take m).filter fun y => !p y).length (flat (((ls k).take m).filter fun y => !p y)) rfl ?aO ⟨w3.heap.size, 0, none⟩ 1 1 (enc2 x) rfl rfl ?aN (by simp [enc2, Value.oneCell']) (by unfold maxLen; omega) (by omega) ?aB ?_; (case aO => have h := (HW4.out.kept (World.grownBy_alloc w3 (.cells #[.int .i64 x.1, .int .i64 x.2] 33) none)).own 9; rw [Lst_9 (by omega)] at h; exact h); (case aN => exact box2_news (Below.refl _ _)); (case aB => have := HH4.out.lt; simp; omega); intro v' w5 hown' hgrow _ hat; have HW5 := Aside0.mk ((HW4.out.kept (World.grownBy_alloc w3 (.cells #[.int .i64 x.1, .int .i64 x.2] 33) none)).append 9 (x := x) hgrow (by rw [Lst_9 (by omega)]; exact hown') hat); have HQ5 := Aside0.mk ((HQ4.out.kept (World.grownBy_alloc w3 (.cells #[.int .i64 x.1, .int .i64 x.2] 33) none) (by simp)).append 9 hgrow hat); have HH5 := Aside0.mk ((HH4.out.kept (World.grownBy_alloc w3 (.cells #[.int .i64 x.1, .int .i64 x.2] 33) none) (by simp)).kept hgrow (fun e => (HH4.out.not_row (HW4.out.own 9)) e.symm)); have HB5 := Aside0.mk ((HB4.out.alloc (by have := HH4.out.lt; omega) (.cells #[.int .i64 x.1, .int .i64 x.2] 33)).grown hgrow (by have := HH4.out.lt; simp; omega) (fun q hq => (own_base (HW4.out.own 9) q hq).1)); clear hown' hgrow hat))
      go_roundw
      case rel =>
       refine ⟨m + 1, upd V2 9 v', by omega, by go_num, ?_, ?_, ⟨HH5.out.congr (fun j hj => upd_other _ _ (by omega))⟩, ⟨?_⟩, ⟨fun j h1 h2 h3 => by rw [upd_other _ _ (by omega)]; exact HV3.out j h1 h2 h3⟩, HB5, HQ5⟩
       ·exact (upd_other _ _ (by decide)).symm
       ·exact (upd_same _ _ _).symm
       ·have h5 := HW5.out
        rw [Lst_9 (by omega), Lst_rest (by omega)] at h5
        rw [col_snoc HXE.out, rest_snoc HXE.out, hp]
        exact h5
      case measure => simp [intOf]; omega
    ·have : m = (ls k).length := by omega
     subst this
     obtain ⟨A9, n9, cap9, e9⟩ : ∃ A n c, V2 9 = .slice A n c := by
      obtain ⟨A9, cap9, e9, _⟩ := own_slice (HW3.out.own 9)
      exact ⟨_, _, _, e9⟩
     rw [e9]
     have hc := HH3.out.cell hlt
     have hf := HH3.out.frozen (1 + k)
     have HE9 := Aside0.mk e9
     clear e9
     go_wp2
     go_roundw
     case rel =>
      have hk9 : k ≠ 9 := by omega
      have HM := HW3.out.keptBut (grownBy_setCell' wr b (1 + k) (V2 9)) (fun j => HH3.out.not_row (HW3.out.own j))
      have HM2 := HM.move hk9
      rw [List.take_length] at HM2
      rw [← HE9.out]
      refine ⟨k + 1, upd (upd V2 k (V2 9)) 9 nilS, by omega, by go_num, ?_, ⟨upd_same _ _ _⟩, ⟨(HH3.out.set hlt (V2 9)).congr (fun j hj => upd_other _ _ (by omega))⟩, ⟨?_⟩, ⟨fun j h1 h2 h3 => by rw [upd_other _ _ h3, upd_other _ _ (by omega)]; exact HV3.out j (by omega) h2 h3⟩, ⟨HB3.out.setCell (p := ⟨b, 1 + k, none⟩) hbase _⟩, ⟨(HQ3.out.kept (grownBy_setCell' wr b (1 + k) (V2 9)) (by simpa using hpb)).move k 9⟩⟩
      ·rw [upd_other _ _ (by decide), upd_other _ _ (by omega)]
      ·rw [Lst_next hlt, col_next] at HM2
       exact HM2
     case measure => simp [intOf]; omega
  ·have : k = 8 := by omega
   subst this
   have o8 := HW1.out.own 8
   rw [Lst_8 (Nat.le_refl _)] at o8
   have hsort := Aside0.mk (sort_row o8 (by have := col_len (p := p) hL 8 0 (Nat.le_refl _); omega))
   have hl8 := (own_base o8)
   clear o8
   go_wp2_with (go_at_call 37; refine hsort.out.mono ?_; rintro e w3 ⟨rfl, ho3, hg3⟩; have HW3 := Aside0.mk (HW1.out.sorted 8 ho3 hg3); have HH3 := Aside0.mk (HH1.out.kept hg3 (fun e => HH1.out.not_row (HW1.out.own 8) e.symm)); have HQ3 := Aside0.mk (HQ1.out.own hg3); have HB3 := Aside0.mk (HB1.out.grown hg3 (by have := HH1.out.lt; omega) (fun q hq => (hl8 q hq).1)); clear ho3 hg3)
   go_ret
   refine ⟨V, rfl, HH3.out, ?_, HN1.out, fun j hj => HV1.out j (by omega) (by omega) (by omega), HB3.out, HQ3.out⟩
   have h3 := HW3.out
   rw [Lst_out (Nat.le_refl _)] at h3
   exact h3
set_option maxHeartbeats 8000000 in
set_option maxRecDepth 100000 in
theorem take_34 {w : World} {b base cb : Nat} {now : Int} {vs : Nat → Value} {ls : Nat → List T} (p : T → Bool) (hH : HubC w b now vs) (hR : Rows w base vs ls) (h8 : vs 8 = nilS) (h9 : vs 9 = nilS) (hbase : base ≤ b) (hL : ∀ j, (ls j).length ≤ 100) (pb : Nat) (po : Obj) (hPr : Prot w vs pb po) (hpb : pb ≠ b)
  (hP : ∀ (x : T) (W : World), Below base w W → W.cell? ⟨b, 0, none⟩ = some (.int .i64 now) → b < W.heap.size → Calls Try.prog 34 #[.agg #[.int .i64 x.1, .int .i64 x.2], .pointer (some ⟨cb, 0, none⟩)] W fun e w' => e = .returned (.bool (p x)) ∧ Below W.heap.size W w') :
  Calls Try.prog 26 #[.pointer (some ⟨b, 0, none⟩), .func (.func 34) #[] #[.pointer (some ⟨cb, 0, none⟩)]] w fun e w' => ∃ V : Nat → Value, e = .returned (V 8) ∧ HubC w' b now V ∧ Rows w' base V (Lst p ls 8 (sortT (col p ls 8 0)) []) ∧ V 9 = nilS ∧ (∀ j, 10 ≤ j → V j = vs j) ∧ Below base w w' ∧ Prot w' V pb po := by
 have hu33 := Try.underlying33
 have hu48 := Try.underlying48
 have hu46 := Try.underlying46
 have hbw := hH.lt
 have c0 := hH.cell (j := 0) (by omega)
 have c1 := hH.cell (j := 1) (by omega)
 have c2 := hH.cell (j := 2) (by omega)
 have c3 := hH.cell (j := 3) (by omega)
 have c4 := hH.cell (j := 4) (by omega)
 have c5 := hH.cell (j := 5) (by omega)
 have c6 := hH.cell (j := 6) (by omega)
 have c7 := hH.cell (j := 7) (by omega)
 have hl0 : ls 8 = [] := by have := (hR.own 8).1; have h := (hR.own 8).2; rw [h8] at h; rcases h with ⟨_, h⟩ | ⟨g, c, d, h, _⟩; exact List.length_eq_zero_iff.1 h; cases h
 have hl1 : ls 9 = [] := by have := (hR.own 9).1; have h := (hR.own 9).2; rw [h9] at h; rcases h with ⟨_, h⟩ | ⟨g, c, d, h, _⟩; exact List.length_eq_zero_iff.1 h; cases h
 have e0 : Lst p ls 0 (col p ls 0 0) [] = ls := by
  funext j
  unfold Lst
  rw [if_neg (by omega)]
  by_cases e8 : j = 8
  ·subst e8; rw [if_pos rfl, hl0]; rfl
  ·rw [if_neg e8]
   by_cases e9 : j = 9
   ·subst e9; rw [if_pos rfl, hl1]
   ·rw [if_neg e9]
 have HH := Aside0.mk hH
 have HR := Aside0.mk hR
 have HP := Aside0.mk hP
 have HPr := Aside0.mk hPr
 clear hH hR hP hPr
 obtain ⟨i0, hi, hz0, hz1, hz2⟩ := info_parts info33
 go_enter Try.func26, Try.ntmps26
 go_wp2
 go_loopw [5, 15] (fun o i wr => ∃ (k : Nat) (V : Nat → Value), k ≤ 8 ∧ i = .int .i64 k ∧ o = V 8 ∧ Aside0 (V 9 = nilS) ∧ Aside0 (HubC wr b now V) ∧ Aside0 (Rows wr base V (Lst p ls k (col p ls k 0) [])) ∧ Aside0 (∀ j, k ≤ j → j ≠ 8 → j ≠ 9 → V j = vs j) ∧ Aside0 (Below base w wr) ∧ Aside0 (Prot wr V pb po)) (fun _ i _ => 8 - (intOf i).toNat)
 case atStart => exact ⟨0, vs, Nat.zero_le _, rfl, h8.symm, ⟨h9⟩, HH, ⟨by rw [e0]; exact HR.out⟩, ⟨fun _ _ _ _ => rfl⟩, ⟨Below.refl _ _⟩, HPr⟩
 case round =>
  obtain ⟨k, V, hk, rfl, rfl, HN1, HH1, HW1, HV1, HB1, HQ1⟩ := hrel
  by_cases hlt : k < 8
  ·have hvk : V k = vs k := HV1.out k (Nat.le_refl _) (by omega) (by omega)
   have hown := HW1.out.own k
   rw [Lst_at (Nat.le_refl _) hlt, hvk] at hown
   obtain ⟨A, cap, hsl, hA⟩ := own_slice hown
   have hix : ∀ W, (Instr.index 46 (.agg #[vs 0, vs 1, vs 2, vs 3, vs 4, vs 5, vs 6, vs 7]) (.int .i64 k)).run Try.prog W = .ok (.slice A (ls k).length cap) W := fun W => by
    rw [← hsl]
    exact index_hub vs k hlt W
   have hm0 : Lst p ls k (col p ls k 0) [] = Lst p ls k (col p ls k 0) (((ls k).take 0).filter fun y => !p y) := by simp
   have HW2 := Aside0.mk (show Rows wr base V (Lst p ls k (col p ls k 0) (((ls k).take 0).filter fun y => !p y)) by rw [← hm0]; exact HW1.out)
   have HS := Aside0.mk hsl
   have HA := Aside0.mk hA
   clear HW1 hown hm0 hsl hA hvk
   go_wp2
   rw [show decide ((k : Int) < 8) = true from decide_eq_true (by omega)]
   go_loopw [5, 8, 21] (fun o r i wi => ∃ (m : Nat) (V2 : Nat → Value), m ≤ (ls k).length ∧ i = .int .i64 m ∧ o = V2 8 ∧ r = V2 9 ∧ Aside0 (HubC wi b now V2) ∧ Aside0 (Rows wi base V2 (Lst p ls k (col p ls k m) (((ls k).take m).filter fun y => !p y))) ∧ Aside0 (∀ j, k ≤ j → j ≠ 8 → j ≠ 9 → V2 j = vs j) ∧ Aside0 (Below base w wi) ∧ Aside0 (Prot wi V2 pb po)) (fun _ _ i _ => (ls k).length - (intOf i).toNat)
   case atStart => exact ⟨0, V, Nat.zero_le _, rfl, rfl, HN1.out.symm, HH1, HW2, HV1, HB1, HQ1⟩
   case round =>
    obtain ⟨m, V2, hm, rfl, rfl, rfl, HH3, HW3, HV3, HB3, HQ3⟩ := hrel
    by_cases hml : m < (ls k).length
    ·have hLk := hL k
     have hx : (ls k)[m]? = some (ls k)[m] := List.getElem?_eq_getElem hml
     generalize (ls k)[m] = x at hx
     obtain ⟨g, rfl⟩ := HA.out m x hx
     have hown := HW3.out.own k
     rw [Lst_at (Nat.le_refl _) hlt, HV3.out k (Nat.le_refl _) (by omega) (by omega), HS.out] at hown
     obtain ⟨q0, q1⟩ := own_cells hown hx
     have q0' := q0
     have q1' := q1
     rw [Nat.zero_add] at q0' q1'
     have HXE := Aside0.mk hx
     have hga := World.grownBy_alloc wr (.cells #[.int .i64 x.1, .int .i64 x.2] 33) none
     have HHa := Aside0.mk (HH3.out.kept hga (by simp))
     have HWa := Aside0.mk (HW3.out.kept hga)
     have HXa := Aside0.mk (Box2.new wr x)
     have HQa := Aside0.mk (HQ3.out.kept hga (by simp))
     have HBa := Aside0.mk (HB3.out.alloc (by have := HH3.out.lt; omega) (.cells #[.int .i64 x.1, .int .i64 x.2] 33))
     clear hown hx hga
     cases hp : p x with
     |true =>
      have hll : (col p ls k m).length ≤ 900 := col_len hL k m (by omega)
      go_wp2_with (first
       |(go_at_call 34; refine (HP.out x _ HBa.out HHa.out.now_ HHa.out.lt).mono ?_; rintro e w3 ⟨rfl, hb⟩; rw [hp]; have HH4 := Aside0.mk (HHa.out.below hb); have HW4 := Aside0.mk (HWa.out.below hb); have HX4 := Aside0.mk (HXa.out.below hb); have HQ4 := Aside0.mk (HQa.out.below hb); have HB4 := Aside0.mk (HBa.out.trans (hb.mono (by have := HHa.out.lt; omega))); have y0 := HX4.out.c0; have y1 := HX4.out.c1; clear hb)
       |(at_builtin; refine wpList_append_own_at _ rfl _ _ 22 rfl base 33 i0 (.agg #[.int .i64 0, .int .i64 0]) 2 16 Try.underlying22 hi hz0 hz1 hz2 rfl (by decide) (V2 8) (col p ls k m).length (flat (col p ls k m)) rfl ?aO ⟨w3.heap.size, 0, none⟩ 1 1 (enc2 x) rfl rfl ?aN (by simp [enc2, Value.oneCell']) (by unfold maxLen; omega) (by omega) ?aB ?_; (case aO => have h := (HW4.out.kept (World.grownBy_alloc w3 (.cells #[.int .i64 x.1, .int .i64 x.2] 33) none)).own 8; rw [Lst_8 (by omega)] at h; exact h); (case aN => exact box2_news (Below.refl _ _)); (case aB => have := HH4.out.lt; simp; omega); intro v' w5 hown' hgrow _ hat; have HW5 := Aside0.mk ((HW4.out.kept (World.grownBy_alloc w3 (.cells #[.int .i64 x.1, .int .i64 x.2] 33) none)).append 8 (x := x) hgrow (by rw [Lst_8 (by omega)]; exact hown') hat); have HQ5 := Aside0.mk ((HQ4.out.kept (World.grownBy_alloc w3 (.cells #[.int .i64 x.1, .int .i64 x.2] 33) none) (by simp)).append 8 hgrow hat); have HH5 := Aside0.mk ((HH4.out.kept (World.grownBy_alloc w3 (.cells #[.int .i64 x.1, .int .i64 x.2] 33) none) (by simp)).kept hgrow (fun e => (HH4.out.not_row (HW4.out.own 8)) e.symm)); have HB5 := Aside0.mk ((HB4.out.alloc (by have := HH4.out.lt; omega) (.cells #[.int .i64 x.1, .int .i64 x.2] 33)).grown hgrow (by have := HH4.out.lt; simp; omega) (fun q hq => (own_base (HW4.out.own 8) q hq).1)); clear hown' hgrow hat))
      go_roundw
      case rel =>
       refine ⟨m + 1, upd V2 8 v', by omega, by go_num, ?_, ?_, ⟨HH5.out.congr (fun j hj => upd_other _ _ (by omega))⟩, ⟨?_⟩, ⟨fun j h1 h2 h3 => by rw [upd_other _ _ (by omega)]; exact HV3.out j h1 h2 h3⟩, HB5, HQ5⟩
       ·exact (upd_same _ _ _).symm
       ·exact (upd_other _ _ (by decide)).symm
       ·have h5 := HW5.out
        rw [Lst_8 (by omega), Lst_out (by omega)] at h5
        rw [col_snoc HXE.out, rest_snoc HXE.out, hp]
        exact h5
      case measure => simp [intOf]; omega
     |false =>
      have hll : (((ls k).take m).filter fun y => !p y).length ≤ 100 := rest_len hL k m
      go_wp2_with (first
       |(go_at_call 34; refine (HP.out x _ HBa.out HHa.out.now_ HHa.out.lt).mono ?_; rintro e w3 ⟨rfl, hb⟩; rw [hp]; have HH4 := Aside0.mk (HHa.out.below hb); have HW4 := Aside0.mk (HWa.out.below hb); have HX4 := Aside0.mk (HXa.out.below hb); have HQ4 := Aside0.mk (HQa.out.below hb); have HB4 := Aside0.mk (HBa.out.trans (hb.mono (by have := HHa.out.lt; omega))); have y0 := HX4.out.c0; have y1 := HX4.out.c1; clear hb)
       |(at_builtin; refine wpList_append_own_at _ rfl _ _ 22 rfl base 33 i0 (.agg #[.int .i64 0, .int .i64 0]) 2 16 Try.underlying22 hi hz0 hz1 hz2 rfl (by decide) (V2 9) (((ls k).take m).filter fun y => !p y).length (flat (((ls k).take m).filter fun y => !p y)) rfl ?aO ⟨w3.heap.size, 0, none⟩ 1 1 (enc2 x) rfl rfl ?aN (by simp [enc2, Value.oneCell']) (by unfold maxLen; omega) (by omega) ?aB ?_; (case aO => have h := (HW4.out.kept (World.grownBy_alloc w3 (.cells #[.int .i64 x.1, .int .i64 x.2] 33) none)).own 9; rw [Lst_9 (by omega)] at h; exact h); (case aN => exact box2_news (Below.refl _ _)); (case aB => have := HH4.out.lt; simp; omega); intro v' w5 hown' hgrow _ hat; have HW5 := Aside0.mk ((HW4.out.kept (World.grownBy_alloc w3 (.cells #[.int .i64 x.1, .int .i64 x.2] 33) none)).append 9 (x := x) hgrow (by rw [Lst_9 (by omega)]; exact hown') hat); have HQ5 := Aside0.mk ((HQ4.out.kept (World.grownBy_alloc w3 (.cells #[.int .i64 x.1, .int .i64 x.2] 33) none) (by simp)).append 9 hgrow hat); have HH5 := Aside0.mk ((HH4.out.kept (World.grownBy_alloc w3 (.cells #[.int .i64 x.1, .int .i64 x.2] 33) none) (by simp)).kept hgrow (fun e => (HH4.out.not_row (HW4.out.own 9)) e.symm)); have HB5 := Aside0.mk ((HB4.out.alloc (by have := HH4.out.lt; omega) (.cells #[.int .i64 x.1, .int .i64 x.2] 33)).grown hgrow (by have := HH4.out.lt; simp; omega) (fun q hq => (own_base (HW4.out.own 9) q hq).1)); clear hown' hgrow hat))
      go_roundw
      case rel =>
       refine ⟨m + 1, upd V2 9 v', by omega, by go_num, ?_, ?_, ⟨HH5.out.congr (fun j hj => upd_other _ _ (by omega))⟩, ⟨?_⟩, ⟨fun j h1 h2 h3 => by rw [upd_other _ _ (by omega)]; exact HV3.out j h1 h2 h3⟩, HB5, HQ5⟩
       ·exact (upd_other _ _ (by decide)).symm
       ·exact (upd_same _ _ _).symm
       ·have h5 := HW5.out
        rw [Lst_9 (by omega), Lst_rest (by omega)] at h5
        rw [col_snoc HXE.out, rest_snoc HXE.out, hp]
        exact h5
      case measure => simp [intOf]; omega
    ·have : m = (ls k).length := by omega
     subst this
     obtain ⟨A9, n9, cap9, e9⟩ : ∃ A n c, V2 9 = .slice A n c := by
      obtain ⟨A9, cap9, e9, _⟩ := own_slice (HW3.out.own 9)
      exact ⟨_, _, _, e9⟩
     rw [e9]
     have hc := HH3.out.cell hlt
     have hf := HH3.out.frozen (1 + k)
     have HE9 := Aside0.mk e9
     clear e9
     go_wp2
     go_roundw
     case rel =>
      have hk9 : k ≠ 9 := by omega
      have HM := HW3.out.keptBut (grownBy_setCell' wr b (1 + k) (V2 9)) (fun j => HH3.out.not_row (HW3.out.own j))
      have HM2 := HM.move hk9
      rw [List.take_length] at HM2
      rw [← HE9.out]
      refine ⟨k + 1, upd (upd V2 k (V2 9)) 9 nilS, by omega, by go_num, ?_, ⟨upd_same _ _ _⟩, ⟨(HH3.out.set hlt (V2 9)).congr (fun j hj => upd_other _ _ (by omega))⟩, ⟨?_⟩, ⟨fun j h1 h2 h3 => by rw [upd_other _ _ h3, upd_other _ _ (by omega)]; exact HV3.out j (by omega) h2 h3⟩, ⟨HB3.out.setCell (p := ⟨b, 1 + k, none⟩) hbase _⟩, ⟨(HQ3.out.kept (grownBy_setCell' wr b (1 + k) (V2 9)) (by simpa using hpb)).move k 9⟩⟩
      ·rw [upd_other _ _ (by decide), upd_other _ _ (by omega)]
      ·rw [Lst_next hlt, col_next] at HM2
       exact HM2
     case measure => simp [intOf]; omega
  ·have : k = 8 := by omega
   subst this
   have o8 := HW1.out.own 8
   rw [Lst_8 (Nat.le_refl _)] at o8
   have hsort := Aside0.mk (sort_row o8 (by have := col_len (p := p) hL 8 0 (Nat.le_refl _); omega))
   have hl8 := (own_base o8)
   clear o8
   go_wp2_with (go_at_call 37; refine hsort.out.mono ?_; rintro e w3 ⟨rfl, ho3, hg3⟩; have HW3 := Aside0.mk (HW1.out.sorted 8 ho3 hg3); have HH3 := Aside0.mk (HH1.out.kept hg3 (fun e => HH1.out.not_row (HW1.out.own 8) e.symm)); have HQ3 := Aside0.mk (HQ1.out.own hg3); have HB3 := Aside0.mk (HB1.out.grown hg3 (by have := HH1.out.lt; omega) (fun q hq => (hl8 q hq).1)); clear ho3 hg3)
   go_ret
   refine ⟨V, rfl, HH3.out, ?_, HN1.out, fun j hj => HV1.out j (by omega) (by omega) (by omega), HB3.out, HQ3.out⟩
   have h3 := HW3.out
   rw [Lst_out (Nat.le_refl _)] at h3
   exact h3
end Go.Proofs.Ytggkealdbebbkaa.W10
end
section
namespace Go.Proofs.Ytggkealdbebbkaa.W10
-- part NC
open Go.RowKit Go.Proofs.YtggkealdbebbkaaW.PrintWords Go.Proofs.YtggkealdbebbkaaW.PrintLast Go.Proofs.YtggkealdbebbkaaW.PrintMore
set_option linter.unusedVariables false
set_option linter.unusedSimpArgs false
theorem pred38 (x : T) (W : World) : Calls Try.prog 38 #[.agg #[.int .i64 x.1, .int .i64 x.2]] W fun e w' => e = .returned (.bool true) ∧ Below W.heap.size W w' := by
 go_enter Try.func38, Try.ntmps38
 go_wp2
 go_ret
 exact ⟨rfl, (Below.refl _ _).alloc (Nat.le_refl _) _⟩
theorem pred27 (x : T) (b : Nat) (now : Int) (W : World) (hc : W.cell? ⟨b, 0, none⟩ = some (.int .i64 now)) (hb : b < W.heap.size) : Calls Try.prog 27 #[.pointer (some ⟨b, 0, none⟩), .agg #[.int .i64 x.1, .int .i64 x.2]] W fun e w' => e = .returned (.bool (decide (x.2 ≤ now))) ∧ Below W.heap.size W w' := by
 have hu33 := Try.underlying33
 have hu48 := Try.underlying48
 go_enter Try.func27, Try.ntmps27
 go_wp2
 have hmx : Try.prog.follows .mixedOrders = true := by kernel_rfl
 have hd : (W.alloc (.cells #[.int .i64 x.1, .int .i64 x.2] 33)).cell? ⟨b, 0, none⟩ = some (.int .i64 now) := (World.cell?_alloc_lt _ _ _ (show (⟨b, 0, none⟩ : Addr).block < _ from hb)).trans hc
 go_quiet (fail)
 go_wp2
 go_ret
 exact ⟨rfl, pw_below_drewN ((Below.refl _ _).alloc (Nat.le_refl _) _) _⟩
theorem pred34 (x : T) (cb : Nat) (id : Int) (W : World) (hc : W.cell? ⟨cb, 0, none⟩ = some (.int .i64 id)) (hb : cb < W.heap.size) : Calls Try.prog 34 #[.agg #[.int .i64 x.1, .int .i64 x.2], .pointer (some ⟨cb, 0, none⟩)] W fun e w' => e = .returned (.bool (x.1 == id)) ∧ Below W.heap.size W w' := by
 have hu33 := Try.underlying33
 go_enter Try.func34, Try.ntmps34
 go_wp2
 have hmx : Try.prog.follows .mixedOrders = true := by kernel_rfl
 have hd : (W.alloc (.cells #[.int .i64 x.1, .int .i64 x.2] 33)).cell? ⟨cb, 0, none⟩ = some (.int .i64 id) := (World.cell?_alloc_lt _ _ _ (show (⟨cb, 0, none⟩ : Addr).block < _ from hb)).trans hc
 first
  |(go_quiet (fail); go_wp2; go_ret; exact ⟨by simp, pw_below_drewN ((Below.refl _ _).alloc (Nat.le_refl _) _) _⟩)
  |(go_ret; exact ⟨by simp, (Below.refl _ _).alloc (Nat.le_refl _) _⟩)
theorem pred30 (x : T) (cb : Nat) (id : Int) (W : World) (hc : W.cell? ⟨cb, 0, none⟩ = some (.int .i64 id)) (hb : cb < W.heap.size) : Calls Try.prog 30 #[.agg #[.int .i64 x.1, .int .i64 x.2], .pointer (some ⟨cb, 0, none⟩)] W fun e w' => e = .returned (.bool (x.1 == id)) ∧ Below W.heap.size W w' := by
 have hu33 := Try.underlying33
 go_enter Try.func30, Try.ntmps30
 go_wp2
 have hmx : Try.prog.follows .mixedOrders = true := by kernel_rfl
 have hd : (W.alloc (.cells #[.int .i64 x.1, .int .i64 x.2] 33)).cell? ⟨cb, 0, none⟩ = some (.int .i64 id) := (World.cell?_alloc_lt _ _ _ (show (⟨cb, 0, none⟩ : Addr).block < _ from hb)).trans hc
 first
  |(go_quiet (fail); go_wp2; go_ret; exact ⟨by simp, pw_below_drewN ((Below.refl _ _).alloc (Nat.le_refl _) _) _⟩)
  |(go_ret; exact ⟨by simp, (Below.refl _ _).alloc (Nat.le_refl _) _⟩)
def whl.T : Bool × List (List Nat × List Nat) := (true, [([], []), ([0], [0]), ([1], [1]), ([2], [2]), ([], []), ([4], [4]), ([3, 5], [3, 5]), ([6, 5, 0, 1, 2, 3, 4, 5, 6], [6])])
def whl.B : List Nat := [0, 1, 3, 7, 0, 16, 63, 127]
theorem whl.tab : rtab .any (opsOf Try.f28 1) = whl.T := by kernel_rfl
theorem whl.bits : waitsOk whl.T.2 whl.B = true := by kernel_rfl

set_option maxHeartbeats 4000000 in
set_option maxRecDepth 100000 in
theorem wheel_ {w : World} {b base : Nat} {now : Int} {vs : Nat → Value} {ls : Nat → List T} (hH : HubC w b now vs) (hR : Rows w base vs ls) (h8 : vs 8 = nilS) (h9 : vs 9 = nilS) (hbase : base ≤ b) (hL : ∀ j, (ls j).length ≤ 100) :
  Calls Try.prog 28 #[.pointer (some ⟨b, 0, none⟩)] w fun e w' => ∃ V : Nat → Value, e = .returned (.agg #[.int .i64 now, V 8]) ∧ HubC w' b now V ∧ Rows w' base V (Lst (fun _ => true) ls 8 (sortT (col (fun _ => true) ls 8 0)) []) ∧ V 9 = nilS ∧ (∀ j, 10 ≤ j → V j = vs j) ∧ Below base w w' := by
 have hu24 := Try.underlying24
 have hu48 := Try.underlying48
 have hbw := hH.lt
 obtain ⟨W1, hW1⟩ : ∃ W1, w.alloc (.cells #[.int .i64 0, .slice none 0 0] 24) = W1 := ⟨_, rfl⟩
 have hB : Below base w W1 := by rw [← hW1]; exact (Below.refl _ _).alloc (by omega) _
 have hg : w.grownBy W1 none := by rw [← hW1]; exact World.grownBy_alloc w _ none
 have hx : W1.heap[w.heap.size]? = some (.cells #[.int .i64 0, .slice none 0 0] 24 (0, 0)) := by rw [← hW1]; exact blk_new w _
 have hd : W1.grownBy W1.drew none := ⟨rfl, rfl, rfl, Nat.le_refl _, fun _ _ _ => rfl⟩
 have HB := Aside0.mk hB
 have HH1 := Aside0.mk ((hH.kept hg (by simp)).kept hd (by simp))
 have HR1 := Aside0.mk ((hR.kept hg).kept hd)
 have HX := Aside0.mk hx
 have HT0 := Aside0.mk (take_38 (cb := 0) (fun _ => true) HH1.out HR1.out h8 h9 hbase hL w.heap.size (.cells #[.int .i64 0, .slice none 0 0] 24 (0, 0)) ⟨hx, fun j e => by have := (own_base (hR.own j) _ e).2; omega⟩ (by omega) (fun x W _ _ _ => pred38 x W))
 have hnow := HH1.out.now_
 clear hH hR hg hx hd hB
 go_enter Try.func28, Try.ntmps28
 go_wp2
 try rw [hW1]
 clear hW1
 refine start_ (n := 8) (S := fun w' => w'.cell? ⟨b, 0, none⟩ = some (.int .i64 now)) (ds := [7]) #[false, false, false, false, false, false, false, false] (by kernel_rfl) rfl rfl hnow (fun hHeld => ?_)
 refine with_tabW whl.tab whl.bits (fun HT_ HW_ => ?_)
 refine pure_ (i := 0) (N := some 3) (v := ?_) (a' := ?_) #[true, false, false, false, false, false, false, false] rfl rfl (any_of HT_.out (by kernel_rfl)) (fun _ _ _ h => h) (Or.inl ⟨by rfl, ?_⟩) ?_ ?_
 rotate_left
 ·intro w'
  go_simp
  first | done | with_reducible rfl
 rotate_left
 ·simp only [Act.put, List.setIfInBounds_toArray, List.set_cons_zero, List.set_cons_succ, i64_w, i32_w]
  rfl
 refine pure_ (i := 1) (N := some 4) (v := ?_) (a' := ?_) #[true, true, false, false, false, false, false, false] rfl rfl (any_of HT_.out (by kernel_rfl)) (fun _ _ _ h => h) (Or.inl ⟨by rfl, ?_⟩) ?_ ?_
 rotate_left
 ·intro w'
  go_simp
  first | done | with_reducible rfl
 rotate_left
 ·simp only [Act.put, List.setIfInBounds_toArray, List.set_cons_zero, List.set_cons_succ, i64_w, i32_w]
  rfl
 refine pure_ (i := 2) (N := some 5) (v := ?_) (a' := ?_) #[true, true, true, false, false, false, false, false] rfl rfl (any_of HT_.out (by kernel_rfl)) (fun _ _ _ h => h) (Or.inl ⟨by rfl, ?_⟩) ?_ ?_
 rotate_left
 ·intro w'
  go_simp
  first | done | with_reducible rfl
 rotate_left
 ·simp only [Act.put, List.setIfInBounds_toArray, List.set_cons_zero, List.set_cons_succ, i64_w, i32_w]
  rfl
 refine pure_ (i := 4) (N := some 7) (v := ?_) (a' := ?_) #[true, true, true, false, true, false, false, false] rfl rfl (any_of HT_.out (by kernel_rfl)) (fun _ _ _ h => h) (Or.inl ⟨by rfl, ?_⟩) ?_ ?_
 rotate_left
 ·intro w'
  go_simp
  first | done | with_reducible rfl
 rotate_left
 ·simp only [Act.put, List.setIfInBounds_toArray, List.set_cons_zero, List.set_cons_succ, i64_w, i32_w]
  rfl
 refine take_ (i := 3) (N := some 6) (v := ?_) (a' := ?_) #[true, true, true, true, true, false, false, false] rfl rfl (take_ofW HT_.out HW_.out (by kernel_rfl)) (fun _ _ _ h => h) (Or.inl ⟨by rfl, ?_⟩) hHeld ?_ ?_
 rotate_left
 ·intro w' q0
  go_simp
  first | done | with_reducible rfl
 rotate_left
 ·simp only [Act.put, List.setIfInBounds_toArray, List.set_cons_zero, List.set_cons_succ, i64_w, i32_w]
  rfl
 refine one_ (i := 5) (N := some 8) #[true, true, true, true, true, true, false, false] rfl rfl (one_of HT_.out (by kernel_rfl)) (by decide) (fun K hK => ?_)
 refine goes_ Try.func26 (by kernel_rfl) rfl #[.pointer (some ⟨b, 0, none⟩), .func (.func 38) #[] #[]] (by rfl) rfl rfl (by (try simp only [List.map_toArray, List.map_cons, List.map_nil]); first | done | rfl) ?_
 refine HT0.out.mono ?_
 rintro e w3 ⟨V, rfl, hH3, hR3, h93, hV3, hB3, hP3⟩
 refine ⟨_, rfl, ?_⟩
 obtain ⟨A8, n8, c8, e8⟩ : ∃ A n c, V 8 = .slice A n c := by
  obtain ⟨A, c, e, _⟩ := own_slice (hR3.own 8)
  exact ⟨_, _, _, e⟩
 have HX3 : w3.heap[w.heap.size]? = some (.cells #[.int .i64 0, .slice none 0 0] 24 (0, 0)) := hP3.1
 rw [e8]
 have r0 : w3.cell? ⟨w.heap.size, 0, none⟩ = some (.int .i64 0) := by simp [World.cell?, HX3]
 have r1 : w3.cell? ⟨w.heap.size, 1, none⟩ = some (.slice none 0 0) := by simp [World.cell?, HX3]
 have rf0 : w3.frozen? ⟨w.heap.size, 0, none⟩ = false := by simp [World.frozen?, HX3]
 have rf1 : w3.frozen? ⟨w.heap.size, 1, none⟩ = false := by simp [World.frozen?, HX3]
 refine hK.out _ _ hH3.now_ (fun hHeld => ?_)
 clear hK K
 refine norm_ (a' := ?_) ?_ ?_
 rotate_left
 ·show Act.put _ (some 8) _ = _
  simp only [Act.put, List.setIfInBounds_toArray, List.set_cons_zero, List.set_cons_succ, i64_w, i32_w]
  rfl
 refine pure_ (i := 6) (N := some 9) (v := ?_) (a' := ?_) #[true, true, true, true, true, true, true, false] rfl rfl (any_of HT_.out (by kernel_rfl)) (fun _ _ _ h => h) (Or.inl ⟨by rfl, ?_⟩) ?_ ?_
 rotate_left
 ·intro w'
  go_simp
  first | done | with_reducible rfl
 rotate_left
 ·simp only [Act.put, List.setIfInBounds_toArray, List.set_cons_zero, List.set_cons_succ, i64_w, i32_w]
  rfl
 refine last_ (i := 7) (N := none) #[true, true, true, true, true, true, true, true] rfl rfl (one_of HT_.out (by kernel_rfl)) (by decide) (fun K hK => ?_)
 refine store_stepX (w1 := (w3.setCell ⟨w.heap.size, 0, none⟩ (.int .i64 now)).setCell ⟨w.heap.size, 1, none⟩ (.slice A8 n8 c8)) ?hg3 ?hr3 ?_
 case hg3 => rfl
 case hr3 => first | (go_simp; done) | (go_simp; rfl)
 refine hK.out _ _ ?_
 clear hK K
 refine done_ (done_of HT_.out (by kernel_rfl)) ?_
 have hp2 := hP3.2
 have hg1 := grownBy_setCell' w3 w.heap.size 0 (.int .i64 now)
 have hg2 := grownBy_setCell' (w3.setCell ⟨w.heap.size, 0, none⟩ (.int .i64 now)) w.heap.size 1 (.slice A8 n8 c8)
 have s1 := setCell_heap w3 w.heap.size 0 (.int .i64 now) HX3
 have s2 := setCell_heap _ w.heap.size 1 (.slice A8 n8 c8) s1
 have hbne : some b ≠ some w.heap.size := by simp; omega
 have hH4 := (hH3.kept hg1 hbne).kept hg2 hbne
 have hR4 := (hR3.keptBut hg1 hp2).keptBut hg2 hp2
 have hB4 := (((HB.out.trans (show Below base W1 W1.drew from ⟨rfl, rfl, rfl, Nat.le_refl _, fun _ _ => rfl⟩)).trans hB3).setCell (p := ⟨w.heap.size, 0, none⟩) (by show base ≤ w.heap.size; omega) (.int .i64 now)).setCell (p := ⟨w.heap.size, 1, none⟩) (by show base ≤ w.heap.size; omega) (.slice A8 n8 c8)
 generalize hW4 : (w3.setCell ⟨w.heap.size, 0, none⟩ (.int .i64 now)).setCell ⟨w.heap.size, 1, none⟩ (.slice A8 n8 c8) = W4 at *
 have z0 : W4.cell? ⟨w.heap.size, 0, none⟩ = some (.int .i64 now) := by simp [World.cell?, s2]
 have z1 : W4.cell? ⟨w.heap.size, 1, none⟩ = some (.slice A8 n8 c8) := by simp [World.cell?, s2]
 go_wp2
 refine bodyPost_ret (v := .agg #[.int .i64 now, .slice A8 n8 c8]) (by simp [results, Try.f28, go_sem, z0, z1]) rfl ?_
 exact ⟨V, by rw [e8], hH4, hR4, h93, hV3, hB4⟩
end Go.Proofs.Ytggkealdbebbkaa.W10
end
