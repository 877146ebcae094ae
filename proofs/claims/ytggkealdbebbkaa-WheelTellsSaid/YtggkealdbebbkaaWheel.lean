/- A parameter of type api.Wheel (a struct of an integer and a slice of structs of two integers), opened to its tick and its row of timers; one of type api.Timer, to its two integers. -/
import Derived.Test.YtggkealdbebbkaaP0
import Derived.Test.YtggkealdbebbkaaRows
import Derived.WalkKit
import Derived.ProofKit
import Derived.OpenShut
import Derived.ChangeOld
import Derived.Below
import Derived.Deep.SlicePairs
namespace Go.Proofs.Ytggkealdbebbkaa
open Go.ChangeShapes Go.WideShapes Go.ChangeAt Go.RowKit
open Go.Proofs.YtggkealdbebbkaaW.PrintWords
variable {H : Type} {enc : TypeId × Value → H} {w : World} {base : Nat} {spare : Nat → Bool} {held : Bool}
theorem open_timer {r : Reach} {b0 : Nat} {v : Value} {d : DataW H} {p : List MemPlace} (hv : Value.okWide Try.prog w r b0 33 v) (h : DataW.Trod enc Try.prog w base spare held 33 v d p) :
    ∃ a b, v = .agg #[.int .i64 a, .int .i64 b] ∧ (Lit.int .i64 a).wf = true ∧ (Lit.int .i64 b).wf = true := by
  obtain ⟨cs, rfl, hsz⟩ := okWide_struct Try.underlying33 hv
  obtain ⟨l⟩ := cs
  obtain ⟨fuel, hf⟩ := h
  have hc : Try.prog.cellsOf 33 = 2 := by kernel_rfl
  have h3 : Try.prog.cellsOf 3 = 1 := by kernel_rfl
  rw [hc] at hsz
  obtain ⟨xs, n, rfl, hx, hl, hxl, hg⟩ := DataW.trod_struct Try.underlying33 hf
  have hsz' : l.length = 2 := hsz
  match l, hsz' with
  | [c0, c1], _ =>
    match xs, hxl with
    | [y0, y1], _ =>
      have g0 : DataW.trod enc Try.prog w base spare held n 3 (([c0, c1].drop 0).take (Try.prog.cellsOf 3)) = some y0 := hg 0 _ rfl
      have g1 : DataW.trod enc Try.prog w base spare held n 3 (([c0, c1].drop 1).take (Try.prog.cellsOf 3)) = some y1 := hg 1 _ rfl
      rw [h3] at g0 g1
      obtain ⟨a, e0, _, wa⟩ := DataW.trod_int Try.underlying3 g0
      obtain ⟨b, e1, _, wb⟩ := DataW.trod_int Try.underlying3 g1
      simp at e0 e1
      subst e0 e1
      exact ⟨a, b, rfl, wa, wb⟩
/-- The rows that a wheel's timers lie in. -/
theorem open_row {fuel : Nat} {cs : List Value} {x : DataW H × List MemPlace} (h : DataW.trod enc Try.prog w base spare held fuel 22 cs = some x) :
    ∃ A c, ∃ l : List P.S33, cs = [.slice A l.length c] ∧ l.length ≤ c ∧ Kd.C P.k33 w A l.length l ∧ ∀ s ∈ l, (Lit.int .i64 s.f0).wf = true ∧ (Lit.int .i64 s.f1).wf = true := by
  rcases Go.Deep.open_slice_pairs Try.underlying22 Try.underlying33 (by kernel_rfl) rfl rfl (by kernel_rfl) (by kernel_rfl) h with ⟨rfl, _⟩ | ⟨a, len, cap, m, n, V0, V1, D0, D1, P0, P1, rfl, hb, hl, hm, hmm, _, hx⟩
  · exact ⟨none, 0, [], rfl, Nat.le_refl _, ⟨rfl, by decide, fun h => absurd h (by decide)⟩, fun s hs => by cases hs⟩
  · have hlm : len ≤ m := by rw [hmm]; split <;> omega
    have each : ∀ i, i < len → ∃ q : Int × Int, V0 i = .int .i64 q.1 ∧ V1 i = .int .i64 q.2 ∧ (Lit.int .i64 q.1).wf = true ∧ (Lit.int .i64 q.2).wf = true := fun i hi => by
      obtain ⟨_, _, g0, g1⟩ := hx i (by omega)
      obtain ⟨z0, e0, _, w0⟩ := DataW.trod_int Try.underlying3 g0
      obtain ⟨z1, e1, _, w1⟩ := DataW.trod_int Try.underlying3 g1
      simp at e0 e1
      exact ⟨(z0, z1), e0, e1, w0, w1⟩
    obtain ⟨q, hq⟩ := Go.Deep.choose_lt each
    refine ⟨some a, cap, (List.range len).map fun i => ⟨(q i).1, (q i).2⟩, by simp, by simpa using hl, ?_, fun s hs => ?_⟩
    · refine ⟨rfl, ?_, fun _ => ⟨a, rfl, fun j p hp => ?_⟩⟩
      · rw [List.length_map, List.length_range]
        have : maxLen ≤ 9223372036854775807 := by decide
        omega
      · rw [List.getElem?_map] at hp
        obtain ⟨i, hi, rfl⟩ := Option.map_eq_some_iff.1 hp
        obtain ⟨hj, rfl⟩ := List.getElem?_eq_some_iff.1 hi
        rw [List.length_range] at hj
        rw [List.getElem_range]
        obtain ⟨c0, c1, _, _⟩ := hx j (by omega)
        obtain ⟨v0, v1, _, _⟩ := hq j hj
        rw [v0] at c0
        rw [v1] at c1
        refine ⟨_, rfl, P.k33_mk w ⟨(q j).1, (q j).2⟩, fun i u hu => ?_⟩
        have e : (P.k33.sz : Nat) = 2 := rfl
        rw [e]
        match i, hu with
        | 0, hu => simp at hu; subst hu; exact c0
        | 1, hu => simp at hu; subst hu; exact c1
    · obtain ⟨i, hi, rfl⟩ := List.mem_map.1 hs
      exact ⟨(hq i (List.mem_range.1 hi)).2.2.1, (hq i (List.mem_range.1 hi)).2.2.2⟩
theorem open_wheel {r : Reach} {b0 : Nat} {v : Value} {d : DataW H} {p : List MemPlace} (hv : Value.okWide Try.prog w r b0 24 v) (h : DataW.Trod enc Try.prog w base spare held 24 v d p) :
    ∃ now A c, ∃ l : List P.S33, v = .agg #[.int .i64 now, .slice A l.length c] ∧ (Lit.int .i64 now).wf = true ∧ l.length ≤ c ∧ Kd.C P.k33 w A l.length l ∧ ∀ s ∈ l, (Lit.int .i64 s.f0).wf = true ∧ (Lit.int .i64 s.f1).wf = true := by
  obtain ⟨cs, rfl, hsz⟩ := okWide_struct Try.underlying24 hv
  obtain ⟨l⟩ := cs
  obtain ⟨fuel, hf⟩ := h
  have hc : Try.prog.cellsOf 24 = 2 := by kernel_rfl
  have h3 : Try.prog.cellsOf 3 = 1 := by kernel_rfl
  have h22 : Try.prog.cellsOf 22 = 1 := by kernel_rfl
  rw [hc] at hsz
  obtain ⟨xs, n, rfl, hx, hl, hxl, hg⟩ := DataW.trod_struct Try.underlying24 hf
  have hsz' : l.length = 2 := hsz
  match l, hsz' with
  | [c0, c1], _ =>
    match xs, hxl with
    | [y0, y1], _ =>
      have g0 : DataW.trod enc Try.prog w base spare held n 3 (([c0, c1].drop 0).take (Try.prog.cellsOf 3)) = some y0 := hg 0 _ rfl
      have g1 : DataW.trod enc Try.prog w base spare held n 22 (([c0, c1].drop 1).take (Try.prog.cellsOf 22)) = some y1 := hg 1 _ rfl
      rw [h3] at g0
      rw [h22] at g1
      obtain ⟨now, e0, _, wn⟩ := DataW.trod_int Try.underlying3 g0
      obtain ⟨A, c, l, e1, hlc, hC, hwf⟩ := open_row g1
      simp at e0 e1
      subst e0 e1
      exact ⟨now, A, c, l, rfl, wn, hlc, hC, hwf⟩
end Go.Proofs.Ytggkealdbebbkaa
