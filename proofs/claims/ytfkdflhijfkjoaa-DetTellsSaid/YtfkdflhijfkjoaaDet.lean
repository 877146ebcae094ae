/- A parameter of type api.Det (a struct of two structs of two integers and four integers), opened to its eight integers. -/
import Derived.Test.YtfkdflhijfkjoaaP0
import Derived.Test.YtfkdflhijfkjoaaRows
import Derived.WalkKit
import Derived.ProofKit
import Derived.OpenShut
import Derived.ChangeOld
import Derived.Below
namespace Go.Proofs.Ytfkdflhijfkjoaa
open Go.ChangeShapes Go.WideShapes Go.ChangeAt Go.RowKit
theorem open_pair {H : Type} {enc : TypeId × Value → H} {w : World} {base : Nat} {spare : Nat → Bool} {held : Bool} {fuel : Nat} {cs : List Value} {x : DataW H × List MemPlace}
    (h : DataW.trod enc Try.prog w base spare held fuel 23 cs = some x) : ∃ a b, cs = [.int .i64 a, .int .i64 b] ∧ x.2 = [] ∧ (Lit.int .i64 a).wf = true ∧ (Lit.int .i64 b).wf = true := by
  obtain ⟨xs, n, rfl, hx, hl, hxl, hf⟩ := DataW.trod_struct Try.underlying23 h
  have hc : Try.prog.cellsOf 23 = 2 := by kernel_rfl
  rw [hc] at hl
  match cs, hl with
  | [c0, c1], _ =>
    match xs, hxl with
    | [y0, y1], _ =>
      have h3 : Try.prog.cellsOf 3 = 1 := by kernel_rfl
      have h0 : DataW.trod enc Try.prog w base spare held n 3 (([c0, c1].drop 0).take (Try.prog.cellsOf 3)) = some y0 := hf 0 _ rfl
      have h1 : DataW.trod enc Try.prog w base spare held n 3 (([c0, c1].drop 1).take (Try.prog.cellsOf 3)) = some y1 := hf 1 _ rfl
      rw [h3] at h0 h1
      obtain ⟨a, ha, hy0, wa⟩ := DataW.trod_int Try.underlying3 h0
      obtain ⟨b, hb, hy1, wb⟩ := DataW.trod_int Try.underlying3 h1
      simp at ha hb
      subst ha hb hy0 hy1
      exact ⟨a, b, rfl, by rw [hx]; rfl, wa, wb⟩
theorem open_det {H : Type} {enc : TypeId × Value → H} {w : World} {base : Nat} {spare : Nat → Bool} {held : Bool} {r : Reach} {b0 : Nat} {v : Value} {d : DataW H} {p : List MemPlace}
    (hv : Value.okWide Try.prog w r b0 25 v) (h : DataW.Trod enc Try.prog w base spare held 25 v d p) :
    ∃ a0 a1 a2 a3 a4 a5 a6 a7, v = .agg #[.int .i64 a0, .int .i64 a1, .int .i64 a2, .int .i64 a3, .int .i64 a4, .int .i64 a5, .int .i64 a6, .int .i64 a7] ∧
      (Lit.int .i64 a0).wf = true ∧ (Lit.int .i64 a1).wf = true ∧ (Lit.int .i64 a2).wf = true ∧ (Lit.int .i64 a3).wf = true ∧ (Lit.int .i64 a4).wf = true ∧ (Lit.int .i64 a5).wf = true ∧ (Lit.int .i64 a6).wf = true ∧ (Lit.int .i64 a7).wf = true := by
  obtain ⟨cs, rfl, hsz⟩ := okWide_struct Try.underlying25 hv
  obtain ⟨l⟩ := cs
  obtain ⟨fuel, hf⟩ := h
  have hc : Try.prog.cellsOf 25 = 8 := by kernel_rfl
  have h2 : Try.prog.cellsOf 23 = 2 := by kernel_rfl
  have h3 : Try.prog.cellsOf 3 = 1 := by kernel_rfl
  rw [hc] at hsz
  obtain ⟨xs, n, rfl, hx, hl, hxl, hg⟩ := DataW.trod_struct Try.underlying25 hf
  have hsz' : l.length = 8 := hsz
  match l, hsz' with
  | [c0, c1, c2, c3, c4, c5, c6, c7], _ =>
    match xs, hxl with
    | [y0, y1, y2, y3, y4, y5], _ =>
      have g0 : DataW.trod enc Try.prog w base spare held n 23 (([c0, c1, c2, c3, c4, c5, c6, c7].drop 0).take (Try.prog.cellsOf 23)) = some y0 := hg 0 _ rfl
      have g1 : DataW.trod enc Try.prog w base spare held n 23 (([c0, c1, c2, c3, c4, c5, c6, c7].drop 2).take (Try.prog.cellsOf 23)) = some y1 := hg 1 _ rfl
      have g2 : DataW.trod enc Try.prog w base spare held n 3 (([c0, c1, c2, c3, c4, c5, c6, c7].drop 4).take (Try.prog.cellsOf 3)) = some y2 := hg 2 _ rfl
      have g3 : DataW.trod enc Try.prog w base spare held n 3 (([c0, c1, c2, c3, c4, c5, c6, c7].drop 5).take (Try.prog.cellsOf 3)) = some y3 := hg 3 _ rfl
      have g4 : DataW.trod enc Try.prog w base spare held n 3 (([c0, c1, c2, c3, c4, c5, c6, c7].drop 6).take (Try.prog.cellsOf 3)) = some y4 := hg 4 _ rfl
      have g5 : DataW.trod enc Try.prog w base spare held n 3 (([c0, c1, c2, c3, c4, c5, c6, c7].drop 7).take (Try.prog.cellsOf 3)) = some y5 := hg 5 _ rfl
      rw [h2] at g0 g1
      rw [h3] at g2 g3 g4 g5
      obtain ⟨a0, a1, e0, _, w0, w1⟩ := open_pair g0
      obtain ⟨a2, a3, e1, _, w2, w3⟩ := open_pair g1
      obtain ⟨a4, e4, _, w4⟩ := DataW.trod_int Try.underlying3 g2
      obtain ⟨a5, e5, _, w5⟩ := DataW.trod_int Try.underlying3 g3
      obtain ⟨a6, e6, _, w6⟩ := DataW.trod_int Try.underlying3 g4
      obtain ⟨a7, e7, _, w7⟩ := DataW.trod_int Try.underlying3 g5
      simp at e0 e1 e4 e5 e6 e7
      obtain ⟨rfl, rfl⟩ := e0
      obtain ⟨rfl, rfl⟩ := e1
      subst e4 e5 e6 e7
      exact ⟨a0, a1, a2, a3, a4, a5, a6, a7, rfl, w0, w1, w2, w3, w4, w5, w6, w7⟩
end Go.Proofs.Ytfkdflhijfkjoaa
