/- Chapter 9's rows: what they say of the package's tables, as the walks ask it; the argument Used opened to its two integers. -/
import Derived.Test.YthjdjljiafpebaaDoorP2
import Derived.Test.YthjdjljiafpebaaDoorRows
import Derived.ProofKit
import Derived.LaidMore
import Derived.OpenShut
import Derived.Stop.Joined
import Derived.WalkKit
import Derived.ChangeOld
import Derived.Below
namespace Go.Proofs.YthjdjljiafpebaaDoor
open Go.ChangeShapes Go.WideShapes Go.ChangeAt Go.WideMaps Go.WideElems Go.RowKit
def laid2 {H : Type} : List (String × DataW H) := [("math/bits.deBruijn32tab", Rows.laid_math_bits_deBruijn32tab), ("math/bits.deBruijn64tab", Rows.laid_math_bits_deBruijn64tab)]
theorem own : ownKnob Tryd.prog.godebug = none := by kernel_rfl
theorem laidOut : laidOutB Tryd.prog = true := by kernel_rfl
theorem g64 : Tryd.prog.globalNamed "math/bits.deBruijn64tab" = some 1 := by kernel_rfl
theorem t64 : (Tryd.prog.globals[1]?).map (·.type) = some 50 := by kernel_rfl
/-- The door's own heap meets the condition. -/
theorem door_met (os : Os) (args : Array Value) : laidMetH Tryd.prog laid2 ((World.doorLaid Tryd.prog 19 os).forCall (fun _ _ => 0) ⟨#[], args, []⟩).memory :=
  laidMetH_of_parts3 (fuel := 8) (laidMet_of_run' 8 (by kernel_rfl) (by kernel_rfl)) (by kernel_rfl) (by kernel_rfl)
theorem of_laid {W : World} (h : laidMetH Tryd.prog laid2 W) : P.Dev.Laid W := by
  rw [MakeChecks.laidMetH_plain _ _ _ (by kernel_rfl)] at h
  obtain ⟨ps, ⟨g0, t0, cs0, f0, p0, q0, hg0, ht0, hv0, hd0, ⟨g1, t1, cs1, f1, p1, q1, hg1, ht1, hv1, hd1, _, _⟩, _⟩, _, _⟩ := h
  obtain rfl := Option.some.inj (g64.symm.trans hg1)
  obtain rfl := Option.some.inj (t64.symm.trans ht1)
  have e : cs1.toList = P.Dev.tabL.map fun z => Value.int .u8 z := Lib.cells_of_tab (zs := P.Dev.tabL) Tryd.underlying50 Tryd.underlying5 (by kernel_rfl) (by kernel_rfl) hd1
  have hT : Lib.TabIs Tryd.prog W "math/bits.deBruijn64tab" .u8 P.Dev.tabL := by
    unfold Lib.TabIs
    rw [hv1, ← e]
  have hc : ∀ i, i < 64 → W.cell? ⟨1, i, none⟩ = some (.int .u8 (P.Dev.tabL.getD i 0)) := fun i hi => hT.cell g64 i hi
  refine ⟨?_, hc⟩
  have h0 := hc 0 (by decide)
  apply Nat.lt_of_not_le
  intro hle
  simp [World.cell?, Array.getElem?_eq_none hle] at h0
theorem open_used {H : Type} {enc : TypeId × Value → H} {w : World} {base : Nat} {spare : Nat → Bool} {held : Bool} {r : Reach} {b0 : Nat} {v : Value} {d : DataW H} {p : List MemPlace}
    (hv : Value.okWide Tryd.prog w r b0 23 v) (h : DataW.Trod enc Tryd.prog w base spare held 23 v d p) :
    ∃ a b, v = .agg #[.int .i64 a, .int .i64 b] ∧ (Lit.int .i64 a).wf = true ∧ (Lit.int .i64 b).wf = true := by
  obtain ⟨cs, rfl, hsz⟩ := okWide_struct Tryd.underlying23 hv
  obtain ⟨l⟩ := cs
  obtain ⟨fuel, hf⟩ := h
  have hc : Tryd.prog.cellsOf 23 = 2 := by kernel_rfl
  have h3 : Tryd.prog.cellsOf 3 = 1 := by kernel_rfl
  rw [hc] at hsz
  obtain ⟨xs, n, rfl, hx, hl, hxl, hg⟩ := DataW.trod_struct Tryd.underlying23 hf
  have hsz' : l.length = 2 := hsz
  match l, hsz' with
  | [c0, c1], _ =>
    match xs, hxl with
    | [y0, y1], _ =>
      have h0 : DataW.trod enc Tryd.prog w base spare held n 3 (([c0, c1].drop 0).take (Tryd.prog.cellsOf 3)) = some y0 := hg 0 _ rfl
      have h1 : DataW.trod enc Tryd.prog w base spare held n 3 (([c0, c1].drop 1).take (Tryd.prog.cellsOf 3)) = some y1 := hg 1 _ rfl
      rw [h3] at h0 h1
      obtain ⟨a, ha, hy0, wa⟩ := DataW.trod_int Tryd.underlying3 h0
      obtain ⟨b, hb, hy1, wb⟩ := DataW.trod_int Tryd.underlying3 h1
      simp at ha hb
      subst ha hb
      exact ⟨a, b, rfl, wa, wb⟩
end Go.Proofs.YthjdjljiafpebaaDoor
