/-
  NARROWER THAN 'FOR EVERY INPUT', by the rows' own cells (each row's printed sentence says how): MapFree: laid · MapFills: laid · MapOrder: laid · MapTells: laid · MapBack: laid · MapGives: laid.
  DERIVED. THE GIVEN ROWS OF THIS SEAT. 6 by the template 'for every input the law returns true; each argument reads behind the call as it read before'; 0 by the template 'total and deterministic' (their statements: YthjdjljiafpebaaDoorTotals.lean).
  GIVEN WITH THE SEED: the statements are not yours to turn. If you find one false, say at which input.
  Laid BY PROGRAM, IN A SANDBOX (cutbox-rows.mjs): the forced cells as the released guide's own fill.sh prints them over the translation 5b3b900fa88ea22e… (all of the seat's roots in one cut). By AI agents, Wed Nov 11 2026. No macro, syntax, notation, axiom, sorry.
-/
import Derived.Test.YthjdjljiafpebaaDoorChecked
import GoSem.Claim
import GoSem.ClaimJoined
import GoSem.ClaimMapViews
import Derived.JoinedTies
import Derived.KernelRfl
namespace Go.Proofs.YthjdjljiafpebaaDoor
/- THE CELL 'sum', in the pinned program and in every row, IS THE sha256 OF THE DUMP (.gsa) THAT YthjdjljiafpebaaDoorProg.lean LOADS. Nothing in Lean hashes anything: it is a label: what it is worth is what the hold of that sum in a sandbox is worth. -/
noncomputable def Tryd.pinned : Pinned := { name := "ythjdjljiafpebaadoor", sum := "5b3b900fa88ea22e178937c78f04e2b727b8928b9ef9f518f0914f5a1e5558dd", checked := Tryd.checked }
namespace Rows
def none {H : Type} : Left H := { results := [], args := [] }

/- WHAT THE LISTED PACKAGE-LEVEL VARIABLES READ AS WHEN THE CALL BEGINS. Each datum BY PROGRAM (the guide's laid-datum.mjs) off the statement by which the dump's own 'gosem.cut.vars' lays the variable. In a bare row this is a premise. The card (YthjdjljiafpebaaDoorCards.lean) ties it to the program's text. -/
def laid_math_bits_deBruijn32tab {H : Type} : DataW H := .agg [.lit (.int .u8 0), .lit (.int .u8 1), .lit (.int .u8 28), .lit (.int .u8 2), .lit (.int .u8 29), .lit (.int .u8 14), .lit (.int .u8 24), .lit (.int .u8 3), .lit (.int .u8 30), .lit (.int .u8 22), .lit (.int .u8 20), .lit (.int .u8 15), .lit (.int .u8 25), .lit (.int .u8 17), .lit (.int .u8 4), .lit (.int .u8 8), .lit (.int .u8 31), .lit (.int .u8 27), .lit (.int .u8 13), .lit (.int .u8 23), .lit (.int .u8 21), .lit (.int .u8 19), .lit (.int .u8 16), .lit (.int .u8 7), .lit (.int .u8 26), .lit (.int .u8 12), .lit (.int .u8 18), .lit (.int .u8 6), .lit (.int .u8 11), .lit (.int .u8 5), .lit (.int .u8 10), .lit (.int .u8 9)]
def laid_math_bits_deBruijn64tab {H : Type} : DataW H := .agg [.lit (.int .u8 0), .lit (.int .u8 1), .lit (.int .u8 56), .lit (.int .u8 2), .lit (.int .u8 57), .lit (.int .u8 49), .lit (.int .u8 28), .lit (.int .u8 3), .lit (.int .u8 61), .lit (.int .u8 58), .lit (.int .u8 42), .lit (.int .u8 50), .lit (.int .u8 38), .lit (.int .u8 29), .lit (.int .u8 17), .lit (.int .u8 4), .lit (.int .u8 62), .lit (.int .u8 47), .lit (.int .u8 59), .lit (.int .u8 36), .lit (.int .u8 45), .lit (.int .u8 43), .lit (.int .u8 51), .lit (.int .u8 22), .lit (.int .u8 53), .lit (.int .u8 39), .lit (.int .u8 33), .lit (.int .u8 30), .lit (.int .u8 24), .lit (.int .u8 18), .lit (.int .u8 12), .lit (.int .u8 5), .lit (.int .u8 63), .lit (.int .u8 55), .lit (.int .u8 48), .lit (.int .u8 27), .lit (.int .u8 60), .lit (.int .u8 41), .lit (.int .u8 37), .lit (.int .u8 16), .lit (.int .u8 46), .lit (.int .u8 35), .lit (.int .u8 44), .lit (.int .u8 21), .lit (.int .u8 52), .lit (.int .u8 32), .lit (.int .u8 23), .lit (.int .u8 11), .lit (.int .u8 54), .lit (.int .u8 26), .lit (.int .u8 40), .lit (.int .u8 15), .lit (.int .u8 34), .lit (.int .u8 20), .lit (.int .u8 31), .lit (.int .u8 10), .lit (.int .u8 25), .lit (.int .u8 14), .lit (.int .u8 19), .lit (.int .u8 9), .lit (.int .u8 13), .lit (.int .u8 8), .lit (.int .u8 7), .lit (.int .u8 6)]

/-- 'mooringslaw09.MapFree': WHATEVER THE INPUT: true; the input reads as it did. -/
def mapFreeSpec : ChangeSpec := { name := "mapFree", fn := fun _ => fun
  | [d1, d2] => { results := [.lit (.bool true)], args := [d1, d2] }
  | _ => none }
def mapFreeRow : OpenClaim := { program := "ythjdjljiafpebaadoor", sum := "5b3b900fa88ea22e178937c78f04e2b727b8928b9ef9f518f0914f5a1e5558dd", func := "moorings/mooringslaw09.MapFree", spec := "mapFree", unfollowed := true, recurses := true, named := ["math/bits.deBruijn32tab", "math/bits.deBruijn64tab"], apart := false, laid := [("math/bits.deBruijn32tab", laid_math_bits_deBruijn32tab), ("math/bits.deBruijn64tab", laid_math_bits_deBruijn64tab)] }
def MapFreeSaid : Prop := mapFreeRow.holds Tryd.pinned (OpenSpec.ofChange mapFreeSpec)

/-- ITS FALSE NEIGHBOUR: 'it returns false'. Refute it at one input. -/
def mapFreeWrong : ChangeSpec := { name := "mapFree", fn := fun _ => fun
  | [d1, d2] => { results := [.lit (.bool false)], args := [d1, d2] }
  | _ => none }
def MapFreeWrongFalsely : Prop := mapFreeRow.holds Tryd.pinned (OpenSpec.ofChange mapFreeWrong)

/-- 'mooringslaw09.MapFills': WHATEVER THE INPUT: true; the input reads as it did. -/
def mapFillsSpec : ChangeSpec := { name := "mapFills", fn := fun _ => fun
  | [d] => { results := [.lit (.bool true)], args := [d] }
  | _ => none }
def mapFillsRow : OpenClaim := { program := "ythjdjljiafpebaadoor", sum := "5b3b900fa88ea22e178937c78f04e2b727b8928b9ef9f518f0914f5a1e5558dd", func := "moorings/mooringslaw09.MapFills", spec := "mapFills", unfollowed := true, recurses := true, named := ["math/bits.deBruijn32tab", "math/bits.deBruijn64tab"], apart := false, laid := [("math/bits.deBruijn32tab", laid_math_bits_deBruijn32tab), ("math/bits.deBruijn64tab", laid_math_bits_deBruijn64tab)] }
def MapFillsSaid : Prop := mapFillsRow.holds Tryd.pinned (OpenSpec.ofChange mapFillsSpec)

/-- ITS FALSE NEIGHBOUR: 'it returns false'. Refute it at one input. -/
def mapFillsWrong : ChangeSpec := { name := "mapFills", fn := fun _ => fun
  | [d] => { results := [.lit (.bool false)], args := [d] }
  | _ => none }
def MapFillsWrongFalsely : Prop := mapFillsRow.holds Tryd.pinned (OpenSpec.ofChange mapFillsWrong)

/-- 'mooringslaw09.MapOrder': WHATEVER THE INPUT: true; the input reads as it did. -/
def mapOrderSpec : ChangeSpec := { name := "mapOrder", fn := fun _ => fun
  | [d1, d2, d3] => { results := [.lit (.bool true)], args := [d1, d2, d3] }
  | _ => none }
def mapOrderRow : OpenClaim := { program := "ythjdjljiafpebaadoor", sum := "5b3b900fa88ea22e178937c78f04e2b727b8928b9ef9f518f0914f5a1e5558dd", func := "moorings/mooringslaw09.MapOrder", spec := "mapOrder", unfollowed := true, recurses := true, named := ["math/bits.deBruijn32tab", "math/bits.deBruijn64tab"], apart := false, laid := [("math/bits.deBruijn32tab", laid_math_bits_deBruijn32tab), ("math/bits.deBruijn64tab", laid_math_bits_deBruijn64tab)] }
def MapOrderSaid : Prop := mapOrderRow.holds Tryd.pinned (OpenSpec.ofChange mapOrderSpec)

/-- ITS FALSE NEIGHBOUR: 'it returns false'. Refute it at one input. -/
def mapOrderWrong : ChangeSpec := { name := "mapOrder", fn := fun _ => fun
  | [d1, d2, d3] => { results := [.lit (.bool false)], args := [d1, d2, d3] }
  | _ => none }
def MapOrderWrongFalsely : Prop := mapOrderRow.holds Tryd.pinned (OpenSpec.ofChange mapOrderWrong)

/-- 'mooringslaw09.MapTells': WHATEVER THE INPUT: true; the input reads as it did. -/
def mapTellsSpec : ChangeSpec := { name := "mapTells", fn := fun _ => fun
  | [d1, d2, d3] => { results := [.lit (.bool true)], args := [d1, d2, d3] }
  | _ => none }
def mapTellsRow : OpenClaim := { program := "ythjdjljiafpebaadoor", sum := "5b3b900fa88ea22e178937c78f04e2b727b8928b9ef9f518f0914f5a1e5558dd", func := "moorings/mooringslaw09.MapTells", spec := "mapTells", unfollowed := true, recurses := true, named := ["math/bits.deBruijn32tab", "math/bits.deBruijn64tab"], apart := false, laid := [("math/bits.deBruijn32tab", laid_math_bits_deBruijn32tab), ("math/bits.deBruijn64tab", laid_math_bits_deBruijn64tab)] }
def MapTellsSaid : Prop := mapTellsRow.holds Tryd.pinned (OpenSpec.ofChange mapTellsSpec)

/-- ITS FALSE NEIGHBOUR: 'it returns false'. Refute it at one input. -/
def mapTellsWrong : ChangeSpec := { name := "mapTells", fn := fun _ => fun
  | [d1, d2, d3] => { results := [.lit (.bool false)], args := [d1, d2, d3] }
  | _ => none }
def MapTellsWrongFalsely : Prop := mapTellsRow.holds Tryd.pinned (OpenSpec.ofChange mapTellsWrong)

/-- 'mooringslaw09.MapBack': WHATEVER THE INPUT: true; the input reads as it did. -/
def mapBackSpec : ChangeSpec := { name := "mapBack", fn := fun _ => fun
  | [d1, d2, d3] => { results := [.lit (.bool true)], args := [d1, d2, d3] }
  | _ => none }
def mapBackRow : OpenClaim := { program := "ythjdjljiafpebaadoor", sum := "5b3b900fa88ea22e178937c78f04e2b727b8928b9ef9f518f0914f5a1e5558dd", func := "moorings/mooringslaw09.MapBack", spec := "mapBack", unfollowed := true, recurses := true, named := ["math/bits.deBruijn32tab", "math/bits.deBruijn64tab"], apart := false, laid := [("math/bits.deBruijn32tab", laid_math_bits_deBruijn32tab), ("math/bits.deBruijn64tab", laid_math_bits_deBruijn64tab)] }
def MapBackSaid : Prop := mapBackRow.holds Tryd.pinned (OpenSpec.ofChange mapBackSpec)

/-- ITS FALSE NEIGHBOUR: 'it returns false'. Refute it at one input. -/
def mapBackWrong : ChangeSpec := { name := "mapBack", fn := fun _ => fun
  | [d1, d2, d3] => { results := [.lit (.bool false)], args := [d1, d2, d3] }
  | _ => none }
def MapBackWrongFalsely : Prop := mapBackRow.holds Tryd.pinned (OpenSpec.ofChange mapBackWrong)

/-- 'mooringslaw09.MapGives': WHATEVER THE INPUT: true; the input reads as it did. -/
def mapGivesSpec : ChangeSpec := { name := "mapGives", fn := fun _ => fun
  | [d1, d2] => { results := [.lit (.bool true)], args := [d1, d2] }
  | _ => none }
def mapGivesRow : OpenClaim := { program := "ythjdjljiafpebaadoor", sum := "5b3b900fa88ea22e178937c78f04e2b727b8928b9ef9f518f0914f5a1e5558dd", func := "moorings/mooringslaw09.MapGives", spec := "mapGives", unfollowed := true, recurses := true, named := ["math/bits.deBruijn32tab", "math/bits.deBruijn64tab"], apart := false, laid := [("math/bits.deBruijn32tab", laid_math_bits_deBruijn32tab), ("math/bits.deBruijn64tab", laid_math_bits_deBruijn64tab)] }
def MapGivesSaid : Prop := mapGivesRow.holds Tryd.pinned (OpenSpec.ofChange mapGivesSpec)

/-- ITS FALSE NEIGHBOUR: 'it returns false'. Refute it at one input. -/
def mapGivesWrong : ChangeSpec := { name := "mapGives", fn := fun _ => fun
  | [d1, d2] => { results := [.lit (.bool false)], args := [d1, d2] }
  | _ => none }
def MapGivesWrongFalsely : Prop := mapGivesRow.holds Tryd.pinned (OpenSpec.ofChange mapGivesWrong)

/- THE SECOND FORM. 'bulk': how many values and letters a reading holds, each counted each time it is reached (what is shared counts as often as it is met; a slice's spare places count too). A statement '..UptoSaid' is the law's where the arguments, and the package variables that the reading takes, are together of bulk at most 1048576: NARROWER than '..Said'. Prove '..Said' where nothing that the law and all that it calls make is longer than what came in: it says more and counts as full. Else prove '..UptoSaid'. A law counts once. -/
mutual
def uptoBulk {H : Type} : DataW H → Nat
  | .lit (.string bytes) => bytes.length + 1
  | .lit _ => 1
  | .nil => 1
  | .ptr d => uptoBulk d + 1
  | .slice elems spare => uptoBulkAll elems + uptoBulkAll spare + 1
  | .agg parts => uptoBulkAll parts + 1
  | .iface _ d => uptoBulk d + 1
  | .map entries => uptoBulkEntries entries + 1
  | .held _ => 1
def uptoBulkAll {H : Type} : List (DataW H) → Nat
  | [] => 0
  | d :: r => uptoBulk d + uptoBulkAll r
def uptoBulkEntries {H : Type} : List (Lit × DataW H) → Nat
  | [] => 0
  | x :: r => uptoBulkEntry x + uptoBulkEntries r
def uptoBulkEntry {H : Type} : Lit × DataW H → Nat
  | (.string bytes, d) => bytes.length + uptoBulk d + 1
  | (_, d) => uptoBulk d + 1
 end
def uptoSmall : (H : Type) → List (DataW H) → Bool := fun _ ds => decide (uptoBulkAll ds ≤ 1048576)
def OpenSpec.upto (s : _root_.Go.ChangeSpec) : _root_.Go.OpenSpec := { _root_.Go.OpenSpec.ofChange s with cond := some uptoSmall }

/-- 'mooringslaw09.MapFree', WHERE WHAT IT READS IS OF BULK AT MOST 1048576: true; the input reads as it did. -/
def mapFreeUptoRow : OpenClaim := { program := "ythjdjljiafpebaadoor", sum := "5b3b900fa88ea22e178937c78f04e2b727b8928b9ef9f518f0914f5a1e5558dd", func := "moorings/mooringslaw09.MapFree", spec := "mapFree", unfollowed := true, recurses := true, named := ["math/bits.deBruijn32tab", "math/bits.deBruijn64tab"], apart := false, laid := [("math/bits.deBruijn32tab", laid_math_bits_deBruijn32tab), ("math/bits.deBruijn64tab", laid_math_bits_deBruijn64tab)], narrowed := true }
def MapFreeUptoSaid : Prop := mapFreeUptoRow.holds Tryd.pinned (OpenSpec.upto mapFreeSpec)

/-- 'mooringslaw09.MapFills', WHERE WHAT IT READS IS OF BULK AT MOST 1048576: true; the input reads as it did. -/
def mapFillsUptoRow : OpenClaim := { program := "ythjdjljiafpebaadoor", sum := "5b3b900fa88ea22e178937c78f04e2b727b8928b9ef9f518f0914f5a1e5558dd", func := "moorings/mooringslaw09.MapFills", spec := "mapFills", unfollowed := true, recurses := true, named := ["math/bits.deBruijn32tab", "math/bits.deBruijn64tab"], apart := false, laid := [("math/bits.deBruijn32tab", laid_math_bits_deBruijn32tab), ("math/bits.deBruijn64tab", laid_math_bits_deBruijn64tab)], narrowed := true }
def MapFillsUptoSaid : Prop := mapFillsUptoRow.holds Tryd.pinned (OpenSpec.upto mapFillsSpec)

/-- 'mooringslaw09.MapOrder', WHERE WHAT IT READS IS OF BULK AT MOST 1048576: true; the input reads as it did. -/
def mapOrderUptoRow : OpenClaim := { program := "ythjdjljiafpebaadoor", sum := "5b3b900fa88ea22e178937c78f04e2b727b8928b9ef9f518f0914f5a1e5558dd", func := "moorings/mooringslaw09.MapOrder", spec := "mapOrder", unfollowed := true, recurses := true, named := ["math/bits.deBruijn32tab", "math/bits.deBruijn64tab"], apart := false, laid := [("math/bits.deBruijn32tab", laid_math_bits_deBruijn32tab), ("math/bits.deBruijn64tab", laid_math_bits_deBruijn64tab)], narrowed := true }
def MapOrderUptoSaid : Prop := mapOrderUptoRow.holds Tryd.pinned (OpenSpec.upto mapOrderSpec)

/-- 'mooringslaw09.MapTells', WHERE WHAT IT READS IS OF BULK AT MOST 1048576: true; the input reads as it did. -/
def mapTellsUptoRow : OpenClaim := { program := "ythjdjljiafpebaadoor", sum := "5b3b900fa88ea22e178937c78f04e2b727b8928b9ef9f518f0914f5a1e5558dd", func := "moorings/mooringslaw09.MapTells", spec := "mapTells", unfollowed := true, recurses := true, named := ["math/bits.deBruijn32tab", "math/bits.deBruijn64tab"], apart := false, laid := [("math/bits.deBruijn32tab", laid_math_bits_deBruijn32tab), ("math/bits.deBruijn64tab", laid_math_bits_deBruijn64tab)], narrowed := true }
def MapTellsUptoSaid : Prop := mapTellsUptoRow.holds Tryd.pinned (OpenSpec.upto mapTellsSpec)

/-- 'mooringslaw09.MapBack', WHERE WHAT IT READS IS OF BULK AT MOST 1048576: true; the input reads as it did. -/
def mapBackUptoRow : OpenClaim := { program := "ythjdjljiafpebaadoor", sum := "5b3b900fa88ea22e178937c78f04e2b727b8928b9ef9f518f0914f5a1e5558dd", func := "moorings/mooringslaw09.MapBack", spec := "mapBack", unfollowed := true, recurses := true, named := ["math/bits.deBruijn32tab", "math/bits.deBruijn64tab"], apart := false, laid := [("math/bits.deBruijn32tab", laid_math_bits_deBruijn32tab), ("math/bits.deBruijn64tab", laid_math_bits_deBruijn64tab)], narrowed := true }
def MapBackUptoSaid : Prop := mapBackUptoRow.holds Tryd.pinned (OpenSpec.upto mapBackSpec)

/-- 'mooringslaw09.MapGives', WHERE WHAT IT READS IS OF BULK AT MOST 1048576: true; the input reads as it did. -/
def mapGivesUptoRow : OpenClaim := { program := "ythjdjljiafpebaadoor", sum := "5b3b900fa88ea22e178937c78f04e2b727b8928b9ef9f518f0914f5a1e5558dd", func := "moorings/mooringslaw09.MapGives", spec := "mapGives", unfollowed := true, recurses := true, named := ["math/bits.deBruijn32tab", "math/bits.deBruijn64tab"], apart := false, laid := [("math/bits.deBruijn32tab", laid_math_bits_deBruijn32tab), ("math/bits.deBruijn64tab", laid_math_bits_deBruijn64tab)], narrowed := true }
def MapGivesUptoSaid : Prop := mapGivesUptoRow.holds Tryd.pinned (OpenSpec.upto mapGivesSpec)

end Rows
end Go.Proofs.YthjdjljiafpebaaDoor
