/-
  No cell of these rows narrows 'for every input' (looked for: loops, veiled, ifaces, maps, wideKeys, modest, calm, conditions, laid).
  DERIVED. THE GIVEN ROWS OF THIS SEAT. 7 by the template 'for every input the law returns true; each argument reads behind the call as it read before'; 0 by the template 'total and deterministic' (their statements: YtfkdflhijfkjoaaTotals.lean).
  GIVEN WITH THE SEED: the statements are not yours to turn. If you find one false, say at which input.
  Laid BY PROGRAM, IN A SANDBOX (cutbox-rows.mjs): the forced cells as the released guide's own fill.sh prints them over the translation c9a38b0781286b3f… (all of the seat's roots in one cut). By AI agents, Wed Nov 11 2026. No macro, syntax, notation, axiom, sorry.
-/
import Derived.Test.YtfkdflhijfkjoaaChecked
import GoSem.Claim
import GoSem.ClaimJoined
import GoSem.ClaimMapViews
import Derived.JoinedTies
import Derived.KernelRfl
namespace Go.Proofs.Ytfkdflhijfkjoaa
/- THE CELL 'sum', in the pinned program and in every row, IS THE sha256 OF THE DUMP (.gsa) THAT YtfkdflhijfkjoaaProg.lean LOADS. Nothing in Lean hashes anything: it is a label: what it is worth is what the hold of that sum in a sandbox is worth. -/
noncomputable def Try.pinned : Pinned := { name := "ytfkdflhijfkjoaa", sum := "c9a38b0781286b3fd43268022c490a69a1f41011d22e037202451079bd993ded", checked := Try.checked }
namespace Rows
def none {H : Type} : Left H := { results := [], args := [] }

/-- 'mooringslaw08.DetTells': WHATEVER THE INPUT: true; the input reads as it did. -/
def detTellsSpec : ChangeSpec := { name := "detTells", fn := fun _ => fun
  | [d1, d2, d3, d4, d5] => { results := [.lit (.bool true)], args := [d1, d2, d3, d4, d5] }
  | _ => none }
def detTellsRow : OpenClaim := { program := "ytfkdflhijfkjoaa", sum := "c9a38b0781286b3fd43268022c490a69a1f41011d22e037202451079bd993ded", func := "moorings/mooringslaw08.DetTells", spec := "detTells", unfollowed := true, recurses := true, apart := false }
def DetTellsSaid : Prop := detTellsRow.holds Try.pinned (OpenSpec.ofChange detTellsSpec)

/-- ITS FALSE NEIGHBOUR: 'it returns false'. Refute it at one input. -/
def detTellsWrong : ChangeSpec := { name := "detTells", fn := fun _ => fun
  | [d1, d2, d3, d4, d5] => { results := [.lit (.bool false)], args := [d1, d2, d3, d4, d5] }
  | _ => none }
def DetTellsWrongFalsely : Prop := detTellsRow.holds Try.pinned (OpenSpec.ofChange detTellsWrong)

/-- 'mooringslaw08.DetBack': WHATEVER THE INPUT: true; the input reads as it did. -/
def detBackSpec : ChangeSpec := { name := "detBack", fn := fun _ => fun
  | [d1, d2, d3, d4] => { results := [.lit (.bool true)], args := [d1, d2, d3, d4] }
  | _ => none }
def detBackRow : OpenClaim := { program := "ytfkdflhijfkjoaa", sum := "c9a38b0781286b3fd43268022c490a69a1f41011d22e037202451079bd993ded", func := "moorings/mooringslaw08.DetBack", spec := "detBack", unfollowed := true, recurses := true, apart := false }
def DetBackSaid : Prop := detBackRow.holds Try.pinned (OpenSpec.ofChange detBackSpec)

/-- ITS FALSE NEIGHBOUR: 'it returns false'. Refute it at one input. -/
def detBackWrong : ChangeSpec := { name := "detBack", fn := fun _ => fun
  | [d1, d2, d3, d4] => { results := [.lit (.bool false)], args := [d1, d2, d3, d4] }
  | _ => none }
def DetBackWrongFalsely : Prop := detBackRow.holds Try.pinned (OpenSpec.ofChange detBackWrong)

/-- 'mooringslaw08.DetBlocks': WHATEVER THE INPUT: true; the input reads as it did. -/
def detBlocksSpec : ChangeSpec := { name := "detBlocks", fn := fun _ => fun
  | [d1, d2, d3, d4] => { results := [.lit (.bool true)], args := [d1, d2, d3, d4] }
  | _ => none }
def detBlocksRow : OpenClaim := { program := "ytfkdflhijfkjoaa", sum := "c9a38b0781286b3fd43268022c490a69a1f41011d22e037202451079bd993ded", func := "moorings/mooringslaw08.DetBlocks", spec := "detBlocks", unfollowed := true, recurses := true, apart := false }
def DetBlocksSaid : Prop := detBlocksRow.holds Try.pinned (OpenSpec.ofChange detBlocksSpec)

/-- ITS FALSE NEIGHBOUR: 'it returns false'. Refute it at one input. -/
def detBlocksWrong : ChangeSpec := { name := "detBlocks", fn := fun _ => fun
  | [d1, d2, d3, d4] => { results := [.lit (.bool false)], args := [d1, d2, d3, d4] }
  | _ => none }
def DetBlocksWrongFalsely : Prop := detBlocksRow.holds Try.pinned (OpenSpec.ofChange detBlocksWrong)

/-- 'mooringslaw08.DetApart': WHATEVER THE INPUT: true; the input reads as it did. -/
def detApartSpec : ChangeSpec := { name := "detApart", fn := fun _ => fun
  | [d1, d2, d3, d4, d5] => { results := [.lit (.bool true)], args := [d1, d2, d3, d4, d5] }
  | _ => none }
def detApartRow : OpenClaim := { program := "ytfkdflhijfkjoaa", sum := "c9a38b0781286b3fd43268022c490a69a1f41011d22e037202451079bd993ded", func := "moorings/mooringslaw08.DetApart", spec := "detApart", unfollowed := true, recurses := true, apart := false }
def DetApartSaid : Prop := detApartRow.holds Try.pinned (OpenSpec.ofChange detApartSpec)

/-- ITS FALSE NEIGHBOUR: 'it returns false'. Refute it at one input. -/
def detApartWrong : ChangeSpec := { name := "detApart", fn := fun _ => fun
  | [d1, d2, d3, d4, d5] => { results := [.lit (.bool false)], args := [d1, d2, d3, d4, d5] }
  | _ => none }
def DetApartWrongFalsely : Prop := detApartRow.holds Try.pinned (OpenSpec.ofChange detApartWrong)

/-- 'mooringslaw08.DetShare': WHATEVER THE INPUT: true; the input reads as it did. -/
def detShareSpec : ChangeSpec := { name := "detShare", fn := fun _ => fun
  | [d1, d2] => { results := [.lit (.bool true)], args := [d1, d2] }
  | _ => none }
def detShareRow : OpenClaim := { program := "ytfkdflhijfkjoaa", sum := "c9a38b0781286b3fd43268022c490a69a1f41011d22e037202451079bd993ded", func := "moorings/mooringslaw08.DetShare", spec := "detShare", unfollowed := true, recurses := true, apart := false }
def DetShareSaid : Prop := detShareRow.holds Try.pinned (OpenSpec.ofChange detShareSpec)

/-- ITS FALSE NEIGHBOUR: 'it returns false'. Refute it at one input. -/
def detShareWrong : ChangeSpec := { name := "detShare", fn := fun _ => fun
  | [d1, d2] => { results := [.lit (.bool false)], args := [d1, d2] }
  | _ => none }
def DetShareWrongFalsely : Prop := detShareRow.holds Try.pinned (OpenSpec.ofChange detShareWrong)

/-- 'mooringslaw08.DetOrder': WHATEVER THE INPUT: true; the input reads as it did. -/
def detOrderSpec : ChangeSpec := { name := "detOrder", fn := fun _ => fun
  | [d1, d2] => { results := [.lit (.bool true)], args := [d1, d2] }
  | _ => none }
def detOrderRow : OpenClaim := { program := "ytfkdflhijfkjoaa", sum := "c9a38b0781286b3fd43268022c490a69a1f41011d22e037202451079bd993ded", func := "moorings/mooringslaw08.DetOrder", spec := "detOrder", unfollowed := true, recurses := true, apart := false }
def DetOrderSaid : Prop := detOrderRow.holds Try.pinned (OpenSpec.ofChange detOrderSpec)

/-- ITS FALSE NEIGHBOUR: 'it returns false'. Refute it at one input. -/
def detOrderWrong : ChangeSpec := { name := "detOrder", fn := fun _ => fun
  | [d1, d2] => { results := [.lit (.bool false)], args := [d1, d2] }
  | _ => none }
def DetOrderWrongFalsely : Prop := detOrderRow.holds Try.pinned (OpenSpec.ofChange detOrderWrong)

/-- 'mooringslaw08.DetWhole': WHATEVER THE INPUT: true; the input reads as it did. -/
def detWholeSpec : ChangeSpec := { name := "detWhole", fn := fun _ => fun
  | [d1, d2, d3] => { results := [.lit (.bool true)], args := [d1, d2, d3] }
  | _ => none }
def detWholeRow : OpenClaim := { program := "ytfkdflhijfkjoaa", sum := "c9a38b0781286b3fd43268022c490a69a1f41011d22e037202451079bd993ded", func := "moorings/mooringslaw08.DetWhole", spec := "detWhole", unfollowed := true, recurses := true, apart := false }
def DetWholeSaid : Prop := detWholeRow.holds Try.pinned (OpenSpec.ofChange detWholeSpec)

/-- ITS FALSE NEIGHBOUR: 'it returns false'. Refute it at one input. -/
def detWholeWrong : ChangeSpec := { name := "detWhole", fn := fun _ => fun
  | [d1, d2, d3] => { results := [.lit (.bool false)], args := [d1, d2, d3] }
  | _ => none }
def DetWholeWrongFalsely : Prop := detWholeRow.holds Try.pinned (OpenSpec.ofChange detWholeWrong)

/- THE SECOND FORM. 'bulk': how many values and letters a reading holds, each counted each time it is reached (what is shared counts as often as it is met; a slice's spare places count too). A statement '..UptoSaid' is the law's where the arguments, and the package variables that the reading takes, are together of bulk at most 1048576: NARROWER than '..Said'. Prove '..Said' where nothing that the law and all that it calls make is longer than what came in: it says more and counts as full. Else prove '..UptoSaid'. A law counts once. -/
mutual
def uptoBulk {H : Type} : DataW H → Nat
  | .lit (.string bytes) => bytes.length + 1
  | .lit _ => 1
  | .nil => 1
  | .ptr d => uptoBulk d + 1
  | .slice elems spare => uptoBulkAll elems + uptoBulkAll spare + 1
  | .agg parts => uptoBulkAll parts + 1
  | .iface _ d => uptoBulk d + 1
  | .map entries => uptoBulkEntries entries + 1
  | .held _ => 1
def uptoBulkAll {H : Type} : List (DataW H) → Nat
  | [] => 0
  | d :: r => uptoBulk d + uptoBulkAll r
def uptoBulkEntries {H : Type} : List (Lit × DataW H) → Nat
  | [] => 0
  | x :: r => uptoBulkEntry x + uptoBulkEntries r
def uptoBulkEntry {H : Type} : Lit × DataW H → Nat
  | (.string bytes, d) => bytes.length + uptoBulk d + 1
  | (_, d) => uptoBulk d + 1
 end
def uptoSmall : (H : Type) → List (DataW H) → Bool := fun _ ds => decide (uptoBulkAll ds ≤ 1048576)
def OpenSpec.upto (s : _root_.Go.ChangeSpec) : _root_.Go.OpenSpec := { _root_.Go.OpenSpec.ofChange s with cond := some uptoSmall }

/-- 'mooringslaw08.DetTells', WHERE WHAT IT READS IS OF BULK AT MOST 1048576: true; the input reads as it did. -/
def detTellsUptoRow : OpenClaim := { program := "ytfkdflhijfkjoaa", sum := "c9a38b0781286b3fd43268022c490a69a1f41011d22e037202451079bd993ded", func := "moorings/mooringslaw08.DetTells", spec := "detTells", unfollowed := true, recurses := true, apart := false, narrowed := true }
def DetTellsUptoSaid : Prop := detTellsUptoRow.holds Try.pinned (OpenSpec.upto detTellsSpec)

/-- 'mooringslaw08.DetBack', WHERE WHAT IT READS IS OF BULK AT MOST 1048576: true; the input reads as it did. -/
def detBackUptoRow : OpenClaim := { program := "ytfkdflhijfkjoaa", sum := "c9a38b0781286b3fd43268022c490a69a1f41011d22e037202451079bd993ded", func := "moorings/mooringslaw08.DetBack", spec := "detBack", unfollowed := true, recurses := true, apart := false, narrowed := true }
def DetBackUptoSaid : Prop := detBackUptoRow.holds Try.pinned (OpenSpec.upto detBackSpec)

/-- 'mooringslaw08.DetBlocks', WHERE WHAT IT READS IS OF BULK AT MOST 1048576: true; the input reads as it did. -/
def detBlocksUptoRow : OpenClaim := { program := "ytfkdflhijfkjoaa", sum := "c9a38b0781286b3fd43268022c490a69a1f41011d22e037202451079bd993ded", func := "moorings/mooringslaw08.DetBlocks", spec := "detBlocks", unfollowed := true, recurses := true, apart := false, narrowed := true }
def DetBlocksUptoSaid : Prop := detBlocksUptoRow.holds Try.pinned (OpenSpec.upto detBlocksSpec)

/-- 'mooringslaw08.DetApart', WHERE WHAT IT READS IS OF BULK AT MOST 1048576: true; the input reads as it did. -/
def detApartUptoRow : OpenClaim := { program := "ytfkdflhijfkjoaa", sum := "c9a38b0781286b3fd43268022c490a69a1f41011d22e037202451079bd993ded", func := "moorings/mooringslaw08.DetApart", spec := "detApart", unfollowed := true, recurses := true, apart := false, narrowed := true }
def DetApartUptoSaid : Prop := detApartUptoRow.holds Try.pinned (OpenSpec.upto detApartSpec)

/-- 'mooringslaw08.DetShare', WHERE WHAT IT READS IS OF BULK AT MOST 1048576: true; the input reads as it did. -/
def detShareUptoRow : OpenClaim := { program := "ytfkdflhijfkjoaa", sum := "c9a38b0781286b3fd43268022c490a69a1f41011d22e037202451079bd993ded", func := "moorings/mooringslaw08.DetShare", spec := "detShare", unfollowed := true, recurses := true, apart := false, narrowed := true }
def DetShareUptoSaid : Prop := detShareUptoRow.holds Try.pinned (OpenSpec.upto detShareSpec)

/-- 'mooringslaw08.DetOrder', WHERE WHAT IT READS IS OF BULK AT MOST 1048576: true; the input reads as it did. -/
def detOrderUptoRow : OpenClaim := { program := "ytfkdflhijfkjoaa", sum := "c9a38b0781286b3fd43268022c490a69a1f41011d22e037202451079bd993ded", func := "moorings/mooringslaw08.DetOrder", spec := "detOrder", unfollowed := true, recurses := true, apart := false, narrowed := true }
def DetOrderUptoSaid : Prop := detOrderUptoRow.holds Try.pinned (OpenSpec.upto detOrderSpec)

/-- 'mooringslaw08.DetWhole', WHERE WHAT IT READS IS OF BULK AT MOST 1048576: true; the input reads as it did. -/
def detWholeUptoRow : OpenClaim := { program := "ytfkdflhijfkjoaa", sum := "c9a38b0781286b3fd43268022c490a69a1f41011d22e037202451079bd993ded", func := "moorings/mooringslaw08.DetWhole", spec := "detWhole", unfollowed := true, recurses := true, apart := false, narrowed := true }
def DetWholeUptoSaid : Prop := detWholeUptoRow.holds Try.pinned (OpenSpec.upto detWholeSpec)

end Rows
end Go.Proofs.Ytfkdflhijfkjoaa
