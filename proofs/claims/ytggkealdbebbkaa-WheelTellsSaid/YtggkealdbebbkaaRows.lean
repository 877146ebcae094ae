/-
  No cell of these rows narrows 'for every input' (looked for: loops, veiled, ifaces, maps, wideKeys, modest, calm, conditions, laid).
  DERIVED. THE GIVEN ROWS OF THIS SEAT. 7 by the template 'for every input the law returns true; each argument reads behind the call as it read before'; 0 by the template 'total and deterministic' (their statements: YtggkealdbebbkaaTotals.lean).
  GIVEN WITH THE SEED: the statements are not yours to turn. If you find one false, say at which input.
  Laid BY PROGRAM, IN A SANDBOX (cutbox-rows.mjs): the forced cells as the released guide's own fill.sh prints them over the translation 2f7debc978c054e5… (all of the seat's roots in one cut). By AI agents, Wed Nov 11 2026. No macro, syntax, notation, axiom, sorry.
-/
import Derived.Test.YtggkealdbebbkaaChecked
import GoSem.Claim
import GoSem.ClaimJoined
import GoSem.ClaimMapViews
import Derived.JoinedTies
import Derived.KernelRfl
namespace Go.Proofs.Ytggkealdbebbkaa
/- THE CELL 'sum', in the pinned program and in every row, IS THE sha256 OF THE DUMP (.gsa) THAT YtggkealdbebbkaaProg.lean LOADS. Nothing in Lean hashes anything: it is a label: what it is worth is what the hold of that sum in a sandbox is worth. -/
noncomputable def Try.pinned : Pinned := { name := "ytggkealdbebbkaa", sum := "2f7debc978c054e53ffe4682b025244e6aadbf27886c3aa82e41311ed3bb61a7", checked := Try.checked }
namespace Rows
def none {H : Type} : Left H := { results := [], args := [] }

/-- 'mooringslaw10.WheelTwice': WHATEVER THE INPUT: true; the input reads as it did. -/
def wheelTwiceSpec : ChangeSpec := { name := "wheelTwice", fn := fun _ => fun
  | [d1, d2, d3] => { results := [.lit (.bool true)], args := [d1, d2, d3] }
  | _ => none }
def wheelTwiceRow : OpenClaim := { program := "ytggkealdbebbkaa", sum := "2f7debc978c054e53ffe4682b025244e6aadbf27886c3aa82e41311ed3bb61a7", func := "moorings/mooringslaw10.WheelTwice", spec := "wheelTwice", unfollowed := true, recurses := true, apart := false }
def WheelTwiceSaid : Prop := wheelTwiceRow.holds Try.pinned (OpenSpec.ofChange wheelTwiceSpec)

/-- ITS FALSE NEIGHBOUR: 'it returns false'. Refute it at one input. -/
def wheelTwiceWrong : ChangeSpec := { name := "wheelTwice", fn := fun _ => fun
  | [d1, d2, d3] => { results := [.lit (.bool false)], args := [d1, d2, d3] }
  | _ => none }
def WheelTwiceWrongFalsely : Prop := wheelTwiceRow.holds Try.pinned (OpenSpec.ofChange wheelTwiceWrong)

/-- 'mooringslaw10.WheelDue': WHATEVER THE INPUT: true; the input reads as it did. -/
def wheelDueSpec : ChangeSpec := { name := "wheelDue", fn := fun _ => fun
  | [d1, d2, d3] => { results := [.lit (.bool true)], args := [d1, d2, d3] }
  | _ => none }
def wheelDueRow : OpenClaim := { program := "ytggkealdbebbkaa", sum := "2f7debc978c054e53ffe4682b025244e6aadbf27886c3aa82e41311ed3bb61a7", func := "moorings/mooringslaw10.WheelDue", spec := "wheelDue", unfollowed := true, recurses := true, apart := false }
def WheelDueSaid : Prop := wheelDueRow.holds Try.pinned (OpenSpec.ofChange wheelDueSpec)

/-- ITS FALSE NEIGHBOUR: 'it returns false'. Refute it at one input. -/
def wheelDueWrong : ChangeSpec := { name := "wheelDue", fn := fun _ => fun
  | [d1, d2, d3] => { results := [.lit (.bool false)], args := [d1, d2, d3] }
  | _ => none }
def WheelDueWrongFalsely : Prop := wheelDueRow.holds Try.pinned (OpenSpec.ofChange wheelDueWrong)

/-- 'mooringslaw10.WheelOnce': WHATEVER THE INPUT: true; the input reads as it did. -/
def wheelOnceSpec : ChangeSpec := { name := "wheelOnce", fn := fun _ => fun
  | [d1, d2, d3, d4, d5] => { results := [.lit (.bool true)], args := [d1, d2, d3, d4, d5] }
  | _ => none }
def wheelOnceRow : OpenClaim := { program := "ytggkealdbebbkaa", sum := "2f7debc978c054e53ffe4682b025244e6aadbf27886c3aa82e41311ed3bb61a7", func := "moorings/mooringslaw10.WheelOnce", spec := "wheelOnce", unfollowed := true, recurses := true, apart := false }
def WheelOnceSaid : Prop := wheelOnceRow.holds Try.pinned (OpenSpec.ofChange wheelOnceSpec)

/-- ITS FALSE NEIGHBOUR: 'it returns false'. Refute it at one input. -/
def wheelOnceWrong : ChangeSpec := { name := "wheelOnce", fn := fun _ => fun
  | [d1, d2, d3, d4, d5] => { results := [.lit (.bool false)], args := [d1, d2, d3, d4, d5] }
  | _ => none }
def WheelOnceWrongFalsely : Prop := wheelOnceRow.holds Try.pinned (OpenSpec.ofChange wheelOnceWrong)

/-- 'mooringslaw10.WheelOrder': WHATEVER THE INPUT: true; the input reads as it did. -/
def wheelOrderSpec : ChangeSpec := { name := "wheelOrder", fn := fun _ => fun
  | [d1, d2, d3] => { results := [.lit (.bool true)], args := [d1, d2, d3] }
  | _ => none }
def wheelOrderRow : OpenClaim := { program := "ytggkealdbebbkaa", sum := "2f7debc978c054e53ffe4682b025244e6aadbf27886c3aa82e41311ed3bb61a7", func := "moorings/mooringslaw10.WheelOrder", spec := "wheelOrder", unfollowed := true, recurses := true, apart := false }
def WheelOrderSaid : Prop := wheelOrderRow.holds Try.pinned (OpenSpec.ofChange wheelOrderSpec)

/-- ITS FALSE NEIGHBOUR: 'it returns false'. Refute it at one input. -/
def wheelOrderWrong : ChangeSpec := { name := "wheelOrder", fn := fun _ => fun
  | [d1, d2, d3] => { results := [.lit (.bool false)], args := [d1, d2, d3] }
  | _ => none }
def WheelOrderWrongFalsely : Prop := wheelOrderRow.holds Try.pinned (OpenSpec.ofChange wheelOrderWrong)

/-- 'mooringslaw10.WheelTells': WHATEVER THE INPUT: true; the input reads as it did. -/
def wheelTellsSpec : ChangeSpec := { name := "wheelTells", fn := fun _ => fun
  | [d1, d2, d3, d4, d5] => { results := [.lit (.bool true)], args := [d1, d2, d3, d4, d5] }
  | _ => none }
def wheelTellsRow : OpenClaim := { program := "ytggkealdbebbkaa", sum := "2f7debc978c054e53ffe4682b025244e6aadbf27886c3aa82e41311ed3bb61a7", func := "moorings/mooringslaw10.WheelTells", spec := "wheelTells", unfollowed := true, recurses := true, apart := false }
def WheelTellsSaid : Prop := wheelTellsRow.holds Try.pinned (OpenSpec.ofChange wheelTellsSpec)

/-- ITS FALSE NEIGHBOUR: 'it returns false'. Refute it at one input. -/
def wheelTellsWrong : ChangeSpec := { name := "wheelTells", fn := fun _ => fun
  | [d1, d2, d3, d4, d5] => { results := [.lit (.bool false)], args := [d1, d2, d3, d4, d5] }
  | _ => none }
def WheelTellsWrongFalsely : Prop := wheelTellsRow.holds Try.pinned (OpenSpec.ofChange wheelTellsWrong)

/-- 'mooringslaw10.WheelStays': WHATEVER THE INPUT: true; the input reads as it did. -/
def wheelStaysSpec : ChangeSpec := { name := "wheelStays", fn := fun _ => fun
  | [d1, d2, d3] => { results := [.lit (.bool true)], args := [d1, d2, d3] }
  | _ => none }
def wheelStaysRow : OpenClaim := { program := "ytggkealdbebbkaa", sum := "2f7debc978c054e53ffe4682b025244e6aadbf27886c3aa82e41311ed3bb61a7", func := "moorings/mooringslaw10.WheelStays", spec := "wheelStays", unfollowed := true, recurses := true, apart := false }
def WheelStaysSaid : Prop := wheelStaysRow.holds Try.pinned (OpenSpec.ofChange wheelStaysSpec)

/-- ITS FALSE NEIGHBOUR: 'it returns false'. Refute it at one input. -/
def wheelStaysWrong : ChangeSpec := { name := "wheelStays", fn := fun _ => fun
  | [d1, d2, d3] => { results := [.lit (.bool false)], args := [d1, d2, d3] }
  | _ => none }
def WheelStaysWrongFalsely : Prop := wheelStaysRow.holds Try.pinned (OpenSpec.ofChange wheelStaysWrong)

/-- 'mooringslaw10.WheelDrops': WHATEVER THE INPUT: true; the input reads as it did. -/
def wheelDropsSpec : ChangeSpec := { name := "wheelDrops", fn := fun _ => fun
  | [d1, d2, d3] => { results := [.lit (.bool true)], args := [d1, d2, d3] }
  | _ => none }
def wheelDropsRow : OpenClaim := { program := "ytggkealdbebbkaa", sum := "2f7debc978c054e53ffe4682b025244e6aadbf27886c3aa82e41311ed3bb61a7", func := "moorings/mooringslaw10.WheelDrops", spec := "wheelDrops", unfollowed := true, recurses := true, apart := false }
def WheelDropsSaid : Prop := wheelDropsRow.holds Try.pinned (OpenSpec.ofChange wheelDropsSpec)

/-- ITS FALSE NEIGHBOUR: 'it returns false'. Refute it at one input. -/
def wheelDropsWrong : ChangeSpec := { name := "wheelDrops", fn := fun _ => fun
  | [d1, d2, d3] => { results := [.lit (.bool false)], args := [d1, d2, d3] }
  | _ => none }
def WheelDropsWrongFalsely : Prop := wheelDropsRow.holds Try.pinned (OpenSpec.ofChange wheelDropsWrong)

/- THE SECOND FORM. 'bulk': how many values and letters a reading holds, each counted each time it is reached (what is shared counts as often as it is met; a slice's spare places count too). A statement '..UptoSaid' is the law's where the arguments, and the package variables that the reading takes, are together of bulk at most 1048576: NARROWER than '..Said'. Prove '..Said' where nothing that the law and all that it calls make is longer than what came in: it says more and counts as full. Else prove '..UptoSaid'. A law counts once. -/
mutual
def uptoBulk {H : Type} : DataW H → Nat
  | .lit (.string bytes) => bytes.length + 1
  | .lit _ => 1
  | .nil => 1
  | .ptr d => uptoBulk d + 1
  | .slice elems spare => uptoBulkAll elems + uptoBulkAll spare + 1
  | .agg parts => uptoBulkAll parts + 1
  | .iface _ d => uptoBulk d + 1
  | .map entries => uptoBulkEntries entries + 1
  | .held _ => 1
def uptoBulkAll {H : Type} : List (DataW H) → Nat
  | [] => 0
  | d :: r => uptoBulk d + uptoBulkAll r
def uptoBulkEntries {H : Type} : List (Lit × DataW H) → Nat
  | [] => 0
  | x :: r => uptoBulkEntry x + uptoBulkEntries r
def uptoBulkEntry {H : Type} : Lit × DataW H → Nat
  | (.string bytes, d) => bytes.length + uptoBulk d + 1
  | (_, d) => uptoBulk d + 1
 end
def uptoSmall : (H : Type) → List (DataW H) → Bool := fun _ ds => decide (uptoBulkAll ds ≤ 1048576)
def OpenSpec.upto (s : _root_.Go.ChangeSpec) : _root_.Go.OpenSpec := { _root_.Go.OpenSpec.ofChange s with cond := some uptoSmall }

/-- 'mooringslaw10.WheelTwice', WHERE WHAT IT READS IS OF BULK AT MOST 1048576: true; the input reads as it did. -/
def wheelTwiceUptoRow : OpenClaim := { program := "ytggkealdbebbkaa", sum := "2f7debc978c054e53ffe4682b025244e6aadbf27886c3aa82e41311ed3bb61a7", func := "moorings/mooringslaw10.WheelTwice", spec := "wheelTwice", unfollowed := true, recurses := true, apart := false, narrowed := true }
def WheelTwiceUptoSaid : Prop := wheelTwiceUptoRow.holds Try.pinned (OpenSpec.upto wheelTwiceSpec)

/-- 'mooringslaw10.WheelDue', WHERE WHAT IT READS IS OF BULK AT MOST 1048576: true; the input reads as it did. -/
def wheelDueUptoRow : OpenClaim := { program := "ytggkealdbebbkaa", sum := "2f7debc978c054e53ffe4682b025244e6aadbf27886c3aa82e41311ed3bb61a7", func := "moorings/mooringslaw10.WheelDue", spec := "wheelDue", unfollowed := true, recurses := true, apart := false, narrowed := true }
def WheelDueUptoSaid : Prop := wheelDueUptoRow.holds Try.pinned (OpenSpec.upto wheelDueSpec)

/-- 'mooringslaw10.WheelOnce', WHERE WHAT IT READS IS OF BULK AT MOST 1048576: true; the input reads as it did. -/
def wheelOnceUptoRow : OpenClaim := { program := "ytggkealdbebbkaa", sum := "2f7debc978c054e53ffe4682b025244e6aadbf27886c3aa82e41311ed3bb61a7", func := "moorings/mooringslaw10.WheelOnce", spec := "wheelOnce", unfollowed := true, recurses := true, apart := false, narrowed := true }
def WheelOnceUptoSaid : Prop := wheelOnceUptoRow.holds Try.pinned (OpenSpec.upto wheelOnceSpec)

/-- 'mooringslaw10.WheelOrder', WHERE WHAT IT READS IS OF BULK AT MOST 1048576: true; the input reads as it did. -/
def wheelOrderUptoRow : OpenClaim := { program := "ytggkealdbebbkaa", sum := "2f7debc978c054e53ffe4682b025244e6aadbf27886c3aa82e41311ed3bb61a7", func := "moorings/mooringslaw10.WheelOrder", spec := "wheelOrder", unfollowed := true, recurses := true, apart := false, narrowed := true }
def WheelOrderUptoSaid : Prop := wheelOrderUptoRow.holds Try.pinned (OpenSpec.upto wheelOrderSpec)

/-- 'mooringslaw10.WheelTells', WHERE WHAT IT READS IS OF BULK AT MOST 1048576: true; the input reads as it did. -/
def wheelTellsUptoRow : OpenClaim := { program := "ytggkealdbebbkaa", sum := "2f7debc978c054e53ffe4682b025244e6aadbf27886c3aa82e41311ed3bb61a7", func := "moorings/mooringslaw10.WheelTells", spec := "wheelTells", unfollowed := true, recurses := true, apart := false, narrowed := true }
def WheelTellsUptoSaid : Prop := wheelTellsUptoRow.holds Try.pinned (OpenSpec.upto wheelTellsSpec)

/-- 'mooringslaw10.WheelStays', WHERE WHAT IT READS IS OF BULK AT MOST 1048576: true; the input reads as it did. -/
def wheelStaysUptoRow : OpenClaim := { program := "ytggkealdbebbkaa", sum := "2f7debc978c054e53ffe4682b025244e6aadbf27886c3aa82e41311ed3bb61a7", func := "moorings/mooringslaw10.WheelStays", spec := "wheelStays", unfollowed := true, recurses := true, apart := false, narrowed := true }
def WheelStaysUptoSaid : Prop := wheelStaysUptoRow.holds Try.pinned (OpenSpec.upto wheelStaysSpec)

/-- 'mooringslaw10.WheelDrops', WHERE WHAT IT READS IS OF BULK AT MOST 1048576: true; the input reads as it did. -/
def wheelDropsUptoRow : OpenClaim := { program := "ytggkealdbebbkaa", sum := "2f7debc978c054e53ffe4682b025244e6aadbf27886c3aa82e41311ed3bb61a7", func := "moorings/mooringslaw10.WheelDrops", spec := "wheelDrops", unfollowed := true, recurses := true, apart := false, narrowed := true }
def WheelDropsUptoSaid : Prop := wheelDropsUptoRow.holds Try.pinned (OpenSpec.upto wheelDropsSpec)

end Rows
end Go.Proofs.Ytggkealdbebbkaa
