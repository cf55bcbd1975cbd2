/-
  No cell of these rows narrows 'for every input' (looked for: loops, veiled, ifaces, maps, wideKeys, modest, calm, conditions, laid).
  DERIVED. THE GIVEN ROWS OF THIS SEAT. 9 by the template 'for every input the law returns true; each argument reads behind the call as it read before'; 0 by the template 'total and deterministic' (their statements: YtdjaoonjfampmaaTotals.lean).
  GIVEN WITH THE SEED: the statements are not yours to turn. If you find one false, say at which input.
  Laid BY PROGRAM, IN A SANDBOX (cutbox-rows.mjs): the forced cells as the released guide's own fill.sh prints them over the translation 2b6e29d9c8863887… (all of the seat's roots in one cut). By AI agents, Wed Nov 11 2026. No macro, syntax, notation, axiom, sorry.
-/
import Derived.Test.YtdjaoonjfampmaaChecked
import GoSem.Claim
import GoSem.ClaimJoined
import GoSem.ClaimMapViews
import Derived.JoinedTies
import Derived.KernelRfl
namespace Go.Proofs.Ytdjaoonjfampmaa
/- THE CELL 'sum', in the pinned program and in every row, IS THE sha256 OF THE DUMP (.gsa) THAT YtdjaoonjfampmaaProg.lean LOADS. Nothing in Lean hashes anything: it is a label: what it is worth is what the hold of that sum in a sandbox is worth. -/
noncomputable def Try.pinned : Pinned := { name := "ytdjaoonjfampmaa", sum := "2b6e29d9c886388784d21c2229b9484604d5f34022926e38e4e1dbf63e097c78", checked := Try.checked }
namespace Rows
def none {H : Type} : Left H := { results := [], args := [] }

/-- 'inkwelllaw15.RawPuts': WHATEVER THE INPUT: true; the input reads as it did. -/
def rawPutsSpec : ChangeSpec := { name := "rawPuts", fn := fun _ => fun
  | [d] => { results := [.lit (.bool true)], args := [d] }
  | _ => none }
def rawPutsRow : OpenClaim := { program := "ytdjaoonjfampmaa", sum := "2b6e29d9c886388784d21c2229b9484604d5f34022926e38e4e1dbf63e097c78", func := "inkwell/inkwelllaw15.RawPuts", spec := "rawPuts", unfollowed := true, recurses := true, apart := false }
def RawPutsSaid : Prop := rawPutsRow.holds Try.pinned (OpenSpec.ofChange rawPutsSpec)

/-- ITS FALSE NEIGHBOUR: 'it returns false'. Refute it at one input. -/
def rawPutsWrong : ChangeSpec := { name := "rawPuts", fn := fun _ => fun
  | [d] => { results := [.lit (.bool false)], args := [d] }
  | _ => none }
def RawPutsWrongFalsely : Prop := rawPutsRow.holds Try.pinned (OpenSpec.ofChange rawPutsWrong)

/-- 'inkwelllaw15.RawPads': WHATEVER THE INPUT: true; the input reads as it did. -/
def rawPadsSpec : ChangeSpec := { name := "rawPads", fn := fun _ => fun
  | [d1, d2] => { results := [.lit (.bool true)], args := [d1, d2] }
  | _ => none }
def rawPadsRow : OpenClaim := { program := "ytdjaoonjfampmaa", sum := "2b6e29d9c886388784d21c2229b9484604d5f34022926e38e4e1dbf63e097c78", func := "inkwell/inkwelllaw15.RawPads", spec := "rawPads", unfollowed := true, recurses := true, apart := false }
def RawPadsSaid : Prop := rawPadsRow.holds Try.pinned (OpenSpec.ofChange rawPadsSpec)

/-- ITS FALSE NEIGHBOUR: 'it returns false'. Refute it at one input. -/
def rawPadsWrong : ChangeSpec := { name := "rawPads", fn := fun _ => fun
  | [d1, d2] => { results := [.lit (.bool false)], args := [d1, d2] }
  | _ => none }
def RawPadsWrongFalsely : Prop := rawPadsRow.holds Try.pinned (OpenSpec.ofChange rawPadsWrong)

/-- 'inkwelllaw17.OpRights': WHATEVER THE INPUT: true; the input reads as it did. -/
def opRightsSpec : ChangeSpec := { name := "opRights", fn := fun _ => fun
  | [d] => { results := [.lit (.bool true)], args := [d] }
  | _ => none }
def opRightsRow : OpenClaim := { program := "ytdjaoonjfampmaa", sum := "2b6e29d9c886388784d21c2229b9484604d5f34022926e38e4e1dbf63e097c78", func := "inkwell/inkwelllaw17.OpRights", spec := "opRights", unfollowed := true, recurses := true, apart := false }
def OpRightsSaid : Prop := opRightsRow.holds Try.pinned (OpenSpec.ofChange opRightsSpec)

/-- ITS FALSE NEIGHBOUR: 'it returns false'. Refute it at one input. -/
def opRightsWrong : ChangeSpec := { name := "opRights", fn := fun _ => fun
  | [d] => { results := [.lit (.bool false)], args := [d] }
  | _ => none }
def OpRightsWrongFalsely : Prop := opRightsRow.holds Try.pinned (OpenSpec.ofChange opRightsWrong)

/-- 'inkwelllaw17.OpOrder': WHATEVER THE INPUT: true; the input reads as it did. -/
def opOrderSpec : ChangeSpec := { name := "opOrder", fn := fun _ => fun
  | [d1, d2, d3] => { results := [.lit (.bool true)], args := [d1, d2, d3] }
  | _ => none }
def opOrderRow : OpenClaim := { program := "ytdjaoonjfampmaa", sum := "2b6e29d9c886388784d21c2229b9484604d5f34022926e38e4e1dbf63e097c78", func := "inkwell/inkwelllaw17.OpOrder", spec := "opOrder", unfollowed := true, recurses := true, apart := false }
def OpOrderSaid : Prop := opOrderRow.holds Try.pinned (OpenSpec.ofChange opOrderSpec)

/-- ITS FALSE NEIGHBOUR: 'it returns false'. Refute it at one input. -/
def opOrderWrong : ChangeSpec := { name := "opOrder", fn := fun _ => fun
  | [d1, d2, d3] => { results := [.lit (.bool false)], args := [d1, d2, d3] }
  | _ => none }
def OpOrderWrongFalsely : Prop := opOrderRow.holds Try.pinned (OpenSpec.ofChange opOrderWrong)

/-- 'inkwelllaw17.OpFewer': WHATEVER THE INPUT: true; the input reads as it did. -/
def opFewerSpec : ChangeSpec := { name := "opFewer", fn := fun _ => fun
  | [d1, d2, d3] => { results := [.lit (.bool true)], args := [d1, d2, d3] }
  | _ => none }
def opFewerRow : OpenClaim := { program := "ytdjaoonjfampmaa", sum := "2b6e29d9c886388784d21c2229b9484604d5f34022926e38e4e1dbf63e097c78", func := "inkwell/inkwelllaw17.OpFewer", spec := "opFewer", unfollowed := true, recurses := true, apart := false }
def OpFewerSaid : Prop := opFewerRow.holds Try.pinned (OpenSpec.ofChange opFewerSpec)

/-- ITS FALSE NEIGHBOUR: 'it returns false'. Refute it at one input. -/
def opFewerWrong : ChangeSpec := { name := "opFewer", fn := fun _ => fun
  | [d1, d2, d3] => { results := [.lit (.bool false)], args := [d1, d2, d3] }
  | _ => none }
def OpFewerWrongFalsely : Prop := opFewerRow.holds Try.pinned (OpenSpec.ofChange opFewerWrong)

/-- 'inkwelllaw17.OpCopies': WHATEVER THE INPUT: true; the input reads as it did. -/
def opCopiesSpec : ChangeSpec := { name := "opCopies", fn := fun _ => fun
  | [d] => { results := [.lit (.bool true)], args := [d] }
  | _ => none }
def opCopiesRow : OpenClaim := { program := "ytdjaoonjfampmaa", sum := "2b6e29d9c886388784d21c2229b9484604d5f34022926e38e4e1dbf63e097c78", func := "inkwell/inkwelllaw17.OpCopies", spec := "opCopies", unfollowed := true, recurses := true, apart := false }
def OpCopiesSaid : Prop := opCopiesRow.holds Try.pinned (OpenSpec.ofChange opCopiesSpec)

/-- ITS FALSE NEIGHBOUR: 'it returns false'. Refute it at one input. -/
def opCopiesWrong : ChangeSpec := { name := "opCopies", fn := fun _ => fun
  | [d] => { results := [.lit (.bool false)], args := [d] }
  | _ => none }
def OpCopiesWrongFalsely : Prop := opCopiesRow.holds Try.pinned (OpenSpec.ofChange opCopiesWrong)

/-- 'inkwelllaw17.OpNames': WHATEVER THE INPUT: true; the input reads as it did. -/
def opNamesSpec : ChangeSpec := { name := "opNames", fn := fun _ => fun
  | [d1, d2, d3] => { results := [.lit (.bool true)], args := [d1, d2, d3] }
  | _ => none }
def opNamesRow : OpenClaim := { program := "ytdjaoonjfampmaa", sum := "2b6e29d9c886388784d21c2229b9484604d5f34022926e38e4e1dbf63e097c78", func := "inkwell/inkwelllaw17.OpNames", spec := "opNames", unfollowed := true, recurses := true, apart := false }
def OpNamesSaid : Prop := opNamesRow.holds Try.pinned (OpenSpec.ofChange opNamesSpec)

/-- ITS FALSE NEIGHBOUR: 'it returns false'. Refute it at one input. -/
def opNamesWrong : ChangeSpec := { name := "opNames", fn := fun _ => fun
  | [d1, d2, d3] => { results := [.lit (.bool false)], args := [d1, d2, d3] }
  | _ => none }
def OpNamesWrongFalsely : Prop := opNamesRow.holds Try.pinned (OpenSpec.ofChange opNamesWrong)

/-- 'inkwelllaw15.RawBack': WHATEVER THE INPUT: true; the input reads as it did. -/
def rawBackSpec : ChangeSpec := { name := "rawBack", fn := fun _ => fun
  | [d1, d2] => { results := [.lit (.bool true)], args := [d1, d2] }
  | _ => none }
def rawBackRow : OpenClaim := { program := "ytdjaoonjfampmaa", sum := "2b6e29d9c886388784d21c2229b9484604d5f34022926e38e4e1dbf63e097c78", func := "inkwell/inkwelllaw15.RawBack", spec := "rawBack", unfollowed := true, recurses := true, apart := false }
def RawBackSaid : Prop := rawBackRow.holds Try.pinned (OpenSpec.ofChange rawBackSpec)

/-- ITS FALSE NEIGHBOUR: 'it returns false'. Refute it at one input. -/
def rawBackWrong : ChangeSpec := { name := "rawBack", fn := fun _ => fun
  | [d1, d2] => { results := [.lit (.bool false)], args := [d1, d2] }
  | _ => none }
def RawBackWrongFalsely : Prop := rawBackRow.holds Try.pinned (OpenSpec.ofChange rawBackWrong)

/-- 'inkwelllaw15.RawNulls': WHATEVER THE INPUT: true; the input reads as it did. -/
def rawNullsSpec : ChangeSpec := { name := "rawNulls", fn := fun _ => fun
  | [d] => { results := [.lit (.bool true)], args := [d] }
  | _ => none }
def rawNullsRow : OpenClaim := { program := "ytdjaoonjfampmaa", sum := "2b6e29d9c886388784d21c2229b9484604d5f34022926e38e4e1dbf63e097c78", func := "inkwell/inkwelllaw15.RawNulls", spec := "rawNulls", unfollowed := true, recurses := true, apart := false }
def RawNullsSaid : Prop := rawNullsRow.holds Try.pinned (OpenSpec.ofChange rawNullsSpec)

/-- ITS FALSE NEIGHBOUR: 'it returns false'. Refute it at one input. -/
def rawNullsWrong : ChangeSpec := { name := "rawNulls", fn := fun _ => fun
  | [d] => { results := [.lit (.bool false)], args := [d] }
  | _ => none }
def RawNullsWrongFalsely : Prop := rawNullsRow.holds Try.pinned (OpenSpec.ofChange rawNullsWrong)

/- THE SECOND FORM. 'bulk': how many values and letters a reading holds, each counted each time it is reached (what is shared counts as often as it is met; a slice's spare places count too). A statement '..UptoSaid' is the law's where the arguments, and the package variables that the reading takes, are together of bulk at most 1048576: NARROWER than '..Said'. Prove '..Said' where nothing that the law and all that it calls make is longer than what came in: it says more and counts as full. Else prove '..UptoSaid'. A law counts once. -/
mutual
def uptoBulk {H : Type} : DataW H → Nat
  | .lit (.string bytes) => bytes.length + 1
  | .lit _ => 1
  | .nil => 1
  | .ptr d => uptoBulk d + 1
  | .slice elems spare => uptoBulkAll elems + uptoBulkAll spare + 1
  | .agg parts => uptoBulkAll parts + 1
  | .iface _ d => uptoBulk d + 1
  | .map entries => uptoBulkEntries entries + 1
  | .held _ => 1
def uptoBulkAll {H : Type} : List (DataW H) → Nat
  | [] => 0
  | d :: r => uptoBulk d + uptoBulkAll r
def uptoBulkEntries {H : Type} : List (Lit × DataW H) → Nat
  | [] => 0
  | x :: r => uptoBulkEntry x + uptoBulkEntries r
def uptoBulkEntry {H : Type} : Lit × DataW H → Nat
  | (.string bytes, d) => bytes.length + uptoBulk d + 1
  | (_, d) => uptoBulk d + 1
 end
def uptoSmall : (H : Type) → List (DataW H) → Bool := fun _ ds => decide (uptoBulkAll ds ≤ 1048576)
def OpenSpec.upto (s : _root_.Go.ChangeSpec) : _root_.Go.OpenSpec := { _root_.Go.OpenSpec.ofChange s with cond := some uptoSmall }

/-- 'inkwelllaw15.RawPuts', WHERE WHAT IT READS IS OF BULK AT MOST 1048576: true; the input reads as it did. -/
def rawPutsUptoRow : OpenClaim := { program := "ytdjaoonjfampmaa", sum := "2b6e29d9c886388784d21c2229b9484604d5f34022926e38e4e1dbf63e097c78", func := "inkwell/inkwelllaw15.RawPuts", spec := "rawPuts", unfollowed := true, recurses := true, apart := false, narrowed := true }
def RawPutsUptoSaid : Prop := rawPutsUptoRow.holds Try.pinned (OpenSpec.upto rawPutsSpec)

/-- 'inkwelllaw15.RawPads', WHERE WHAT IT READS IS OF BULK AT MOST 1048576: true; the input reads as it did. -/
def rawPadsUptoRow : OpenClaim := { program := "ytdjaoonjfampmaa", sum := "2b6e29d9c886388784d21c2229b9484604d5f34022926e38e4e1dbf63e097c78", func := "inkwell/inkwelllaw15.RawPads", spec := "rawPads", unfollowed := true, recurses := true, apart := false, narrowed := true }
def RawPadsUptoSaid : Prop := rawPadsUptoRow.holds Try.pinned (OpenSpec.upto rawPadsSpec)

/-- 'inkwelllaw17.OpRights', WHERE WHAT IT READS IS OF BULK AT MOST 1048576: true; the input reads as it did. -/
def opRightsUptoRow : OpenClaim := { program := "ytdjaoonjfampmaa", sum := "2b6e29d9c886388784d21c2229b9484604d5f34022926e38e4e1dbf63e097c78", func := "inkwell/inkwelllaw17.OpRights", spec := "opRights", unfollowed := true, recurses := true, apart := false, narrowed := true }
def OpRightsUptoSaid : Prop := opRightsUptoRow.holds Try.pinned (OpenSpec.upto opRightsSpec)

/-- 'inkwelllaw17.OpOrder', WHERE WHAT IT READS IS OF BULK AT MOST 1048576: true; the input reads as it did. -/
def opOrderUptoRow : OpenClaim := { program := "ytdjaoonjfampmaa", sum := "2b6e29d9c886388784d21c2229b9484604d5f34022926e38e4e1dbf63e097c78", func := "inkwell/inkwelllaw17.OpOrder", spec := "opOrder", unfollowed := true, recurses := true, apart := false, narrowed := true }
def OpOrderUptoSaid : Prop := opOrderUptoRow.holds Try.pinned (OpenSpec.upto opOrderSpec)

/-- 'inkwelllaw17.OpFewer', WHERE WHAT IT READS IS OF BULK AT MOST 1048576: true; the input reads as it did. -/
def opFewerUptoRow : OpenClaim := { program := "ytdjaoonjfampmaa", sum := "2b6e29d9c886388784d21c2229b9484604d5f34022926e38e4e1dbf63e097c78", func := "inkwell/inkwelllaw17.OpFewer", spec := "opFewer", unfollowed := true, recurses := true, apart := false, narrowed := true }
def OpFewerUptoSaid : Prop := opFewerUptoRow.holds Try.pinned (OpenSpec.upto opFewerSpec)

/-- 'inkwelllaw17.OpCopies', WHERE WHAT IT READS IS OF BULK AT MOST 1048576: true; the input reads as it did. -/
def opCopiesUptoRow : OpenClaim := { program := "ytdjaoonjfampmaa", sum := "2b6e29d9c886388784d21c2229b9484604d5f34022926e38e4e1dbf63e097c78", func := "inkwell/inkwelllaw17.OpCopies", spec := "opCopies", unfollowed := true, recurses := true, apart := false, narrowed := true }
def OpCopiesUptoSaid : Prop := opCopiesUptoRow.holds Try.pinned (OpenSpec.upto opCopiesSpec)

/-- 'inkwelllaw17.OpNames', WHERE WHAT IT READS IS OF BULK AT MOST 1048576: true; the input reads as it did. -/
def opNamesUptoRow : OpenClaim := { program := "ytdjaoonjfampmaa", sum := "2b6e29d9c886388784d21c2229b9484604d5f34022926e38e4e1dbf63e097c78", func := "inkwell/inkwelllaw17.OpNames", spec := "opNames", unfollowed := true, recurses := true, apart := false, narrowed := true }
def OpNamesUptoSaid : Prop := opNamesUptoRow.holds Try.pinned (OpenSpec.upto opNamesSpec)

/-- 'inkwelllaw15.RawBack', WHERE WHAT IT READS IS OF BULK AT MOST 1048576: true; the input reads as it did. -/
def rawBackUptoRow : OpenClaim := { program := "ytdjaoonjfampmaa", sum := "2b6e29d9c886388784d21c2229b9484604d5f34022926e38e4e1dbf63e097c78", func := "inkwell/inkwelllaw15.RawBack", spec := "rawBack", unfollowed := true, recurses := true, apart := false, narrowed := true }
def RawBackUptoSaid : Prop := rawBackUptoRow.holds Try.pinned (OpenSpec.upto rawBackSpec)

/-- 'inkwelllaw15.RawNulls', WHERE WHAT IT READS IS OF BULK AT MOST 1048576: true; the input reads as it did. -/
def rawNullsUptoRow : OpenClaim := { program := "ytdjaoonjfampmaa", sum := "2b6e29d9c886388784d21c2229b9484604d5f34022926e38e4e1dbf63e097c78", func := "inkwell/inkwelllaw15.RawNulls", spec := "rawNulls", unfollowed := true, recurses := true, apart := false, narrowed := true }
def RawNullsUptoSaid : Prop := rawNullsUptoRow.holds Try.pinned (OpenSpec.upto rawNullsSpec)

end Rows
end Go.Proofs.Ytdjaoonjfampmaa
