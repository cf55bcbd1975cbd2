/-
  No cell of these rows narrows 'for every input' (looked for: loops, veiled, ifaces, maps, wideKeys, modest, calm, conditions, laid).
  DERIVED. THE GIVEN ROWS OF THIS SEAT. 9 by the template 'for every input the law returns true; each argument reads behind the call as it read before'; 0 by the template 'total and deterministic' (their statements: YtdglijdgnopgkaaTotals.lean).
  GIVEN WITH THE SEED: the statements are not yours to turn. If you find one false, say at which input.
  Laid BY PROGRAM, IN A SANDBOX (cutbox-rows.mjs): the forced cells as the released guide's own fill.sh prints them over the translation 4d6d8f847bb852b1… (all of the seat's roots in one cut). By AI agents, Wed Nov 11 2026. No macro, syntax, notation, axiom, sorry.
-/
import Derived.Test.YtdglijdgnopgkaaChecked
import GoSem.Claim
import GoSem.ClaimJoined
import GoSem.ClaimMapViews
import Derived.JoinedTies
import Derived.KernelRfl
namespace Go.Proofs.Ytdglijdgnopgkaa
/- THE CELL 'sum', in the pinned program and in every row, IS THE sha256 OF THE DUMP (.gsa) THAT YtdglijdgnopgkaaProg.lean LOADS. Nothing in Lean hashes anything: it is a label: what it is worth is what the hold of that sum in a sandbox is worth. -/
noncomputable def Try.pinned : Pinned := { name := "ytdglijdgnopgkaa", sum := "4d6d8f847bb852b1a9f07386c586f6775fbfb43afd44736a3cbe7b87c822485a", checked := Try.checked }
namespace Rows
def none {H : Type} : Left H := { results := [], args := [] }

/-- 'inkwelllaw13.BoolsRuns': WHATEVER THE INPUT: true; the input reads as it did. -/
def boolsRunsSpec : ChangeSpec := { name := "boolsRuns", fn := fun _ => fun
  | [d1, d2, d3] => { results := [.lit (.bool true)], args := [d1, d2, d3] }
  | _ => none }
def boolsRunsRow : OpenClaim := { program := "ytdglijdgnopgkaa", sum := "4d6d8f847bb852b1a9f07386c586f6775fbfb43afd44736a3cbe7b87c822485a", func := "inkwell/inkwelllaw13.BoolsRuns", spec := "boolsRuns", plainKeys := false, apart := false }
def BoolsRunsSaid : Prop := boolsRunsRow.holds Try.pinned (OpenSpec.ofChange boolsRunsSpec)

/-- ITS FALSE NEIGHBOUR: 'it returns false'. Refute it at one input. -/
def boolsRunsWrong : ChangeSpec := { name := "boolsRuns", fn := fun _ => fun
  | [d1, d2, d3] => { results := [.lit (.bool false)], args := [d1, d2, d3] }
  | _ => none }
def BoolsRunsWrongFalsely : Prop := boolsRunsRow.holds Try.pinned (OpenSpec.ofChange boolsRunsWrong)

/-- 'inkwelllaw06.LzPresses': WHATEVER THE INPUT: true; the input reads as it did. -/
def lzPressesSpec : ChangeSpec := { name := "lzPresses", fn := fun _ => fun
  | [d] => { results := [.lit (.bool true)], args := [d] }
  | _ => none }
def lzPressesRow : OpenClaim := { program := "ytdglijdgnopgkaa", sum := "4d6d8f847bb852b1a9f07386c586f6775fbfb43afd44736a3cbe7b87c822485a", func := "inkwell/inkwelllaw06.LzPresses", spec := "lzPresses", plainKeys := false, apart := false }
def LzPressesSaid : Prop := lzPressesRow.holds Try.pinned (OpenSpec.ofChange lzPressesSpec)

/-- ITS FALSE NEIGHBOUR: 'it returns false'. Refute it at one input. -/
def lzPressesWrong : ChangeSpec := { name := "lzPresses", fn := fun _ => fun
  | [d] => { results := [.lit (.bool false)], args := [d] }
  | _ => none }
def LzPressesWrongFalsely : Prop := lzPressesRow.holds Try.pinned (OpenSpec.ofChange lzPressesWrong)

/-- 'inkwelllaw06.LzLong': WHATEVER THE INPUT: true; the input reads as it did. -/
def lzLongSpec : ChangeSpec := { name := "lzLong", fn := fun _ => fun
  | [d1, d2] => { results := [.lit (.bool true)], args := [d1, d2] }
  | _ => none }
def lzLongRow : OpenClaim := { program := "ytdglijdgnopgkaa", sum := "4d6d8f847bb852b1a9f07386c586f6775fbfb43afd44736a3cbe7b87c822485a", func := "inkwell/inkwelllaw06.LzLong", spec := "lzLong", plainKeys := false, apart := false }
def LzLongSaid : Prop := lzLongRow.holds Try.pinned (OpenSpec.ofChange lzLongSpec)

/-- ITS FALSE NEIGHBOUR: 'it returns false'. Refute it at one input. -/
def lzLongWrong : ChangeSpec := { name := "lzLong", fn := fun _ => fun
  | [d1, d2] => { results := [.lit (.bool false)], args := [d1, d2] }
  | _ => none }
def LzLongWrongFalsely : Prop := lzLongRow.holds Try.pinned (OpenSpec.ofChange lzLongWrong)

/-- 'inkwelllaw06.LzStands': WHATEVER THE INPUT: true; the input reads as it did. -/
def lzStandsSpec : ChangeSpec := { name := "lzStands", fn := fun _ => fun
  | [d] => { results := [.lit (.bool true)], args := [d] }
  | _ => none }
def lzStandsRow : OpenClaim := { program := "ytdglijdgnopgkaa", sum := "4d6d8f847bb852b1a9f07386c586f6775fbfb43afd44736a3cbe7b87c822485a", func := "inkwell/inkwelllaw06.LzStands", spec := "lzStands", plainKeys := false, apart := false }
def LzStandsSaid : Prop := lzStandsRow.holds Try.pinned (OpenSpec.ofChange lzStandsSpec)

/-- ITS FALSE NEIGHBOUR: 'it returns false'. Refute it at one input. -/
def lzStandsWrong : ChangeSpec := { name := "lzStands", fn := fun _ => fun
  | [d] => { results := [.lit (.bool false)], args := [d] }
  | _ => none }
def LzStandsWrongFalsely : Prop := lzStandsRow.holds Try.pinned (OpenSpec.ofChange lzStandsWrong)

/-- 'inkwelllaw06.LzOpens': WHATEVER THE INPUT: true; the input reads as it did. -/
def lzOpensSpec : ChangeSpec := { name := "lzOpens", fn := fun _ => fun
  | [d1, d2] => { results := [.lit (.bool true)], args := [d1, d2] }
  | _ => none }
def lzOpensRow : OpenClaim := { program := "ytdglijdgnopgkaa", sum := "4d6d8f847bb852b1a9f07386c586f6775fbfb43afd44736a3cbe7b87c822485a", func := "inkwell/inkwelllaw06.LzOpens", spec := "lzOpens", plainKeys := false, apart := false }
def LzOpensSaid : Prop := lzOpensRow.holds Try.pinned (OpenSpec.ofChange lzOpensSpec)

/-- ITS FALSE NEIGHBOUR: 'it returns false'. Refute it at one input. -/
def lzOpensWrong : ChangeSpec := { name := "lzOpens", fn := fun _ => fun
  | [d1, d2] => { results := [.lit (.bool false)], args := [d1, d2] }
  | _ => none }
def LzOpensWrongFalsely : Prop := lzOpensRow.holds Try.pinned (OpenSpec.ofChange lzOpensWrong)

/-- 'inkwelllaw06.LzBack': WHATEVER THE INPUT: true; the input reads as it did. -/
def lzBackSpec : ChangeSpec := { name := "lzBack", fn := fun _ => fun
  | [d] => { results := [.lit (.bool true)], args := [d] }
  | _ => none }
def lzBackRow : OpenClaim := { program := "ytdglijdgnopgkaa", sum := "4d6d8f847bb852b1a9f07386c586f6775fbfb43afd44736a3cbe7b87c822485a", func := "inkwell/inkwelllaw06.LzBack", spec := "lzBack", plainKeys := false, apart := false }
def LzBackSaid : Prop := lzBackRow.holds Try.pinned (OpenSpec.ofChange lzBackSpec)

/-- ITS FALSE NEIGHBOUR: 'it returns false'. Refute it at one input. -/
def lzBackWrong : ChangeSpec := { name := "lzBack", fn := fun _ => fun
  | [d] => { results := [.lit (.bool false)], args := [d] }
  | _ => none }
def LzBackWrongFalsely : Prop := lzBackRow.holds Try.pinned (OpenSpec.ofChange lzBackWrong)

/-- 'inkwelllaw06.LzAdds': WHATEVER THE INPUT: true; the input reads as it did. -/
def lzAddsSpec : ChangeSpec := { name := "lzAdds", fn := fun _ => fun
  | [d] => { results := [.lit (.bool true)], args := [d] }
  | _ => none }
def lzAddsRow : OpenClaim := { program := "ytdglijdgnopgkaa", sum := "4d6d8f847bb852b1a9f07386c586f6775fbfb43afd44736a3cbe7b87c822485a", func := "inkwell/inkwelllaw06.LzAdds", spec := "lzAdds", plainKeys := false, apart := false }
def LzAddsSaid : Prop := lzAddsRow.holds Try.pinned (OpenSpec.ofChange lzAddsSpec)

/-- ITS FALSE NEIGHBOUR: 'it returns false'. Refute it at one input. -/
def lzAddsWrong : ChangeSpec := { name := "lzAdds", fn := fun _ => fun
  | [d] => { results := [.lit (.bool false)], args := [d] }
  | _ => none }
def LzAddsWrongFalsely : Prop := lzAddsRow.holds Try.pinned (OpenSpec.ofChange lzAddsWrong)

/-- 'inkwelllaw13.BoolsBack': WHATEVER THE INPUT: true; the input reads as it did. -/
def boolsBackSpec : ChangeSpec := { name := "boolsBack", fn := fun _ => fun
  | [d] => { results := [.lit (.bool true)], args := [d] }
  | _ => none }
def boolsBackRow : OpenClaim := { program := "ytdglijdgnopgkaa", sum := "4d6d8f847bb852b1a9f07386c586f6775fbfb43afd44736a3cbe7b87c822485a", func := "inkwell/inkwelllaw13.BoolsBack", spec := "boolsBack", plainKeys := false, apart := false }
def BoolsBackSaid : Prop := boolsBackRow.holds Try.pinned (OpenSpec.ofChange boolsBackSpec)

/-- ITS FALSE NEIGHBOUR: 'it returns false'. Refute it at one input. -/
def boolsBackWrong : ChangeSpec := { name := "boolsBack", fn := fun _ => fun
  | [d] => { results := [.lit (.bool false)], args := [d] }
  | _ => none }
def BoolsBackWrongFalsely : Prop := boolsBackRow.holds Try.pinned (OpenSpec.ofChange boolsBackWrong)

/-- 'inkwelllaw13.BoolsOnce': WHATEVER THE INPUT: true; the input reads as it did. -/
def boolsOnceSpec : ChangeSpec := { name := "boolsOnce", fn := fun _ => fun
  | [d] => { results := [.lit (.bool true)], args := [d] }
  | _ => none }
def boolsOnceRow : OpenClaim := { program := "ytdglijdgnopgkaa", sum := "4d6d8f847bb852b1a9f07386c586f6775fbfb43afd44736a3cbe7b87c822485a", func := "inkwell/inkwelllaw13.BoolsOnce", spec := "boolsOnce", plainKeys := false, apart := false }
def BoolsOnceSaid : Prop := boolsOnceRow.holds Try.pinned (OpenSpec.ofChange boolsOnceSpec)

/-- ITS FALSE NEIGHBOUR: 'it returns false'. Refute it at one input. -/
def boolsOnceWrong : ChangeSpec := { name := "boolsOnce", fn := fun _ => fun
  | [d] => { results := [.lit (.bool false)], args := [d] }
  | _ => none }
def BoolsOnceWrongFalsely : Prop := boolsOnceRow.holds Try.pinned (OpenSpec.ofChange boolsOnceWrong)

/- THE SECOND FORM. 'bulk': how many values and letters a reading holds, each counted each time it is reached (what is shared counts as often as it is met; a slice's spare places count too). A statement '..UptoSaid' is the law's where the arguments, and the package variables that the reading takes, are together of bulk at most 1048576: NARROWER than '..Said'. Prove '..Said' where nothing that the law and all that it calls make is longer than what came in: it says more and counts as full. Else prove '..UptoSaid'. A law counts once. -/
mutual
def uptoBulk {H : Type} : DataW H → Nat
  | .lit (.string bytes) => bytes.length + 1
  | .lit _ => 1
  | .nil => 1
  | .ptr d => uptoBulk d + 1
  | .slice elems spare => uptoBulkAll elems + uptoBulkAll spare + 1
  | .agg parts => uptoBulkAll parts + 1
  | .iface _ d => uptoBulk d + 1
  | .map entries => uptoBulkEntries entries + 1
  | .held _ => 1
def uptoBulkAll {H : Type} : List (DataW H) → Nat
  | [] => 0
  | d :: r => uptoBulk d + uptoBulkAll r
def uptoBulkEntries {H : Type} : List (Lit × DataW H) → Nat
  | [] => 0
  | x :: r => uptoBulkEntry x + uptoBulkEntries r
def uptoBulkEntry {H : Type} : Lit × DataW H → Nat
  | (.string bytes, d) => bytes.length + uptoBulk d + 1
  | (_, d) => uptoBulk d + 1
 end
def uptoSmall : (H : Type) → List (DataW H) → Bool := fun _ ds => decide (uptoBulkAll ds ≤ 1048576)
def OpenSpec.upto (s : _root_.Go.ChangeSpec) : _root_.Go.OpenSpec := { _root_.Go.OpenSpec.ofChange s with cond := some uptoSmall }

/-- 'inkwelllaw13.BoolsRuns', WHERE WHAT IT READS IS OF BULK AT MOST 1048576: true; the input reads as it did. -/
def boolsRunsUptoRow : OpenClaim := { program := "ytdglijdgnopgkaa", sum := "4d6d8f847bb852b1a9f07386c586f6775fbfb43afd44736a3cbe7b87c822485a", func := "inkwell/inkwelllaw13.BoolsRuns", spec := "boolsRuns", plainKeys := false, apart := false, narrowed := true }
def BoolsRunsUptoSaid : Prop := boolsRunsUptoRow.holds Try.pinned (OpenSpec.upto boolsRunsSpec)

/-- 'inkwelllaw06.LzPresses', WHERE WHAT IT READS IS OF BULK AT MOST 1048576: true; the input reads as it did. -/
def lzPressesUptoRow : OpenClaim := { program := "ytdglijdgnopgkaa", sum := "4d6d8f847bb852b1a9f07386c586f6775fbfb43afd44736a3cbe7b87c822485a", func := "inkwell/inkwelllaw06.LzPresses", spec := "lzPresses", plainKeys := false, apart := false, narrowed := true }
def LzPressesUptoSaid : Prop := lzPressesUptoRow.holds Try.pinned (OpenSpec.upto lzPressesSpec)

/-- 'inkwelllaw06.LzLong', WHERE WHAT IT READS IS OF BULK AT MOST 1048576: true; the input reads as it did. -/
def lzLongUptoRow : OpenClaim := { program := "ytdglijdgnopgkaa", sum := "4d6d8f847bb852b1a9f07386c586f6775fbfb43afd44736a3cbe7b87c822485a", func := "inkwell/inkwelllaw06.LzLong", spec := "lzLong", plainKeys := false, apart := false, narrowed := true }
def LzLongUptoSaid : Prop := lzLongUptoRow.holds Try.pinned (OpenSpec.upto lzLongSpec)

/-- 'inkwelllaw06.LzStands', WHERE WHAT IT READS IS OF BULK AT MOST 1048576: true; the input reads as it did. -/
def lzStandsUptoRow : OpenClaim := { program := "ytdglijdgnopgkaa", sum := "4d6d8f847bb852b1a9f07386c586f6775fbfb43afd44736a3cbe7b87c822485a", func := "inkwell/inkwelllaw06.LzStands", spec := "lzStands", plainKeys := false, apart := false, narrowed := true }
def LzStandsUptoSaid : Prop := lzStandsUptoRow.holds Try.pinned (OpenSpec.upto lzStandsSpec)

/-- 'inkwelllaw06.LzOpens', WHERE WHAT IT READS IS OF BULK AT MOST 1048576: true; the input reads as it did. -/
def lzOpensUptoRow : OpenClaim := { program := "ytdglijdgnopgkaa", sum := "4d6d8f847bb852b1a9f07386c586f6775fbfb43afd44736a3cbe7b87c822485a", func := "inkwell/inkwelllaw06.LzOpens", spec := "lzOpens", plainKeys := false, apart := false, narrowed := true }
def LzOpensUptoSaid : Prop := lzOpensUptoRow.holds Try.pinned (OpenSpec.upto lzOpensSpec)

/-- 'inkwelllaw06.LzBack', WHERE WHAT IT READS IS OF BULK AT MOST 1048576: true; the input reads as it did. -/
def lzBackUptoRow : OpenClaim := { program := "ytdglijdgnopgkaa", sum := "4d6d8f847bb852b1a9f07386c586f6775fbfb43afd44736a3cbe7b87c822485a", func := "inkwell/inkwelllaw06.LzBack", spec := "lzBack", plainKeys := false, apart := false, narrowed := true }
def LzBackUptoSaid : Prop := lzBackUptoRow.holds Try.pinned (OpenSpec.upto lzBackSpec)

/-- 'inkwelllaw06.LzAdds', WHERE WHAT IT READS IS OF BULK AT MOST 1048576: true; the input reads as it did. -/
def lzAddsUptoRow : OpenClaim := { program := "ytdglijdgnopgkaa", sum := "4d6d8f847bb852b1a9f07386c586f6775fbfb43afd44736a3cbe7b87c822485a", func := "inkwell/inkwelllaw06.LzAdds", spec := "lzAdds", plainKeys := false, apart := false, narrowed := true }
def LzAddsUptoSaid : Prop := lzAddsUptoRow.holds Try.pinned (OpenSpec.upto lzAddsSpec)

/-- 'inkwelllaw13.BoolsBack', WHERE WHAT IT READS IS OF BULK AT MOST 1048576: true; the input reads as it did. -/
def boolsBackUptoRow : OpenClaim := { program := "ytdglijdgnopgkaa", sum := "4d6d8f847bb852b1a9f07386c586f6775fbfb43afd44736a3cbe7b87c822485a", func := "inkwell/inkwelllaw13.BoolsBack", spec := "boolsBack", plainKeys := false, apart := false, narrowed := true }
def BoolsBackUptoSaid : Prop := boolsBackUptoRow.holds Try.pinned (OpenSpec.upto boolsBackSpec)

/-- 'inkwelllaw13.BoolsOnce', WHERE WHAT IT READS IS OF BULK AT MOST 1048576: true; the input reads as it did. -/
def boolsOnceUptoRow : OpenClaim := { program := "ytdglijdgnopgkaa", sum := "4d6d8f847bb852b1a9f07386c586f6775fbfb43afd44736a3cbe7b87c822485a", func := "inkwell/inkwelllaw13.BoolsOnce", spec := "boolsOnce", plainKeys := false, apart := false, narrowed := true }
def BoolsOnceUptoSaid : Prop := boolsOnceUptoRow.holds Try.pinned (OpenSpec.upto boolsOnceSpec)

end Rows
end Go.Proofs.Ytdglijdgnopgkaa
