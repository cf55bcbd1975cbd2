/-
  No cell of these rows narrows 'for every input' (looked for: loops, veiled, ifaces, maps, wideKeys, modest, calm, conditions, laid).
  DERIVED. THE GIVEN ROWS OF THIS SEAT. 5 by the template 'for every input the law returns true; each argument reads behind the call as it read before'; 0 by the template 'total and deterministic' (their statements: YtiehijephkagbaaTotals.lean).
  GIVEN WITH THE SEED: the statements are not yours to turn. If you find one false, say at which input.
  Laid BY PROGRAM, IN A SANDBOX (cutbox-rows.mjs): the forced cells as the released guide's own fill.sh prints them over the translation 30aa1a20ee00bcb7… (all of the seat's roots in one cut). By AI agents, Wed Nov 11 2026. No macro, syntax, notation, axiom, sorry.
-/
import Derived.Test.YtiehijephkagbaaChecked
import GoSem.Claim
import GoSem.ClaimJoined
import GoSem.ClaimMapViews
import Derived.JoinedTies
import Derived.KernelRfl
namespace Go.Proofs.Ytiehijephkagbaa
/- THE CELL 'sum', in the pinned program and in every row, IS THE sha256 OF THE DUMP (.gsa) THAT YtiehijephkagbaaProg.lean LOADS. Nothing in Lean hashes anything: it is a label: what it is worth is what the hold of that sum in a sandbox is worth. -/
noncomputable def Try.pinned : Pinned := { name := "ytiehijephkagbaa", sum := "30aa1a20ee00bcb7467c8e4998904ca55ad9bd2fe859e166acbc1fc450c0b25d", checked := Try.checked }
namespace Rows
def none {H : Type} : Left H := { results := [], args := [] }

/-- 'inkwelllaw03.UtfPlays': WHATEVER THE INPUT: true; the input reads as it did. -/
def utfPlaysSpec : ChangeSpec := { name := "utfPlays", fn := fun _ => fun
  | [d1, d2] => { results := [.lit (.bool true)], args := [d1, d2] }
  | _ => none }
def utfPlaysRow : OpenClaim := { program := "ytiehijephkagbaa", sum := "30aa1a20ee00bcb7467c8e4998904ca55ad9bd2fe859e166acbc1fc450c0b25d", func := "inkwell/inkwelllaw03.UtfPlays", spec := "utfPlays", apart := false }
def UtfPlaysSaid : Prop := utfPlaysRow.holds Try.pinned (OpenSpec.ofChange utfPlaysSpec)

/-- ITS FALSE NEIGHBOUR: 'it returns false'. Refute it at one input. -/
def utfPlaysWrong : ChangeSpec := { name := "utfPlays", fn := fun _ => fun
  | [d1, d2] => { results := [.lit (.bool false)], args := [d1, d2] }
  | _ => none }
def UtfPlaysWrongFalsely : Prop := utfPlaysRow.holds Try.pinned (OpenSpec.ofChange utfPlaysWrong)

/-- 'inkwelllaw03.UtfAll': WHATEVER THE INPUT: true; the input reads as it did. -/
def utfAllSpec : ChangeSpec := { name := "utfAll", fn := fun _ => fun
  | [d] => { results := [.lit (.bool true)], args := [d] }
  | _ => none }
def utfAllRow : OpenClaim := { program := "ytiehijephkagbaa", sum := "30aa1a20ee00bcb7467c8e4998904ca55ad9bd2fe859e166acbc1fc450c0b25d", func := "inkwell/inkwelllaw03.UtfAll", spec := "utfAll", apart := false }
def UtfAllSaid : Prop := utfAllRow.holds Try.pinned (OpenSpec.ofChange utfAllSpec)

/-- ITS FALSE NEIGHBOUR: 'it returns false'. Refute it at one input. -/
def utfAllWrong : ChangeSpec := { name := "utfAll", fn := fun _ => fun
  | [d] => { results := [.lit (.bool false)], args := [d] }
  | _ => none }
def UtfAllWrongFalsely : Prop := utfAllRow.holds Try.pinned (OpenSpec.ofChange utfAllWrong)

/-- 'inkwelllaw03.UtfJoins': WHATEVER THE INPUT: true; the input reads as it did. -/
def utfJoinsSpec : ChangeSpec := { name := "utfJoins", fn := fun _ => fun
  | [d1, d2] => { results := [.lit (.bool true)], args := [d1, d2] }
  | _ => none }
def utfJoinsRow : OpenClaim := { program := "ytiehijephkagbaa", sum := "30aa1a20ee00bcb7467c8e4998904ca55ad9bd2fe859e166acbc1fc450c0b25d", func := "inkwell/inkwelllaw03.UtfJoins", spec := "utfJoins", apart := false }
def UtfJoinsSaid : Prop := utfJoinsRow.holds Try.pinned (OpenSpec.ofChange utfJoinsSpec)

/-- ITS FALSE NEIGHBOUR: 'it returns false'. Refute it at one input. -/
def utfJoinsWrong : ChangeSpec := { name := "utfJoins", fn := fun _ => fun
  | [d1, d2] => { results := [.lit (.bool false)], args := [d1, d2] }
  | _ => none }
def UtfJoinsWrongFalsely : Prop := utfJoinsRow.holds Try.pinned (OpenSpec.ofChange utfJoinsWrong)

/-- 'inkwelllaw03.UtfLong': WHATEVER THE INPUT: true; the input reads as it did. -/
def utfLongSpec : ChangeSpec := { name := "utfLong", fn := fun _ => fun
  | [d1, d2] => { results := [.lit (.bool true)], args := [d1, d2] }
  | _ => none }
def utfLongRow : OpenClaim := { program := "ytiehijephkagbaa", sum := "30aa1a20ee00bcb7467c8e4998904ca55ad9bd2fe859e166acbc1fc450c0b25d", func := "inkwell/inkwelllaw03.UtfLong", spec := "utfLong", apart := false }
def UtfLongSaid : Prop := utfLongRow.holds Try.pinned (OpenSpec.ofChange utfLongSpec)

/-- ITS FALSE NEIGHBOUR: 'it returns false'. Refute it at one input. -/
def utfLongWrong : ChangeSpec := { name := "utfLong", fn := fun _ => fun
  | [d1, d2] => { results := [.lit (.bool false)], args := [d1, d2] }
  | _ => none }
def UtfLongWrongFalsely : Prop := utfLongRow.holds Try.pinned (OpenSpec.ofChange utfLongWrong)

/-- 'inkwelllaw03.UtfFirst': WHATEVER THE INPUT: true; the input reads as it did. -/
def utfFirstSpec : ChangeSpec := { name := "utfFirst", fn := fun _ => fun
  | [d] => { results := [.lit (.bool true)], args := [d] }
  | _ => none }
def utfFirstRow : OpenClaim := { program := "ytiehijephkagbaa", sum := "30aa1a20ee00bcb7467c8e4998904ca55ad9bd2fe859e166acbc1fc450c0b25d", func := "inkwell/inkwelllaw03.UtfFirst", spec := "utfFirst", apart := false }
def UtfFirstSaid : Prop := utfFirstRow.holds Try.pinned (OpenSpec.ofChange utfFirstSpec)

/-- ITS FALSE NEIGHBOUR: 'it returns false'. Refute it at one input. -/
def utfFirstWrong : ChangeSpec := { name := "utfFirst", fn := fun _ => fun
  | [d] => { results := [.lit (.bool false)], args := [d] }
  | _ => none }
def UtfFirstWrongFalsely : Prop := utfFirstRow.holds Try.pinned (OpenSpec.ofChange utfFirstWrong)

/- THE SECOND FORM. 'bulk': how many values and letters a reading holds, each counted each time it is reached (what is shared counts as often as it is met; a slice's spare places count too). A statement '..UptoSaid' is the law's where the arguments, and the package variables that the reading takes, are together of bulk at most 1048576: NARROWER than '..Said'. Prove '..Said' where nothing that the law and all that it calls make is longer than what came in: it says more and counts as full. Else prove '..UptoSaid'. A law counts once. -/
mutual
def uptoBulk {H : Type} : DataW H → Nat
  | .lit (.string bytes) => bytes.length + 1
  | .lit _ => 1
  | .nil => 1
  | .ptr d => uptoBulk d + 1
  | .slice elems spare => uptoBulkAll elems + uptoBulkAll spare + 1
  | .agg parts => uptoBulkAll parts + 1
  | .iface _ d => uptoBulk d + 1
  | .map entries => uptoBulkEntries entries + 1
  | .held _ => 1
def uptoBulkAll {H : Type} : List (DataW H) → Nat
  | [] => 0
  | d :: r => uptoBulk d + uptoBulkAll r
def uptoBulkEntries {H : Type} : List (Lit × DataW H) → Nat
  | [] => 0
  | x :: r => uptoBulkEntry x + uptoBulkEntries r
def uptoBulkEntry {H : Type} : Lit × DataW H → Nat
  | (.string bytes, d) => bytes.length + uptoBulk d + 1
  | (_, d) => uptoBulk d + 1
 end
def uptoSmall : (H : Type) → List (DataW H) → Bool := fun _ ds => decide (uptoBulkAll ds ≤ 1048576)
def OpenSpec.upto (s : _root_.Go.ChangeSpec) : _root_.Go.OpenSpec := { _root_.Go.OpenSpec.ofChange s with cond := some uptoSmall }

/-- 'inkwelllaw03.UtfPlays', WHERE WHAT IT READS IS OF BULK AT MOST 1048576: true; the input reads as it did. -/
def utfPlaysUptoRow : OpenClaim := { program := "ytiehijephkagbaa", sum := "30aa1a20ee00bcb7467c8e4998904ca55ad9bd2fe859e166acbc1fc450c0b25d", func := "inkwell/inkwelllaw03.UtfPlays", spec := "utfPlays", apart := false, narrowed := true }
def UtfPlaysUptoSaid : Prop := utfPlaysUptoRow.holds Try.pinned (OpenSpec.upto utfPlaysSpec)

/-- 'inkwelllaw03.UtfAll', WHERE WHAT IT READS IS OF BULK AT MOST 1048576: true; the input reads as it did. -/
def utfAllUptoRow : OpenClaim := { program := "ytiehijephkagbaa", sum := "30aa1a20ee00bcb7467c8e4998904ca55ad9bd2fe859e166acbc1fc450c0b25d", func := "inkwell/inkwelllaw03.UtfAll", spec := "utfAll", apart := false, narrowed := true }
def UtfAllUptoSaid : Prop := utfAllUptoRow.holds Try.pinned (OpenSpec.upto utfAllSpec)

/-- 'inkwelllaw03.UtfJoins', WHERE WHAT IT READS IS OF BULK AT MOST 1048576: true; the input reads as it did. -/
def utfJoinsUptoRow : OpenClaim := { program := "ytiehijephkagbaa", sum := "30aa1a20ee00bcb7467c8e4998904ca55ad9bd2fe859e166acbc1fc450c0b25d", func := "inkwell/inkwelllaw03.UtfJoins", spec := "utfJoins", apart := false, narrowed := true }
def UtfJoinsUptoSaid : Prop := utfJoinsUptoRow.holds Try.pinned (OpenSpec.upto utfJoinsSpec)

/-- 'inkwelllaw03.UtfLong', WHERE WHAT IT READS IS OF BULK AT MOST 1048576: true; the input reads as it did. -/
def utfLongUptoRow : OpenClaim := { program := "ytiehijephkagbaa", sum := "30aa1a20ee00bcb7467c8e4998904ca55ad9bd2fe859e166acbc1fc450c0b25d", func := "inkwell/inkwelllaw03.UtfLong", spec := "utfLong", apart := false, narrowed := true }
def UtfLongUptoSaid : Prop := utfLongUptoRow.holds Try.pinned (OpenSpec.upto utfLongSpec)

/-- 'inkwelllaw03.UtfFirst', WHERE WHAT IT READS IS OF BULK AT MOST 1048576: true; the input reads as it did. -/
def utfFirstUptoRow : OpenClaim := { program := "ytiehijephkagbaa", sum := "30aa1a20ee00bcb7467c8e4998904ca55ad9bd2fe859e166acbc1fc450c0b25d", func := "inkwell/inkwelllaw03.UtfFirst", spec := "utfFirst", apart := false, narrowed := true }
def UtfFirstUptoSaid : Prop := utfFirstUptoRow.holds Try.pinned (OpenSpec.upto utfFirstSpec)

end Rows
end Go.Proofs.Ytiehijephkagbaa
