/-
  No cell of these rows narrows 'for every input' (looked for: loops, veiled, ifaces, maps, wideKeys, modest, calm, conditions, laid).
  DERIVED. THE GIVEN ROWS OF THIS SEAT. 10 by the template 'for every input the law returns true; each argument reads behind the call as it read before'; 0 by the template 'total and deterministic' (their statements: YtphaccaanjmchaaTotals.lean).
  GIVEN WITH THE SEED: the statements are not yours to turn. If you find one false, say at which input.
  Laid BY PROGRAM, IN A SANDBOX (cutbox-rows.mjs): the forced cells as the released guide's own fill.sh prints them over the translation 26166e50b831e716… (all of the seat's roots in one cut). By AI agents, Wed Nov 11 2026. No macro, syntax, notation, axiom, sorry.
-/
import Derived.Test.YtphaccaanjmchaaChecked
import GoSem.Claim
import GoSem.ClaimJoined
import GoSem.ClaimMapViews
import Derived.JoinedTies
import Derived.KernelRfl
namespace Go.Proofs.Ytphaccaanjmchaa
/- THE CELL 'sum', in the pinned program and in every row, IS THE sha256 OF THE DUMP (.gsa) THAT YtphaccaanjmchaaProg.lean LOADS. Nothing in Lean hashes anything: it is a label: what it is worth is what the hold of that sum in a sandbox is worth. -/
noncomputable def Try.pinned : Pinned := { name := "ytphaccaanjmchaa", sum := "26166e50b831e716fbd253c178149d44865cbd3ffa13bddf691fea543e635694", checked := Try.checked }
namespace Rows
def none {H : Type} : Left H := { results := [], args := [] }

/-- 'inkwelllaw02.LebApart': WHATEVER THE INPUT: true; the input reads as it did. -/
def lebApartSpec : ChangeSpec := { name := "lebApart", fn := fun _ => fun
  | [d1, d2] => { results := [.lit (.bool true)], args := [d1, d2] }
  | _ => none }
def lebApartRow : OpenClaim := { program := "ytphaccaanjmchaa", sum := "26166e50b831e716fbd253c178149d44865cbd3ffa13bddf691fea543e635694", func := "inkwell/inkwelllaw02.LebApart", spec := "lebApart", apart := false }
def LebApartSaid : Prop := lebApartRow.holds Try.pinned (OpenSpec.ofChange lebApartSpec)

/-- ITS FALSE NEIGHBOUR: 'it returns false'. Refute it at one input. -/
def lebApartWrong : ChangeSpec := { name := "lebApart", fn := fun _ => fun
  | [d1, d2] => { results := [.lit (.bool false)], args := [d1, d2] }
  | _ => none }
def LebApartWrongFalsely : Prop := lebApartRow.holds Try.pinned (OpenSpec.ofChange lebApartWrong)

/-- 'inkwelllaw02.LebSizes': WHATEVER THE INPUT: true; the input reads as it did. -/
def lebSizesSpec : ChangeSpec := { name := "lebSizes", fn := fun _ => fun
  | [d] => { results := [.lit (.bool true)], args := [d] }
  | _ => none }
def lebSizesRow : OpenClaim := { program := "ytphaccaanjmchaa", sum := "26166e50b831e716fbd253c178149d44865cbd3ffa13bddf691fea543e635694", func := "inkwell/inkwelllaw02.LebSizes", spec := "lebSizes", apart := false }
def LebSizesSaid : Prop := lebSizesRow.holds Try.pinned (OpenSpec.ofChange lebSizesSpec)

/-- ITS FALSE NEIGHBOUR: 'it returns false'. Refute it at one input. -/
def lebSizesWrong : ChangeSpec := { name := "lebSizes", fn := fun _ => fun
  | [d] => { results := [.lit (.bool false)], args := [d] }
  | _ => none }
def LebSizesWrongFalsely : Prop := lebSizesRow.holds Try.pinned (OpenSpec.ofChange lebSizesWrong)

/-- 'inkwelllaw01.BitsCodes': WHATEVER THE INPUT: true; the input reads as it did. -/
def bitsCodesSpec : ChangeSpec := { name := "bitsCodes", fn := fun _ => fun
  | [d1, d2, d3] => { results := [.lit (.bool true)], args := [d1, d2, d3] }
  | _ => none }
def bitsCodesRow : OpenClaim := { program := "ytphaccaanjmchaa", sum := "26166e50b831e716fbd253c178149d44865cbd3ffa13bddf691fea543e635694", func := "inkwell/inkwelllaw01.BitsCodes", spec := "bitsCodes", apart := false }
def BitsCodesSaid : Prop := bitsCodesRow.holds Try.pinned (OpenSpec.ofChange bitsCodesSpec)

/-- ITS FALSE NEIGHBOUR: 'it returns false'. Refute it at one input. -/
def bitsCodesWrong : ChangeSpec := { name := "bitsCodes", fn := fun _ => fun
  | [d1, d2, d3] => { results := [.lit (.bool false)], args := [d1, d2, d3] }
  | _ => none }
def BitsCodesWrongFalsely : Prop := bitsCodesRow.holds Try.pinned (OpenSpec.ofChange bitsCodesWrong)

/-- 'inkwelllaw02.LebPuts': WHATEVER THE INPUT: true; the input reads as it did. -/
def lebPutsSpec : ChangeSpec := { name := "lebPuts", fn := fun _ => fun
  | [d1, d2] => { results := [.lit (.bool true)], args := [d1, d2] }
  | _ => none }
def lebPutsRow : OpenClaim := { program := "ytphaccaanjmchaa", sum := "26166e50b831e716fbd253c178149d44865cbd3ffa13bddf691fea543e635694", func := "inkwell/inkwelllaw02.LebPuts", spec := "lebPuts", recurses := true, apart := false }
def LebPutsSaid : Prop := lebPutsRow.holds Try.pinned (OpenSpec.ofChange lebPutsSpec)

/-- ITS FALSE NEIGHBOUR: 'it returns false'. Refute it at one input. -/
def lebPutsWrong : ChangeSpec := { name := "lebPuts", fn := fun _ => fun
  | [d1, d2] => { results := [.lit (.bool false)], args := [d1, d2] }
  | _ => none }
def LebPutsWrongFalsely : Prop := lebPutsRow.holds Try.pinned (OpenSpec.ofChange lebPutsWrong)

/-- 'inkwelllaw01.BitsPuts': WHATEVER THE INPUT: true; the input reads as it did. -/
def bitsPutsSpec : ChangeSpec := { name := "bitsPuts", fn := fun _ => fun
  | [d] => { results := [.lit (.bool true)], args := [d] }
  | _ => none }
def bitsPutsRow : OpenClaim := { program := "ytphaccaanjmchaa", sum := "26166e50b831e716fbd253c178149d44865cbd3ffa13bddf691fea543e635694", func := "inkwell/inkwelllaw01.BitsPuts", spec := "bitsPuts", apart := false }
def BitsPutsSaid : Prop := bitsPutsRow.holds Try.pinned (OpenSpec.ofChange bitsPutsSpec)

/-- ITS FALSE NEIGHBOUR: 'it returns false'. Refute it at one input. -/
def bitsPutsWrong : ChangeSpec := { name := "bitsPuts", fn := fun _ => fun
  | [d] => { results := [.lit (.bool false)], args := [d] }
  | _ => none }
def BitsPutsWrongFalsely : Prop := bitsPutsRow.holds Try.pinned (OpenSpec.ofChange bitsPutsWrong)

/-- 'inkwelllaw01.BitsAligns': WHATEVER THE INPUT: true; the input reads as it did. -/
def bitsAlignsSpec : ChangeSpec := { name := "bitsAligns", fn := fun _ => fun
  | [d1, d2] => { results := [.lit (.bool true)], args := [d1, d2] }
  | _ => none }
def bitsAlignsRow : OpenClaim := { program := "ytphaccaanjmchaa", sum := "26166e50b831e716fbd253c178149d44865cbd3ffa13bddf691fea543e635694", func := "inkwell/inkwelllaw01.BitsAligns", spec := "bitsAligns", apart := false }
def BitsAlignsSaid : Prop := bitsAlignsRow.holds Try.pinned (OpenSpec.ofChange bitsAlignsSpec)

/-- ITS FALSE NEIGHBOUR: 'it returns false'. Refute it at one input. -/
def bitsAlignsWrong : ChangeSpec := { name := "bitsAligns", fn := fun _ => fun
  | [d1, d2] => { results := [.lit (.bool false)], args := [d1, d2] }
  | _ => none }
def BitsAlignsWrongFalsely : Prop := bitsAlignsRow.holds Try.pinned (OpenSpec.ofChange bitsAlignsWrong)

/-- 'inkwelllaw01.BitsReads': WHATEVER THE INPUT: true; the input reads as it did. -/
def bitsReadsSpec : ChangeSpec := { name := "bitsReads", fn := fun _ => fun
  | [d1, d2] => { results := [.lit (.bool true)], args := [d1, d2] }
  | _ => none }
def bitsReadsRow : OpenClaim := { program := "ytphaccaanjmchaa", sum := "26166e50b831e716fbd253c178149d44865cbd3ffa13bddf691fea543e635694", func := "inkwell/inkwelllaw01.BitsReads", spec := "bitsReads", apart := false }
def BitsReadsSaid : Prop := bitsReadsRow.holds Try.pinned (OpenSpec.ofChange bitsReadsSpec)

/-- ITS FALSE NEIGHBOUR: 'it returns false'. Refute it at one input. -/
def bitsReadsWrong : ChangeSpec := { name := "bitsReads", fn := fun _ => fun
  | [d1, d2] => { results := [.lit (.bool false)], args := [d1, d2] }
  | _ => none }
def BitsReadsWrongFalsely : Prop := bitsReadsRow.holds Try.pinned (OpenSpec.ofChange bitsReadsWrong)

/-- 'inkwelllaw01.BitsBack': WHATEVER THE INPUT: true; the input reads as it did. -/
def bitsBackSpec : ChangeSpec := { name := "bitsBack", fn := fun _ => fun
  | [d] => { results := [.lit (.bool true)], args := [d] }
  | _ => none }
def bitsBackRow : OpenClaim := { program := "ytphaccaanjmchaa", sum := "26166e50b831e716fbd253c178149d44865cbd3ffa13bddf691fea543e635694", func := "inkwell/inkwelllaw01.BitsBack", spec := "bitsBack", apart := false }
def BitsBackSaid : Prop := bitsBackRow.holds Try.pinned (OpenSpec.ofChange bitsBackSpec)

/-- ITS FALSE NEIGHBOUR: 'it returns false'. Refute it at one input. -/
def bitsBackWrong : ChangeSpec := { name := "bitsBack", fn := fun _ => fun
  | [d] => { results := [.lit (.bool false)], args := [d] }
  | _ => none }
def BitsBackWrongFalsely : Prop := bitsBackRow.holds Try.pinned (OpenSpec.ofChange bitsBackWrong)

/-- 'inkwelllaw02.LebGets': WHATEVER THE INPUT: true; the input reads as it did. -/
def lebGetsSpec : ChangeSpec := { name := "lebGets", fn := fun _ => fun
  | [d] => { results := [.lit (.bool true)], args := [d] }
  | _ => none }
def lebGetsRow : OpenClaim := { program := "ytphaccaanjmchaa", sum := "26166e50b831e716fbd253c178149d44865cbd3ffa13bddf691fea543e635694", func := "inkwell/inkwelllaw02.LebGets", spec := "lebGets", recurses := true, apart := false }
def LebGetsSaid : Prop := lebGetsRow.holds Try.pinned (OpenSpec.ofChange lebGetsSpec)

/-- ITS FALSE NEIGHBOUR: 'it returns false'. Refute it at one input. -/
def lebGetsWrong : ChangeSpec := { name := "lebGets", fn := fun _ => fun
  | [d] => { results := [.lit (.bool false)], args := [d] }
  | _ => none }
def LebGetsWrongFalsely : Prop := lebGetsRow.holds Try.pinned (OpenSpec.ofChange lebGetsWrong)

/-- 'inkwelllaw02.LebBack': WHATEVER THE INPUT: true; the input reads as it did. -/
def lebBackSpec : ChangeSpec := { name := "lebBack", fn := fun _ => fun
  | [d1, d2, d3] => { results := [.lit (.bool true)], args := [d1, d2, d3] }
  | _ => none }
def lebBackRow : OpenClaim := { program := "ytphaccaanjmchaa", sum := "26166e50b831e716fbd253c178149d44865cbd3ffa13bddf691fea543e635694", func := "inkwell/inkwelllaw02.LebBack", spec := "lebBack", apart := false }
def LebBackSaid : Prop := lebBackRow.holds Try.pinned (OpenSpec.ofChange lebBackSpec)

/-- ITS FALSE NEIGHBOUR: 'it returns false'. Refute it at one input. -/
def lebBackWrong : ChangeSpec := { name := "lebBack", fn := fun _ => fun
  | [d1, d2, d3] => { results := [.lit (.bool false)], args := [d1, d2, d3] }
  | _ => none }
def LebBackWrongFalsely : Prop := lebBackRow.holds Try.pinned (OpenSpec.ofChange lebBackWrong)

/- THE SECOND FORM. 'bulk': how many values and letters a reading holds, each counted each time it is reached (what is shared counts as often as it is met; a slice's spare places count too). A statement '..UptoSaid' is the law's where the arguments, and the package variables that the reading takes, are together of bulk at most 1048576: NARROWER than '..Said'. Prove '..Said' where nothing that the law and all that it calls make is longer than what came in: it says more and counts as full. Else prove '..UptoSaid'. A law counts once. -/
mutual
def uptoBulk {H : Type} : DataW H → Nat
  | .lit (.string bytes) => bytes.length + 1
  | .lit _ => 1
  | .nil => 1
  | .ptr d => uptoBulk d + 1
  | .slice elems spare => uptoBulkAll elems + uptoBulkAll spare + 1
  | .agg parts => uptoBulkAll parts + 1
  | .iface _ d => uptoBulk d + 1
  | .map entries => uptoBulkEntries entries + 1
  | .held _ => 1
def uptoBulkAll {H : Type} : List (DataW H) → Nat
  | [] => 0
  | d :: r => uptoBulk d + uptoBulkAll r
def uptoBulkEntries {H : Type} : List (Lit × DataW H) → Nat
  | [] => 0
  | x :: r => uptoBulkEntry x + uptoBulkEntries r
def uptoBulkEntry {H : Type} : Lit × DataW H → Nat
  | (.string bytes, d) => bytes.length + uptoBulk d + 1
  | (_, d) => uptoBulk d + 1
 end
def uptoSmall : (H : Type) → List (DataW H) → Bool := fun _ ds => decide (uptoBulkAll ds ≤ 1048576)
def OpenSpec.upto (s : _root_.Go.ChangeSpec) : _root_.Go.OpenSpec := { _root_.Go.OpenSpec.ofChange s with cond := some uptoSmall }

/-- 'inkwelllaw02.LebApart', WHERE WHAT IT READS IS OF BULK AT MOST 1048576: true; the input reads as it did. -/
def lebApartUptoRow : OpenClaim := { program := "ytphaccaanjmchaa", sum := "26166e50b831e716fbd253c178149d44865cbd3ffa13bddf691fea543e635694", func := "inkwell/inkwelllaw02.LebApart", spec := "lebApart", apart := false, narrowed := true }
def LebApartUptoSaid : Prop := lebApartUptoRow.holds Try.pinned (OpenSpec.upto lebApartSpec)

/-- 'inkwelllaw02.LebSizes', WHERE WHAT IT READS IS OF BULK AT MOST 1048576: true; the input reads as it did. -/
def lebSizesUptoRow : OpenClaim := { program := "ytphaccaanjmchaa", sum := "26166e50b831e716fbd253c178149d44865cbd3ffa13bddf691fea543e635694", func := "inkwell/inkwelllaw02.LebSizes", spec := "lebSizes", apart := false, narrowed := true }
def LebSizesUptoSaid : Prop := lebSizesUptoRow.holds Try.pinned (OpenSpec.upto lebSizesSpec)

/-- 'inkwelllaw01.BitsCodes', WHERE WHAT IT READS IS OF BULK AT MOST 1048576: true; the input reads as it did. -/
def bitsCodesUptoRow : OpenClaim := { program := "ytphaccaanjmchaa", sum := "26166e50b831e716fbd253c178149d44865cbd3ffa13bddf691fea543e635694", func := "inkwell/inkwelllaw01.BitsCodes", spec := "bitsCodes", apart := false, narrowed := true }
def BitsCodesUptoSaid : Prop := bitsCodesUptoRow.holds Try.pinned (OpenSpec.upto bitsCodesSpec)

/-- 'inkwelllaw02.LebPuts', WHERE WHAT IT READS IS OF BULK AT MOST 1048576: true; the input reads as it did. -/
def lebPutsUptoRow : OpenClaim := { program := "ytphaccaanjmchaa", sum := "26166e50b831e716fbd253c178149d44865cbd3ffa13bddf691fea543e635694", func := "inkwell/inkwelllaw02.LebPuts", spec := "lebPuts", recurses := true, apart := false, narrowed := true }
def LebPutsUptoSaid : Prop := lebPutsUptoRow.holds Try.pinned (OpenSpec.upto lebPutsSpec)

/-- 'inkwelllaw01.BitsPuts', WHERE WHAT IT READS IS OF BULK AT MOST 1048576: true; the input reads as it did. -/
def bitsPutsUptoRow : OpenClaim := { program := "ytphaccaanjmchaa", sum := "26166e50b831e716fbd253c178149d44865cbd3ffa13bddf691fea543e635694", func := "inkwell/inkwelllaw01.BitsPuts", spec := "bitsPuts", apart := false, narrowed := true }
def BitsPutsUptoSaid : Prop := bitsPutsUptoRow.holds Try.pinned (OpenSpec.upto bitsPutsSpec)

/-- 'inkwelllaw01.BitsAligns', WHERE WHAT IT READS IS OF BULK AT MOST 1048576: true; the input reads as it did. -/
def bitsAlignsUptoRow : OpenClaim := { program := "ytphaccaanjmchaa", sum := "26166e50b831e716fbd253c178149d44865cbd3ffa13bddf691fea543e635694", func := "inkwell/inkwelllaw01.BitsAligns", spec := "bitsAligns", apart := false, narrowed := true }
def BitsAlignsUptoSaid : Prop := bitsAlignsUptoRow.holds Try.pinned (OpenSpec.upto bitsAlignsSpec)

/-- 'inkwelllaw01.BitsReads', WHERE WHAT IT READS IS OF BULK AT MOST 1048576: true; the input reads as it did. -/
def bitsReadsUptoRow : OpenClaim := { program := "ytphaccaanjmchaa", sum := "26166e50b831e716fbd253c178149d44865cbd3ffa13bddf691fea543e635694", func := "inkwell/inkwelllaw01.BitsReads", spec := "bitsReads", apart := false, narrowed := true }
def BitsReadsUptoSaid : Prop := bitsReadsUptoRow.holds Try.pinned (OpenSpec.upto bitsReadsSpec)

/-- 'inkwelllaw01.BitsBack', WHERE WHAT IT READS IS OF BULK AT MOST 1048576: true; the input reads as it did. -/
def bitsBackUptoRow : OpenClaim := { program := "ytphaccaanjmchaa", sum := "26166e50b831e716fbd253c178149d44865cbd3ffa13bddf691fea543e635694", func := "inkwell/inkwelllaw01.BitsBack", spec := "bitsBack", apart := false, narrowed := true }
def BitsBackUptoSaid : Prop := bitsBackUptoRow.holds Try.pinned (OpenSpec.upto bitsBackSpec)

/-- 'inkwelllaw02.LebGets', WHERE WHAT IT READS IS OF BULK AT MOST 1048576: true; the input reads as it did. -/
def lebGetsUptoRow : OpenClaim := { program := "ytphaccaanjmchaa", sum := "26166e50b831e716fbd253c178149d44865cbd3ffa13bddf691fea543e635694", func := "inkwell/inkwelllaw02.LebGets", spec := "lebGets", recurses := true, apart := false, narrowed := true }
def LebGetsUptoSaid : Prop := lebGetsUptoRow.holds Try.pinned (OpenSpec.upto lebGetsSpec)

/-- 'inkwelllaw02.LebBack', WHERE WHAT IT READS IS OF BULK AT MOST 1048576: true; the input reads as it did. -/
def lebBackUptoRow : OpenClaim := { program := "ytphaccaanjmchaa", sum := "26166e50b831e716fbd253c178149d44865cbd3ffa13bddf691fea543e635694", func := "inkwell/inkwelllaw02.LebBack", spec := "lebBack", apart := false, narrowed := true }
def LebBackUptoSaid : Prop := lebBackUptoRow.holds Try.pinned (OpenSpec.upto lebBackSpec)

end Rows
end Go.Proofs.Ytphaccaanjmchaa
