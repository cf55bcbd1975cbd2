/-
  No cell of these rows narrows 'for every input' (looked for: loops, veiled, ifaces, maps, wideKeys, modest, calm, conditions, laid).
  DERIVED. THE GIVEN ROWS OF THIS SEAT. 9 by the template 'for every input the law returns true; each argument reads behind the call as it read before'; 0 by the template 'total and deterministic' (their statements: YtkccmdnhcbhajaaTotals.lean).
  GIVEN WITH THE SEED: the statements are not yours to turn. If you find one false, say at which input.
  Laid BY PROGRAM, IN A SANDBOX (cutbox-rows.mjs): the forced cells as the released guide's own fill.sh prints them over the translation 750358a8fff1c716… (all of the seat's roots in one cut). By AI agents, Wed Nov 11 2026. No macro, syntax, notation, axiom, sorry.
-/
import Derived.Test.YtkccmdnhcbhajaaChecked
import GoSem.Claim
import GoSem.ClaimJoined
import GoSem.ClaimMapViews
import Derived.JoinedTies
import Derived.KernelRfl
namespace Go.Proofs.Ytkccmdnhcbhajaa
/- THE CELL 'sum', in the pinned program and in every row, IS THE sha256 OF THE DUMP (.gsa) THAT YtkccmdnhcbhajaaProg.lean LOADS. Nothing in Lean hashes anything: it is a label: what it is worth is what the hold of that sum in a sandbox is worth. -/
noncomputable def Try.pinned : Pinned := { name := "ytkccmdnhcbhajaa", sum := "750358a8fff1c716d71c19129c669c1ed4a53e90a638fe1d21696b5228be091b", checked := Try.checked }
namespace Rows
def none {H : Type} : Left H := { results := [], args := [] }

/-- 'inkwelllaw12.DeltaPuts': WHATEVER THE INPUT: true; the input reads as it did. -/
def deltaPutsSpec : ChangeSpec := { name := "deltaPuts", fn := fun _ => fun
  | [d] => { results := [.lit (.bool true)], args := [d] }
  | _ => none }
def deltaPutsRow : OpenClaim := { program := "ytkccmdnhcbhajaa", sum := "750358a8fff1c716d71c19129c669c1ed4a53e90a638fe1d21696b5228be091b", func := "inkwell/inkwelllaw12.DeltaPuts", spec := "deltaPuts", unfollowed := true, recurses := true, apart := false }
def DeltaPutsSaid : Prop := deltaPutsRow.holds Try.pinned (OpenSpec.ofChange deltaPutsSpec)

/-- ITS FALSE NEIGHBOUR: 'it returns false'. Refute it at one input. -/
def deltaPutsWrong : ChangeSpec := { name := "deltaPuts", fn := fun _ => fun
  | [d] => { results := [.lit (.bool false)], args := [d] }
  | _ => none }
def DeltaPutsWrongFalsely : Prop := deltaPutsRow.holds Try.pinned (OpenSpec.ofChange deltaPutsWrong)

/-- 'inkwelllaw12.DeltaBack': WHATEVER THE INPUT: true; the input reads as it did. -/
def deltaBackSpec : ChangeSpec := { name := "deltaBack", fn := fun _ => fun
  | [d] => { results := [.lit (.bool true)], args := [d] }
  | _ => none }
def deltaBackRow : OpenClaim := { program := "ytkccmdnhcbhajaa", sum := "750358a8fff1c716d71c19129c669c1ed4a53e90a638fe1d21696b5228be091b", func := "inkwell/inkwelllaw12.DeltaBack", spec := "deltaBack", unfollowed := true, recurses := true, apart := false }
def DeltaBackSaid : Prop := deltaBackRow.holds Try.pinned (OpenSpec.ofChange deltaBackSpec)

/-- ITS FALSE NEIGHBOUR: 'it returns false'. Refute it at one input. -/
def deltaBackWrong : ChangeSpec := { name := "deltaBack", fn := fun _ => fun
  | [d] => { results := [.lit (.bool false)], args := [d] }
  | _ => none }
def DeltaBackWrongFalsely : Prop := deltaBackRow.holds Try.pinned (OpenSpec.ofChange deltaBackWrong)

/-- 'inkwelllaw12.DeltaRow': WHATEVER THE INPUT: true; the input reads as it did. -/
def deltaRowSpec : ChangeSpec := { name := "deltaRow", fn := fun _ => fun
  | [d1, d2] => { results := [.lit (.bool true)], args := [d1, d2] }
  | _ => none }
def deltaRowRow : OpenClaim := { program := "ytkccmdnhcbhajaa", sum := "750358a8fff1c716d71c19129c669c1ed4a53e90a638fe1d21696b5228be091b", func := "inkwell/inkwelllaw12.DeltaRow", spec := "deltaRow", unfollowed := true, recurses := true, apart := false }
def DeltaRowSaid : Prop := deltaRowRow.holds Try.pinned (OpenSpec.ofChange deltaRowSpec)

/-- ITS FALSE NEIGHBOUR: 'it returns false'. Refute it at one input. -/
def deltaRowWrong : ChangeSpec := { name := "deltaRow", fn := fun _ => fun
  | [d1, d2] => { results := [.lit (.bool false)], args := [d1, d2] }
  | _ => none }
def DeltaRowWrongFalsely : Prop := deltaRowRow.holds Try.pinned (OpenSpec.ofChange deltaRowWrong)

/-- 'inkwelllaw12.DeltaSame': WHATEVER THE INPUT: true; the input reads as it did. -/
def deltaSameSpec : ChangeSpec := { name := "deltaSame", fn := fun _ => fun
  | [d1, d2] => { results := [.lit (.bool true)], args := [d1, d2] }
  | _ => none }
def deltaSameRow : OpenClaim := { program := "ytkccmdnhcbhajaa", sum := "750358a8fff1c716d71c19129c669c1ed4a53e90a638fe1d21696b5228be091b", func := "inkwell/inkwelllaw12.DeltaSame", spec := "deltaSame", unfollowed := true, recurses := true, apart := false }
def DeltaSameSaid : Prop := deltaSameRow.holds Try.pinned (OpenSpec.ofChange deltaSameSpec)

/-- ITS FALSE NEIGHBOUR: 'it returns false'. Refute it at one input. -/
def deltaSameWrong : ChangeSpec := { name := "deltaSame", fn := fun _ => fun
  | [d1, d2] => { results := [.lit (.bool false)], args := [d1, d2] }
  | _ => none }
def DeltaSameWrongFalsely : Prop := deltaSameRow.holds Try.pinned (OpenSpec.ofChange deltaSameWrong)

/-- 'inkwelllaw14.ValuePuts': WHATEVER THE INPUT: true; the input reads as it did. -/
def valuePutsSpec : ChangeSpec := { name := "valuePuts", fn := fun _ => fun
  | [d1, d2] => { results := [.lit (.bool true)], args := [d1, d2] }
  | _ => none }
def valuePutsRow : OpenClaim := { program := "ytkccmdnhcbhajaa", sum := "750358a8fff1c716d71c19129c669c1ed4a53e90a638fe1d21696b5228be091b", func := "inkwell/inkwelllaw14.ValuePuts", spec := "valuePuts", unfollowed := true, recurses := true, apart := false }
def ValuePutsSaid : Prop := valuePutsRow.holds Try.pinned (OpenSpec.ofChange valuePutsSpec)

/-- ITS FALSE NEIGHBOUR: 'it returns false'. Refute it at one input. -/
def valuePutsWrong : ChangeSpec := { name := "valuePuts", fn := fun _ => fun
  | [d1, d2] => { results := [.lit (.bool false)], args := [d1, d2] }
  | _ => none }
def ValuePutsWrongFalsely : Prop := valuePutsRow.holds Try.pinned (OpenSpec.ofChange valuePutsWrong)

/-- 'inkwelllaw14.ValueGets': WHATEVER THE INPUT: true; the input reads as it did. -/
def valueGetsSpec : ChangeSpec := { name := "valueGets", fn := fun _ => fun
  | [d1, d2] => { results := [.lit (.bool true)], args := [d1, d2] }
  | _ => none }
def valueGetsRow : OpenClaim := { program := "ytkccmdnhcbhajaa", sum := "750358a8fff1c716d71c19129c669c1ed4a53e90a638fe1d21696b5228be091b", func := "inkwell/inkwelllaw14.ValueGets", spec := "valueGets", unfollowed := true, recurses := true, apart := false }
def ValueGetsSaid : Prop := valueGetsRow.holds Try.pinned (OpenSpec.ofChange valueGetsSpec)

/-- ITS FALSE NEIGHBOUR: 'it returns false'. Refute it at one input. -/
def valueGetsWrong : ChangeSpec := { name := "valueGets", fn := fun _ => fun
  | [d1, d2] => { results := [.lit (.bool false)], args := [d1, d2] }
  | _ => none }
def ValueGetsWrongFalsely : Prop := valueGetsRow.holds Try.pinned (OpenSpec.ofChange valueGetsWrong)

/-- 'inkwelllaw14.ValueBack': WHATEVER THE INPUT: true; the input reads as it did. -/
def valueBackSpec : ChangeSpec := { name := "valueBack", fn := fun _ => fun
  | [d1, d2, d3] => { results := [.lit (.bool true)], args := [d1, d2, d3] }
  | _ => none }
def valueBackRow : OpenClaim := { program := "ytkccmdnhcbhajaa", sum := "750358a8fff1c716d71c19129c669c1ed4a53e90a638fe1d21696b5228be091b", func := "inkwell/inkwelllaw14.ValueBack", spec := "valueBack", unfollowed := true, recurses := true, apart := false }
def ValueBackSaid : Prop := valueBackRow.holds Try.pinned (OpenSpec.ofChange valueBackSpec)

/-- ITS FALSE NEIGHBOUR: 'it returns false'. Refute it at one input. -/
def valueBackWrong : ChangeSpec := { name := "valueBack", fn := fun _ => fun
  | [d1, d2, d3] => { results := [.lit (.bool false)], args := [d1, d2, d3] }
  | _ => none }
def ValueBackWrongFalsely : Prop := valueBackRow.holds Try.pinned (OpenSpec.ofChange valueBackWrong)

/-- 'inkwelllaw14.ValueApart': WHATEVER THE INPUT: true; the input reads as it did. -/
def valueApartSpec : ChangeSpec := { name := "valueApart", fn := fun _ => fun
  | [d1, d2] => { results := [.lit (.bool true)], args := [d1, d2] }
  | _ => none }
def valueApartRow : OpenClaim := { program := "ytkccmdnhcbhajaa", sum := "750358a8fff1c716d71c19129c669c1ed4a53e90a638fe1d21696b5228be091b", func := "inkwell/inkwelllaw14.ValueApart", spec := "valueApart", unfollowed := true, recurses := true, apart := false }
def ValueApartSaid : Prop := valueApartRow.holds Try.pinned (OpenSpec.ofChange valueApartSpec)

/-- ITS FALSE NEIGHBOUR: 'it returns false'. Refute it at one input. -/
def valueApartWrong : ChangeSpec := { name := "valueApart", fn := fun _ => fun
  | [d1, d2] => { results := [.lit (.bool false)], args := [d1, d2] }
  | _ => none }
def ValueApartWrongFalsely : Prop := valueApartRow.holds Try.pinned (OpenSpec.ofChange valueApartWrong)

/-- 'inkwelllaw14.ValueFew': WHATEVER THE INPUT: true; the input reads as it did. -/
def valueFewSpec : ChangeSpec := { name := "valueFew", fn := fun _ => fun
  | [d] => { results := [.lit (.bool true)], args := [d] }
  | _ => none }
def valueFewRow : OpenClaim := { program := "ytkccmdnhcbhajaa", sum := "750358a8fff1c716d71c19129c669c1ed4a53e90a638fe1d21696b5228be091b", func := "inkwell/inkwelllaw14.ValueFew", spec := "valueFew", unfollowed := true, recurses := true, apart := false }
def ValueFewSaid : Prop := valueFewRow.holds Try.pinned (OpenSpec.ofChange valueFewSpec)

/-- ITS FALSE NEIGHBOUR: 'it returns false'. Refute it at one input. -/
def valueFewWrong : ChangeSpec := { name := "valueFew", fn := fun _ => fun
  | [d] => { results := [.lit (.bool false)], args := [d] }
  | _ => none }
def ValueFewWrongFalsely : Prop := valueFewRow.holds Try.pinned (OpenSpec.ofChange valueFewWrong)

/- THE SECOND FORM. 'bulk': how many values and letters a reading holds, each counted each time it is reached (what is shared counts as often as it is met; a slice's spare places count too). A statement '..UptoSaid' is the law's where the arguments, and the package variables that the reading takes, are together of bulk at most 1048576: NARROWER than '..Said'. Prove '..Said' where nothing that the law and all that it calls make is longer than what came in: it says more and counts as full. Else prove '..UptoSaid'. A law counts once. -/
mutual
def uptoBulk {H : Type} : DataW H → Nat
  | .lit (.string bytes) => bytes.length + 1
  | .lit _ => 1
  | .nil => 1
  | .ptr d => uptoBulk d + 1
  | .slice elems spare => uptoBulkAll elems + uptoBulkAll spare + 1
  | .agg parts => uptoBulkAll parts + 1
  | .iface _ d => uptoBulk d + 1
  | .map entries => uptoBulkEntries entries + 1
  | .held _ => 1
def uptoBulkAll {H : Type} : List (DataW H) → Nat
  | [] => 0
  | d :: r => uptoBulk d + uptoBulkAll r
def uptoBulkEntries {H : Type} : List (Lit × DataW H) → Nat
  | [] => 0
  | x :: r => uptoBulkEntry x + uptoBulkEntries r
def uptoBulkEntry {H : Type} : Lit × DataW H → Nat
  | (.string bytes, d) => bytes.length + uptoBulk d + 1
  | (_, d) => uptoBulk d + 1
 end
def uptoSmall : (H : Type) → List (DataW H) → Bool := fun _ ds => decide (uptoBulkAll ds ≤ 1048576)
def OpenSpec.upto (s : _root_.Go.ChangeSpec) : _root_.Go.OpenSpec := { _root_.Go.OpenSpec.ofChange s with cond := some uptoSmall }

/-- 'inkwelllaw12.DeltaPuts', WHERE WHAT IT READS IS OF BULK AT MOST 1048576: true; the input reads as it did. -/
def deltaPutsUptoRow : OpenClaim := { program := "ytkccmdnhcbhajaa", sum := "750358a8fff1c716d71c19129c669c1ed4a53e90a638fe1d21696b5228be091b", func := "inkwell/inkwelllaw12.DeltaPuts", spec := "deltaPuts", unfollowed := true, recurses := true, apart := false, narrowed := true }
def DeltaPutsUptoSaid : Prop := deltaPutsUptoRow.holds Try.pinned (OpenSpec.upto deltaPutsSpec)

/-- 'inkwelllaw12.DeltaBack', WHERE WHAT IT READS IS OF BULK AT MOST 1048576: true; the input reads as it did. -/
def deltaBackUptoRow : OpenClaim := { program := "ytkccmdnhcbhajaa", sum := "750358a8fff1c716d71c19129c669c1ed4a53e90a638fe1d21696b5228be091b", func := "inkwell/inkwelllaw12.DeltaBack", spec := "deltaBack", unfollowed := true, recurses := true, apart := false, narrowed := true }
def DeltaBackUptoSaid : Prop := deltaBackUptoRow.holds Try.pinned (OpenSpec.upto deltaBackSpec)

/-- 'inkwelllaw12.DeltaRow', WHERE WHAT IT READS IS OF BULK AT MOST 1048576: true; the input reads as it did. -/
def deltaRowUptoRow : OpenClaim := { program := "ytkccmdnhcbhajaa", sum := "750358a8fff1c716d71c19129c669c1ed4a53e90a638fe1d21696b5228be091b", func := "inkwell/inkwelllaw12.DeltaRow", spec := "deltaRow", unfollowed := true, recurses := true, apart := false, narrowed := true }
def DeltaRowUptoSaid : Prop := deltaRowUptoRow.holds Try.pinned (OpenSpec.upto deltaRowSpec)

/-- 'inkwelllaw12.DeltaSame', WHERE WHAT IT READS IS OF BULK AT MOST 1048576: true; the input reads as it did. -/
def deltaSameUptoRow : OpenClaim := { program := "ytkccmdnhcbhajaa", sum := "750358a8fff1c716d71c19129c669c1ed4a53e90a638fe1d21696b5228be091b", func := "inkwell/inkwelllaw12.DeltaSame", spec := "deltaSame", unfollowed := true, recurses := true, apart := false, narrowed := true }
def DeltaSameUptoSaid : Prop := deltaSameUptoRow.holds Try.pinned (OpenSpec.upto deltaSameSpec)

/-- 'inkwelllaw14.ValuePuts', WHERE WHAT IT READS IS OF BULK AT MOST 1048576: true; the input reads as it did. -/
def valuePutsUptoRow : OpenClaim := { program := "ytkccmdnhcbhajaa", sum := "750358a8fff1c716d71c19129c669c1ed4a53e90a638fe1d21696b5228be091b", func := "inkwell/inkwelllaw14.ValuePuts", spec := "valuePuts", unfollowed := true, recurses := true, apart := false, narrowed := true }
def ValuePutsUptoSaid : Prop := valuePutsUptoRow.holds Try.pinned (OpenSpec.upto valuePutsSpec)

/-- 'inkwelllaw14.ValueGets', WHERE WHAT IT READS IS OF BULK AT MOST 1048576: true; the input reads as it did. -/
def valueGetsUptoRow : OpenClaim := { program := "ytkccmdnhcbhajaa", sum := "750358a8fff1c716d71c19129c669c1ed4a53e90a638fe1d21696b5228be091b", func := "inkwell/inkwelllaw14.ValueGets", spec := "valueGets", unfollowed := true, recurses := true, apart := false, narrowed := true }
def ValueGetsUptoSaid : Prop := valueGetsUptoRow.holds Try.pinned (OpenSpec.upto valueGetsSpec)

/-- 'inkwelllaw14.ValueBack', WHERE WHAT IT READS IS OF BULK AT MOST 1048576: true; the input reads as it did. -/
def valueBackUptoRow : OpenClaim := { program := "ytkccmdnhcbhajaa", sum := "750358a8fff1c716d71c19129c669c1ed4a53e90a638fe1d21696b5228be091b", func := "inkwell/inkwelllaw14.ValueBack", spec := "valueBack", unfollowed := true, recurses := true, apart := false, narrowed := true }
def ValueBackUptoSaid : Prop := valueBackUptoRow.holds Try.pinned (OpenSpec.upto valueBackSpec)

/-- 'inkwelllaw14.ValueApart', WHERE WHAT IT READS IS OF BULK AT MOST 1048576: true; the input reads as it did. -/
def valueApartUptoRow : OpenClaim := { program := "ytkccmdnhcbhajaa", sum := "750358a8fff1c716d71c19129c669c1ed4a53e90a638fe1d21696b5228be091b", func := "inkwell/inkwelllaw14.ValueApart", spec := "valueApart", unfollowed := true, recurses := true, apart := false, narrowed := true }
def ValueApartUptoSaid : Prop := valueApartUptoRow.holds Try.pinned (OpenSpec.upto valueApartSpec)

/-- 'inkwelllaw14.ValueFew', WHERE WHAT IT READS IS OF BULK AT MOST 1048576: true; the input reads as it did. -/
def valueFewUptoRow : OpenClaim := { program := "ytkccmdnhcbhajaa", sum := "750358a8fff1c716d71c19129c669c1ed4a53e90a638fe1d21696b5228be091b", func := "inkwell/inkwelllaw14.ValueFew", spec := "valueFew", unfollowed := true, recurses := true, apart := false, narrowed := true }
def ValueFewUptoSaid : Prop := valueFewUptoRow.holds Try.pinned (OpenSpec.upto valueFewSpec)

end Rows
end Go.Proofs.Ytkccmdnhcbhajaa
