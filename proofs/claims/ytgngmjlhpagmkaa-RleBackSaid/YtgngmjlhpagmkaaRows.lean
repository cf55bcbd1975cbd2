/-
  No cell of these rows narrows 'for every input' (looked for: loops, veiled, ifaces, maps, wideKeys, modest, calm, conditions, laid).
  DERIVED. THE GIVEN ROWS OF THIS SEAT. 9 by the template 'for every input the law returns true; each argument reads behind the call as it read before'; 0 by the template 'total and deterministic' (their statements: YtgngmjlhpagmkaaTotals.lean).
  GIVEN WITH THE SEED: the statements are not yours to turn. If you find one false, say at which input.
  Laid BY PROGRAM, IN A SANDBOX (cutbox-rows.mjs): the forced cells as the released guide's own fill.sh prints them over the translation facf1679c3915696… (all of the seat's roots in one cut). By AI agents, Wed Nov 11 2026. No macro, syntax, notation, axiom, sorry.
-/
import Derived.Test.YtgngmjlhpagmkaaChecked
import GoSem.Claim
import GoSem.ClaimJoined
import GoSem.ClaimMapViews
import Derived.JoinedTies
import Derived.KernelRfl
namespace Go.Proofs.Ytgngmjlhpagmkaa
/- THE CELL 'sum', in the pinned program and in every row, IS THE sha256 OF THE DUMP (.gsa) THAT YtgngmjlhpagmkaaProg.lean LOADS. Nothing in Lean hashes anything: it is a label: what it is worth is what the hold of that sum in a sandbox is worth. -/
noncomputable def Try.pinned : Pinned := { name := "ytgngmjlhpagmkaa", sum := "facf1679c391569693acdbddbf18d72bce4d7cfd066021d0358db6ffcc59c1c0", checked := Try.checked }
namespace Rows
def none {H : Type} : Left H := { results := [], args := [] }

/-- 'inkwelllaw16.DirSizes': WHATEVER THE INPUT: true; the input reads as it did. -/
def dirSizesSpec : ChangeSpec := { name := "dirSizes", fn := fun _ => fun
  | [d1, d2] => { results := [.lit (.bool true)], args := [d1, d2] }
  | _ => none }
def dirSizesRow : OpenClaim := { program := "ytgngmjlhpagmkaa", sum := "facf1679c391569693acdbddbf18d72bce4d7cfd066021d0358db6ffcc59c1c0", func := "inkwell/inkwelllaw16.DirSizes", spec := "dirSizes", apart := false }
def DirSizesSaid : Prop := dirSizesRow.holds Try.pinned (OpenSpec.ofChange dirSizesSpec)

/-- ITS FALSE NEIGHBOUR: 'it returns false'. Refute it at one input. -/
def dirSizesWrong : ChangeSpec := { name := "dirSizes", fn := fun _ => fun
  | [d1, d2] => { results := [.lit (.bool false)], args := [d1, d2] }
  | _ => none }
def DirSizesWrongFalsely : Prop := dirSizesRow.holds Try.pinned (OpenSpec.ofChange dirSizesWrong)

/-- 'inkwelllaw16.DirPuts': WHATEVER THE INPUT: true; the input reads as it did. -/
def dirPutsSpec : ChangeSpec := { name := "dirPuts", fn := fun _ => fun
  | [d1, d2, d3] => { results := [.lit (.bool true)], args := [d1, d2, d3] }
  | _ => none }
def dirPutsRow : OpenClaim := { program := "ytgngmjlhpagmkaa", sum := "facf1679c391569693acdbddbf18d72bce4d7cfd066021d0358db6ffcc59c1c0", func := "inkwell/inkwelllaw16.DirPuts", spec := "dirPuts", recurses := true, apart := false }
def DirPutsSaid : Prop := dirPutsRow.holds Try.pinned (OpenSpec.ofChange dirPutsSpec)

/-- ITS FALSE NEIGHBOUR: 'it returns false'. Refute it at one input. -/
def dirPutsWrong : ChangeSpec := { name := "dirPuts", fn := fun _ => fun
  | [d1, d2, d3] => { results := [.lit (.bool false)], args := [d1, d2, d3] }
  | _ => none }
def DirPutsWrongFalsely : Prop := dirPutsRow.holds Try.pinned (OpenSpec.ofChange dirPutsWrong)

/-- 'inkwelllaw11.RleSame': WHATEVER THE INPUT: true; the input reads as it did. -/
def rleSameSpec : ChangeSpec := { name := "rleSame", fn := fun _ => fun
  | [d1, d2] => { results := [.lit (.bool true)], args := [d1, d2] }
  | _ => none }
def rleSameRow : OpenClaim := { program := "ytgngmjlhpagmkaa", sum := "facf1679c391569693acdbddbf18d72bce4d7cfd066021d0358db6ffcc59c1c0", func := "inkwell/inkwelllaw11.RleSame", spec := "rleSame", unfollowed := true, recurses := true, apart := false }
def RleSameSaid : Prop := rleSameRow.holds Try.pinned (OpenSpec.ofChange rleSameSpec)

/-- ITS FALSE NEIGHBOUR: 'it returns false'. Refute it at one input. -/
def rleSameWrong : ChangeSpec := { name := "rleSame", fn := fun _ => fun
  | [d1, d2] => { results := [.lit (.bool false)], args := [d1, d2] }
  | _ => none }
def RleSameWrongFalsely : Prop := rleSameRow.holds Try.pinned (OpenSpec.ofChange rleSameWrong)

/-- 'inkwelllaw16.DirGets': WHATEVER THE INPUT: true; the input reads as it did. -/
def dirGetsSpec : ChangeSpec := { name := "dirGets", fn := fun _ => fun
  | [d] => { results := [.lit (.bool true)], args := [d] }
  | _ => none }
def dirGetsRow : OpenClaim := { program := "ytgngmjlhpagmkaa", sum := "facf1679c391569693acdbddbf18d72bce4d7cfd066021d0358db6ffcc59c1c0", func := "inkwell/inkwelllaw16.DirGets", spec := "dirGets", recurses := true, apart := false }
def DirGetsSaid : Prop := dirGetsRow.holds Try.pinned (OpenSpec.ofChange dirGetsSpec)

/-- ITS FALSE NEIGHBOUR: 'it returns false'. Refute it at one input. -/
def dirGetsWrong : ChangeSpec := { name := "dirGets", fn := fun _ => fun
  | [d] => { results := [.lit (.bool false)], args := [d] }
  | _ => none }
def DirGetsWrongFalsely : Prop := dirGetsRow.holds Try.pinned (OpenSpec.ofChange dirGetsWrong)

/-- 'inkwelllaw16.DirBack': WHATEVER THE INPUT: true; the input reads as it did. -/
def dirBackSpec : ChangeSpec := { name := "dirBack", fn := fun _ => fun
  | [d1, d2, d3, d4] => { results := [.lit (.bool true)], args := [d1, d2, d3, d4] }
  | _ => none }
def dirBackRow : OpenClaim := { program := "ytgngmjlhpagmkaa", sum := "facf1679c391569693acdbddbf18d72bce4d7cfd066021d0358db6ffcc59c1c0", func := "inkwell/inkwelllaw16.DirBack", spec := "dirBack", apart := false }
def DirBackSaid : Prop := dirBackRow.holds Try.pinned (OpenSpec.ofChange dirBackSpec)

/-- ITS FALSE NEIGHBOUR: 'it returns false'. Refute it at one input. -/
def dirBackWrong : ChangeSpec := { name := "dirBack", fn := fun _ => fun
  | [d1, d2, d3, d4] => { results := [.lit (.bool false)], args := [d1, d2, d3, d4] }
  | _ => none }
def DirBackWrongFalsely : Prop := dirBackRow.holds Try.pinned (OpenSpec.ofChange dirBackWrong)

/-- 'inkwelllaw16.DirOnce': WHATEVER THE INPUT: true; the input reads as it did. -/
def dirOnceSpec : ChangeSpec := { name := "dirOnce", fn := fun _ => fun
  | [d] => { results := [.lit (.bool true)], args := [d] }
  | _ => none }
def dirOnceRow : OpenClaim := { program := "ytgngmjlhpagmkaa", sum := "facf1679c391569693acdbddbf18d72bce4d7cfd066021d0358db6ffcc59c1c0", func := "inkwell/inkwelllaw16.DirOnce", spec := "dirOnce", apart := false }
def DirOnceSaid : Prop := dirOnceRow.holds Try.pinned (OpenSpec.ofChange dirOnceSpec)

/-- ITS FALSE NEIGHBOUR: 'it returns false'. Refute it at one input. -/
def dirOnceWrong : ChangeSpec := { name := "dirOnce", fn := fun _ => fun
  | [d] => { results := [.lit (.bool false)], args := [d] }
  | _ => none }
def DirOnceWrongFalsely : Prop := dirOnceRow.holds Try.pinned (OpenSpec.ofChange dirOnceWrong)

/-- 'inkwelllaw11.RlePuts': WHATEVER THE INPUT: true; the input reads as it did. -/
def rlePutsSpec : ChangeSpec := { name := "rlePuts", fn := fun _ => fun
  | [d1, d2] => { results := [.lit (.bool true)], args := [d1, d2] }
  | _ => none }
def rlePutsRow : OpenClaim := { program := "ytgngmjlhpagmkaa", sum := "facf1679c391569693acdbddbf18d72bce4d7cfd066021d0358db6ffcc59c1c0", func := "inkwell/inkwelllaw11.RlePuts", spec := "rlePuts", unfollowed := true, recurses := true, apart := false }
def RlePutsSaid : Prop := rlePutsRow.holds Try.pinned (OpenSpec.ofChange rlePutsSpec)

/-- ITS FALSE NEIGHBOUR: 'it returns false'. Refute it at one input. -/
def rlePutsWrong : ChangeSpec := { name := "rlePuts", fn := fun _ => fun
  | [d1, d2] => { results := [.lit (.bool false)], args := [d1, d2] }
  | _ => none }
def RlePutsWrongFalsely : Prop := rlePutsRow.holds Try.pinned (OpenSpec.ofChange rlePutsWrong)

/-- 'inkwelllaw11.RleBack': WHATEVER THE INPUT: true; the input reads as it did. -/
def rleBackSpec : ChangeSpec := { name := "rleBack", fn := fun _ => fun
  | [d1, d2] => { results := [.lit (.bool true)], args := [d1, d2] }
  | _ => none }
def rleBackRow : OpenClaim := { program := "ytgngmjlhpagmkaa", sum := "facf1679c391569693acdbddbf18d72bce4d7cfd066021d0358db6ffcc59c1c0", func := "inkwell/inkwelllaw11.RleBack", spec := "rleBack", unfollowed := true, recurses := true, apart := false }
def RleBackSaid : Prop := rleBackRow.holds Try.pinned (OpenSpec.ofChange rleBackSpec)

/-- ITS FALSE NEIGHBOUR: 'it returns false'. Refute it at one input. -/
def rleBackWrong : ChangeSpec := { name := "rleBack", fn := fun _ => fun
  | [d1, d2] => { results := [.lit (.bool false)], args := [d1, d2] }
  | _ => none }
def RleBackWrongFalsely : Prop := rleBackRow.holds Try.pinned (OpenSpec.ofChange rleBackWrong)

/-- 'inkwelllaw11.RleOnce': WHATEVER THE INPUT: true; the input reads as it did. -/
def rleOnceSpec : ChangeSpec := { name := "rleOnce", fn := fun _ => fun
  | [d] => { results := [.lit (.bool true)], args := [d] }
  | _ => none }
def rleOnceRow : OpenClaim := { program := "ytgngmjlhpagmkaa", sum := "facf1679c391569693acdbddbf18d72bce4d7cfd066021d0358db6ffcc59c1c0", func := "inkwell/inkwelllaw11.RleOnce", spec := "rleOnce", unfollowed := true, recurses := true, apart := false }
def RleOnceSaid : Prop := rleOnceRow.holds Try.pinned (OpenSpec.ofChange rleOnceSpec)

/-- ITS FALSE NEIGHBOUR: 'it returns false'. Refute it at one input. -/
def rleOnceWrong : ChangeSpec := { name := "rleOnce", fn := fun _ => fun
  | [d] => { results := [.lit (.bool false)], args := [d] }
  | _ => none }
def RleOnceWrongFalsely : Prop := rleOnceRow.holds Try.pinned (OpenSpec.ofChange rleOnceWrong)

/- THE SECOND FORM. 'bulk': how many values and letters a reading holds, each counted each time it is reached (what is shared counts as often as it is met; a slice's spare places count too). A statement '..UptoSaid' is the law's where the arguments, and the package variables that the reading takes, are together of bulk at most 1048576: NARROWER than '..Said'. Prove '..Said' where nothing that the law and all that it calls make is longer than what came in: it says more and counts as full. Else prove '..UptoSaid'. A law counts once. -/
mutual
def uptoBulk {H : Type} : DataW H → Nat
  | .lit (.string bytes) => bytes.length + 1
  | .lit _ => 1
  | .nil => 1
  | .ptr d => uptoBulk d + 1
  | .slice elems spare => uptoBulkAll elems + uptoBulkAll spare + 1
  | .agg parts => uptoBulkAll parts + 1
  | .iface _ d => uptoBulk d + 1
  | .map entries => uptoBulkEntries entries + 1
  | .held _ => 1
def uptoBulkAll {H : Type} : List (DataW H) → Nat
  | [] => 0
  | d :: r => uptoBulk d + uptoBulkAll r
def uptoBulkEntries {H : Type} : List (Lit × DataW H) → Nat
  | [] => 0
  | x :: r => uptoBulkEntry x + uptoBulkEntries r
def uptoBulkEntry {H : Type} : Lit × DataW H → Nat
  | (.string bytes, d) => bytes.length + uptoBulk d + 1
  | (_, d) => uptoBulk d + 1
 end
def uptoSmall : (H : Type) → List (DataW H) → Bool := fun _ ds => decide (uptoBulkAll ds ≤ 1048576)
def OpenSpec.upto (s : _root_.Go.ChangeSpec) : _root_.Go.OpenSpec := { _root_.Go.OpenSpec.ofChange s with cond := some uptoSmall }

/-- 'inkwelllaw16.DirSizes', WHERE WHAT IT READS IS OF BULK AT MOST 1048576: true; the input reads as it did. -/
def dirSizesUptoRow : OpenClaim := { program := "ytgngmjlhpagmkaa", sum := "facf1679c391569693acdbddbf18d72bce4d7cfd066021d0358db6ffcc59c1c0", func := "inkwell/inkwelllaw16.DirSizes", spec := "dirSizes", apart := false, narrowed := true }
def DirSizesUptoSaid : Prop := dirSizesUptoRow.holds Try.pinned (OpenSpec.upto dirSizesSpec)

/-- 'inkwelllaw16.DirPuts', WHERE WHAT IT READS IS OF BULK AT MOST 1048576: true; the input reads as it did. -/
def dirPutsUptoRow : OpenClaim := { program := "ytgngmjlhpagmkaa", sum := "facf1679c391569693acdbddbf18d72bce4d7cfd066021d0358db6ffcc59c1c0", func := "inkwell/inkwelllaw16.DirPuts", spec := "dirPuts", recurses := true, apart := false, narrowed := true }
def DirPutsUptoSaid : Prop := dirPutsUptoRow.holds Try.pinned (OpenSpec.upto dirPutsSpec)

/-- 'inkwelllaw11.RleSame', WHERE WHAT IT READS IS OF BULK AT MOST 1048576: true; the input reads as it did. -/
def rleSameUptoRow : OpenClaim := { program := "ytgngmjlhpagmkaa", sum := "facf1679c391569693acdbddbf18d72bce4d7cfd066021d0358db6ffcc59c1c0", func := "inkwell/inkwelllaw11.RleSame", spec := "rleSame", unfollowed := true, recurses := true, apart := false, narrowed := true }
def RleSameUptoSaid : Prop := rleSameUptoRow.holds Try.pinned (OpenSpec.upto rleSameSpec)

/-- 'inkwelllaw16.DirGets', WHERE WHAT IT READS IS OF BULK AT MOST 1048576: true; the input reads as it did. -/
def dirGetsUptoRow : OpenClaim := { program := "ytgngmjlhpagmkaa", sum := "facf1679c391569693acdbddbf18d72bce4d7cfd066021d0358db6ffcc59c1c0", func := "inkwell/inkwelllaw16.DirGets", spec := "dirGets", recurses := true, apart := false, narrowed := true }
def DirGetsUptoSaid : Prop := dirGetsUptoRow.holds Try.pinned (OpenSpec.upto dirGetsSpec)

/-- 'inkwelllaw16.DirBack', WHERE WHAT IT READS IS OF BULK AT MOST 1048576: true; the input reads as it did. -/
def dirBackUptoRow : OpenClaim := { program := "ytgngmjlhpagmkaa", sum := "facf1679c391569693acdbddbf18d72bce4d7cfd066021d0358db6ffcc59c1c0", func := "inkwell/inkwelllaw16.DirBack", spec := "dirBack", apart := false, narrowed := true }
def DirBackUptoSaid : Prop := dirBackUptoRow.holds Try.pinned (OpenSpec.upto dirBackSpec)

/-- 'inkwelllaw16.DirOnce', WHERE WHAT IT READS IS OF BULK AT MOST 1048576: true; the input reads as it did. -/
def dirOnceUptoRow : OpenClaim := { program := "ytgngmjlhpagmkaa", sum := "facf1679c391569693acdbddbf18d72bce4d7cfd066021d0358db6ffcc59c1c0", func := "inkwell/inkwelllaw16.DirOnce", spec := "dirOnce", apart := false, narrowed := true }
def DirOnceUptoSaid : Prop := dirOnceUptoRow.holds Try.pinned (OpenSpec.upto dirOnceSpec)

/-- 'inkwelllaw11.RlePuts', WHERE WHAT IT READS IS OF BULK AT MOST 1048576: true; the input reads as it did. -/
def rlePutsUptoRow : OpenClaim := { program := "ytgngmjlhpagmkaa", sum := "facf1679c391569693acdbddbf18d72bce4d7cfd066021d0358db6ffcc59c1c0", func := "inkwell/inkwelllaw11.RlePuts", spec := "rlePuts", unfollowed := true, recurses := true, apart := false, narrowed := true }
def RlePutsUptoSaid : Prop := rlePutsUptoRow.holds Try.pinned (OpenSpec.upto rlePutsSpec)

/-- 'inkwelllaw11.RleBack', WHERE WHAT IT READS IS OF BULK AT MOST 1048576: true; the input reads as it did. -/
def rleBackUptoRow : OpenClaim := { program := "ytgngmjlhpagmkaa", sum := "facf1679c391569693acdbddbf18d72bce4d7cfd066021d0358db6ffcc59c1c0", func := "inkwell/inkwelllaw11.RleBack", spec := "rleBack", unfollowed := true, recurses := true, apart := false, narrowed := true }
def RleBackUptoSaid : Prop := rleBackUptoRow.holds Try.pinned (OpenSpec.upto rleBackSpec)

/-- 'inkwelllaw11.RleOnce', WHERE WHAT IT READS IS OF BULK AT MOST 1048576: true; the input reads as it did. -/
def rleOnceUptoRow : OpenClaim := { program := "ytgngmjlhpagmkaa", sum := "facf1679c391569693acdbddbf18d72bce4d7cfd066021d0358db6ffcc59c1c0", func := "inkwell/inkwelllaw11.RleOnce", spec := "rleOnce", unfollowed := true, recurses := true, apart := false, narrowed := true }
def RleOnceUptoSaid : Prop := rleOnceUptoRow.holds Try.pinned (OpenSpec.upto rleOnceSpec)

end Rows
end Go.Proofs.Ytgngmjlhpagmkaa
