/- Rows of rows of bytes laid open. -/
import Derived.Test.YtiehijephkagbaaDoorZShaPartsPbs
import Derived.Test.YtiehijephkagbaaDoorProg
namespace Go.Proofs.YtiehijephkagbaaDoor.Sha
open Go.RowKit Go.ChangeShapes Go.WideShapes Go.Deep Go.Proofs.YtiehijephkagbaaDoor.Sl
set_option linter.unusedVariables false
theorem opn_pb : Opn Tryd.prog 22 tPb (fun h x => Rd (tI .u8) h x.s.v x.b ∧ ∀ y ∈ x.b, (Lit.int .u8 y).wf = true) := fun H enc w base sp held n cs y h => by
  have hc : Tryd.prog.cellsOf 22 = 1 := by kernel_rfl
  rcases open_slice Tryd.underlying22 h with ⟨hcs, _⟩ | ⟨a, len, cap, m, n', D, Pl, hcs, _, hl, hm, hmm, _, hi⟩
  · refine ⟨⟨Sv.nil, []⟩, ?_, Rd.nil, fun _ h => (List.not_mem_nil h).elim⟩
    exact hcs
  · obtain ⟨xs, rd, ok⟩ := opn_slice Tryd.underlying22 (by kernel_rfl) (opn_int Tryd.underlying5) (hcs ▸ h)
    obtain ⟨s, hs⟩ := rd.sv
    refine ⟨⟨s, xs⟩, ?_, by rw [← hs]; exact rd, ok⟩
    show cs = [s.v]
    rw [← hs, hcs]
end Go.Proofs.YtiehijephkagbaaDoor.Sha
