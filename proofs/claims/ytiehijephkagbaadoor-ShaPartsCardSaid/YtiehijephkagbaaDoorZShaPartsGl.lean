/- The program's package-level arrays, as they lie in what is kept. -/
import Derived.Test.YtiehijephkagbaaDoorZShaPartsshb
namespace Go.Proofs.YtiehijephkagbaaDoor.Sha
open Go.RowKit Go.Proofs.YtiehijephkagbaaDoor.Sl
set_option linter.unusedVariables false
/-- Variable 0 holds the first words, variable 1 the rounds' keys. -/
structure GL (h : Hp) : Prop where
  g0 : ∀ j u, (ar .u32 beginL)[j]? = some u → h.cell ((⟨0, 0, none⟩ : Addr).add j) = some u
  g1 : ∀ j u, (ar .u32 keysL)[j]? = some u → h.cell ((⟨1, 0, none⟩ : Addr).add j) = some u
theorem GL.mono {g h : Hp} (G : GL g) (hl : g.le h) : GL h := ⟨fun j u e => hl.cell (G.g0 j u e), fun j u e => hl.cell (G.g1 j u e)⟩
theorem GL.key {w : World} {i : Nat} (G : GL (hp w)) (hi : i < 64) : w.cell? ⟨1, i, none⟩ = some (.int .u32 (keysL.getD i 0)) := by
  have h := G.g1 i _ (by have := ar_at (k := .u32) (xs := keysL) (tl := []) (i := i) (by show i < 64; exact hi); rw [List.append_nil] at this; exact this)
  have e : (⟨1, 0, none⟩ : Addr).add i = ⟨1, i, none⟩ := by cases i <;> simp [Addr.add]
  rw [e] at h; exact h
end Go.Proofs.YtiehijephkagbaaDoor.Sha
