/- Arguments laid open: what can be read as data, as rows. -/
import Derived.Test.YtiehijephkagbaaDoorZShaEndsRg
import Derived.Deep.Slices
import Derived.DataReads
import Derived.ChangeArms
namespace Go.Proofs.YtiehijephkagbaaDoor.Sl
open Go.RowKit Go.ChangeShapes Go.WideShapes Go.Deep
set_option linter.unusedVariables false
set_option linter.unusedSimpArgs false
def Opn {α : Type} (P : Program) (T : TypeId) (t : Fl α) (Ok : Hp → α → Prop) : Prop :=
  ∀ (H : Type) (enc : TypeId × Value → H) (w : World) (base : Nat) (spare : Nat → Bool) (held : Bool) (n : Nat) (cs : List Value) (y : DataW H × List MemPlace), DataW.trod enc P w base spare held n T cs = some y → ∃ x, cs = t.enc x ∧ Ok (hp w) x
theorem wf_u8 {x : Int} (h : (Lit.int .u8 x).wf = true) : 0 ≤ x ∧ x < 256 := by simp [Lit.wf] at h; rw [show IntKind.u8.min = 0 from rfl, show IntKind.u8.max = 255 from rfl] at h; omega
/-- A slice among an element's cells. -/
structure Sv where
  a : Option Addr
  n : Nat
  c : Nat
def Sv.v (s : Sv) : Value := .slice s.a s.n s.c
theorem Rd.sv {α : Type} {t : Fl α} {f : Hp} {v : Value} {xs : List α} (h : Rd t f v xs) : ∃ s : Sv, v = s.v := by obtain ⟨A, c, rfl, _⟩ := h; exact ⟨⟨A, _, c⟩, rfl⟩
end Go.Proofs.YtiehijephkagbaaDoor.Sl
