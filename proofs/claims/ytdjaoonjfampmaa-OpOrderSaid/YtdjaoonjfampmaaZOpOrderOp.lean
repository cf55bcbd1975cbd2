/- Arguments laid open: what can be read as data, as rows. -/
import Derived.Test.YtdjaoonjfampmaaZOpOrderRg
import Derived.Deep.Slices
import Derived.DataReads
import Derived.ChangeArms
namespace Go.Proofs.Ytdjaoonjfampmaa.Sl
open Go.RowKit Go.ChangeShapes Go.WideShapes Go.Deep
set_option linter.unusedVariables false
set_option linter.unusedSimpArgs false
def Opn {α : Type} (P : Program) (T : TypeId) (t : Fl α) (Ok : Hp → α → Prop) : Prop :=
  ∀ (H : Type) (enc : TypeId × Value → H) (w : World) (base : Nat) (spare : Nat → Bool) (held : Bool) (n : Nat) (cs : List Value) (y : DataW H × List MemPlace), DataW.trod enc P w base spare held n T cs = some y → ∃ x, cs = t.enc x ∧ Ok (hp w) x
theorem opn_int {P : Program} {T : TypeId} {k : IntKind} (ht : P.underlying T = some (.int k)) : Opn P T (tI k) (fun _ x => (Lit.int k x).wf = true) := fun H enc w base sp held n cs y h => by
  obtain ⟨x, hc, _, hw⟩ := DataW.trod_int ht h
  exact ⟨x, hc, hw⟩
theorem opn_str {P : Program} {T : TypeId} (ht : P.underlying T = some .string) : Opn P T tS (fun _ s => s.size ≤ maxLen) := fun H enc w base sp held n cs y h => by
  obtain ⟨x, hc, _, hs⟩ := DataW.trod_string ht h
  exact ⟨x, hc, hs⟩
theorem wf_i64 {x : Int} (h : (Lit.int .i64 x).wf = true) : -9223372036854775808 ≤ x ∧ x < 9223372036854775808 := by have h1 : IntKind.i64.min = -9223372036854775808 := rfl; have h2 : IntKind.i64.max = 9223372036854775807 := rfl; simp [Lit.wf] at h; omega
/-- A slice among an element's cells. -/
structure Sv where
  a : Option Addr
  n : Nat
  c : Nat
def Sv.v (s : Sv) : Value := .slice s.a s.n s.c
theorem Rd.sv {α : Type} {t : Fl α} {f : Hp} {v : Value} {xs : List α} (h : Rd t f v xs) : ∃ s : Sv, v = s.v := by obtain ⟨A, c, rfl, _⟩ := h; exact ⟨⟨A, _, c⟩, rfl⟩
end Go.Proofs.Ytdjaoonjfampmaa.Sl
