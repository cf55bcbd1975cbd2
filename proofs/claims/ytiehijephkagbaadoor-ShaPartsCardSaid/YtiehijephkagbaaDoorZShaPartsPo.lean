/- Rows that lie in a row's elements: kept together, read alone. -/
import Derived.Test.YtiehijephkagbaaDoorZShaPartsOp
namespace Go.Proofs.YtiehijephkagbaaDoor.Sl
open Go.RowKit
set_option linter.unusedVariables false
set_option linter.unusedSimpArgs false
set_option linter.unusedSectionVars false
section
variable {w w' : World} {f : Fm} {rs : List Res} {r s : Res}
end
def Pool {α : Type} (t : Fl α) (ps : List (Value × List α)) : Res where
  dom b := ∃ p, p ∈ ps ∧ p.1.ownBlock = some b
  ok h := ∀ p, p ∈ ps → (OwnR t p.1 p.2).ok h
  loc := fun hl ho p hp => (OwnR t p.1 p.2).loc (fun b hb => hl b ⟨p, hp, hb⟩) (ho p hp)
  live := fun ho ⟨p, hp, hb⟩ => (OwnR t p.1 p.2).live (ho p hp) hb
section
variable {α : Type} {t : Fl α} {e : TypeId} {f : Hp} {v : Value} {xs : List α} {w w' : World} {fm : Fm} {rs : List Res} {i : Nat} {ps qs : List (Value × List α)}
theorem Pool.rd (h : (Pool t ps).ok f) {p : Value × List α} (hp : p ∈ ps) : Rd t f p.1 p.2 := OwnR.rd (h p hp)
end
def Sv.nil : Sv := ⟨none, 0, 0⟩
theorem Sv.one (s : Sv) : s.v.oneCell' = true := rfl
theorem mem_getD {α : Type} {d : α} {l : List α} {i : Nat} (h : i < l.length) : l.getD i d ∈ l := by
  rw [List.getD_eq_getElem?_getD, List.getElem?_eq_getElem h]; exact List.getElem_mem h
theorem take_getD {α : Type} (d : α) {l : List α} {i : Nat} (h : i < l.length) : l.take (i + 1) = l.take i ++ [l.getD i d] := by
  rw [List.getD_eq_getElem?_getD, List.getElem?_eq_getElem h, List.take_succ_eq_append_getElem h]; rfl
theorem drop_getD {α : Type} (d : α) {l : List α} {i : Nat} (h : i < l.length) : l.drop i = l.getD i d :: l.drop (i + 1) := by
  rw [List.getD_eq_getElem?_getD, List.getElem?_eq_getElem h]; exact List.drop_eq_getElem_cons h
end Go.Proofs.YtiehijephkagbaaDoor.Sl
