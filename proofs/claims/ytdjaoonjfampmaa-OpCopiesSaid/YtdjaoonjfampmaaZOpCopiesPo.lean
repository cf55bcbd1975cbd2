/- Rows that lie in a row's elements: kept together, read alone. -/
import Derived.Test.YtdjaoonjfampmaaZOpCopiesOp
namespace Go.Proofs.Ytdjaoonjfampmaa.Sl
open Go.RowKit
set_option linter.unusedVariables false
set_option linter.unusedSimpArgs false
set_option linter.unusedSectionVars false
section
variable {w w' : World} {f : Fm} {rs : List Res} {r s : Res}
theorem Holds.merge (H : Holds w f (r :: s :: rs)) (u : Res) (hd : ∀ b, u.dom b → r.dom b ∨ s.dom b) (ho : r.ok (hp w) → s.ok (hp w) → u.ok (hp w)) : Holds w f (u :: rs) := by
  refine ⟨H.os, H.tape, H.out, H.kept, ?_, ?_, ?_⟩
  · intro x hx
    rcases List.mem_cons.1 hx with rfl | hx
    · exact ho (H.oks r (by simp)) (H.oks s (by simp))
    · exact H.oks x (by simp [hx])
  · intro x hx b hb
    rcases List.mem_cons.1 hx with rfl | hx
    · rcases hd b hb with h | h
      · exact H.free r (by simp) b h
      · exact H.free s (by simp) b h
    · exact H.free x (by simp [hx]) b hb
  · intro i j x y hne hi hj b hx hy
    cases i with
    | zero =>
      cases j with
      | zero => exact hne rfl
      | succ j =>
        simp at hi hj; subst hi
        rcases hd b hx with h | h
        · exact H.sep 0 (j + 2) r y (by omega) rfl (by simpa using hj) b h hy
        · exact H.sep 1 (j + 2) s y (by omega) rfl (by simpa using hj) b h hy
    | succ i =>
      cases j with
      | zero =>
        simp at hi hj; subst hj
        rcases hd b hy with h | h
        · exact H.sep 0 (i + 2) r x (by omega) rfl (by simpa using hi) b h hx
        · exact H.sep 1 (i + 2) s x (by omega) rfl (by simpa using hi) b h hx
      | succ j =>
        simp at hi hj
        exact H.sep (i + 2) (j + 2) x y (by omega) (by simpa using hi) (by simpa using hj) b hx hy
end
def Pool {α : Type} (t : Fl α) (ps : List (Value × List α)) : Res where
  dom b := ∃ p, p ∈ ps ∧ p.1.ownBlock = some b
  ok h := ∀ p, p ∈ ps → (OwnR t p.1 p.2).ok h
  loc := fun hl ho p hp => (OwnR t p.1 p.2).loc (fun b hb => hl b ⟨p, hp, hb⟩) (ho p hp)
  live := fun ho ⟨p, hp, hb⟩ => (OwnR t p.1 p.2).live (ho p hp) hb
section
variable {α : Type} {t : Fl α} {e : TypeId} {f : Hp} {v : Value} {xs : List α} {w w' : World} {fm : Fm} {rs : List Res} {i : Nat} {ps qs : List (Value × List α)}
theorem Pool.rd (h : (Pool t ps).ok f) {p : Value × List α} (hp : p ∈ ps) : Rd t f p.1 p.2 := OwnR.rd (h p hp)
end
def Sv.nil : Sv := ⟨none, 0, 0⟩
theorem Sv.one (s : Sv) : s.v.oneCell' = true := rfl
theorem mem_getD {α : Type} {d : α} {l : List α} {i : Nat} (h : i < l.length) : l.getD i d ∈ l := by
  rw [List.getD_eq_getElem?_getD, List.getElem?_eq_getElem h]; exact List.getElem_mem h
theorem take_getD {α : Type} (d : α) {l : List α} {i : Nat} (h : i < l.length) : l.take (i + 1) = l.take i ++ [l.getD i d] := by
  rw [List.getD_eq_getElem?_getD, List.getElem?_eq_getElem h, List.take_succ_eq_append_getElem h]; rfl
theorem drop_getD {α : Type} (d : α) {l : List α} {i : Nat} (h : i < l.length) : l.drop i = l.getD i d :: l.drop (i + 1) := by
  rw [List.getD_eq_getElem?_getD, List.getElem?_eq_getElem h]; exact List.drop_eq_getElem_cons h
end Go.Proofs.Ytdjaoonjfampmaa.Sl
