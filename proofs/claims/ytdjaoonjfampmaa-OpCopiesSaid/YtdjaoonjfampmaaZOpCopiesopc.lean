/- Copies of ops: what is stored into a copy's row. -/
import Derived.Test.YtdjaoonjfampmaaZOpCopiesopm
import Derived.Test.YtdjaoonjfampmaaZOpCopiesPw
namespace Go.Proofs.Ytdjaoonjfampmaa.Ops
open Go.RowKit Go.Proofs.Ytdjaoonjfampmaa.Sl Go.Proofs.Ytdjaoonjfampmaa.Val
set_option linter.unusedVariables false
theorem row_same {α : Type} {t : Fl α} {x : α} : ∀ {xs : List α} {q : Nat} {x0 : α}, xs[q]? = some x0 → t.enc x = t.enc x0 → t.row (xs.set q x) = t.row xs
  | [], q, x0, h, _ => by simp at h
  | a :: l, 0, x0, h, e => by
    obtain rfl : a = x0 := by simpa using h
    rw [List.set_cons_zero, Fl.row_cons, Fl.row_cons, e]
  | a :: l, q + 1, x0, h, e => by
    rw [List.set_cons_succ, Fl.row_cons, Fl.row_cons, row_same (by simpa using h) e]
def pw (c : Op) : Value × List Oid := (c.s.v, c.preds)
theorem pw_mem {cs : List Op} {c : Op} (h : c ∈ cs) : (c.s.v, c.preds) ∈ cs.map pw := List.mem_map_of_mem (f := pw) h
theorem pw_at {cs : List Op} {i : Nat} (h : i < cs.length) : (cs.map pw)[i]? = some ((cs.getD i Op.z).s.v, (cs.getD i Op.z).preds) := by
  rw [List.getElem?_map, List.getD_eq_getElem?_getD, List.getElem?_eq_getElem h]; rfl
theorem pw_set {cs : List Op} {i : Nat} {c : Op} : (cs.map pw).set i (c.s.v, c.preds) = (cs.set i c).map pw := (List.map_set).symm
theorem own_ghost {e : TypeId} {v : Value} {cs : List Op} {i : Nat} (h : i < cs.length) (ps : List Oid) :
    Own tOp e v (cs.set i { cs.getD i Op.z with preds := ps }) = Own tOp e v cs :=
  Own.ghost (by rw [List.length_set]) (row_same (getD_get Op.z h) rfl)
theorem copy_more {cs l : List Op} {c : Op} {i : Nat} (hc : cs.length = i) (h : ∀ j, j < i → SameP (cs.getD j Op.z) (l.getD j Op.z)) (h2 : SameP c (l.getD i Op.z)) :
    ∀ j, j < i + 1 → SameP ((cs ++ [c]).getD j Op.z) (l.getD j Op.z) := by
  intro j hj
  by_cases e : j = i
  · subst e; rw [List.getD_eq_getElem?_getD (l := cs ++ [c]), List.getElem?_append_right (by omega), hc, Nat.sub_self]; exact h2
  · have := h j (by omega)
    rwa [List.getD_eq_getElem?_getD (l := cs ++ [c]), List.getElem?_append_left (by omega), ← List.getD_eq_getElem?_getD]
theorem copies_len {cs l : List Op} (h : SameL cs l) (j : Nat) : (cs.getD j Op.z).preds.length = (l.getD j Op.z).preds.length := by
  by_cases hj : j < cs.length
  · rw [(h.2 j hj).2.2.2.2.2.2.2]
  · rw [List.getD_eq_getElem?_getD, List.getElem?_eq_none (by omega), List.getD_eq_getElem?_getD, List.getElem?_eq_none (by have := h.1; omega)]
theorem copies_set {cs l : List Op} {i k : Nat} {x : Oid} (h : ∀ j, (cs.getD j Op.z).preds.length = (l.getD j Op.z).preds.length) (j : Nat) :
    ((cs.set i { cs.getD i Op.z with preds := (cs.getD i Op.z).preds.set k x }).getD j Op.z).preds.length = (l.getD j Op.z).preds.length := by
  rw [← h j]
  by_cases hi : i < cs.length
  · by_cases e : i = j
    · subst e; rw [List.getD_eq_getElem?_getD, List.getElem?_set_self (by omega)]; simp only [Option.getD_some, List.length_set]
    · rw [List.getD_eq_getElem?_getD, List.getElem?_set_ne e, ← List.getD_eq_getElem?_getD]
  · rw [List.set_eq_of_length_le (by omega)]
end Go.Proofs.Ytdjaoonjfampmaa.Ops
