/- Runs read: what layer 11 reads of bytes, in lists. -/
import Derived.Test.YtdjaoonjfampmaaZRawPutsrlep
namespace Go.Proofs.Ytdjaoonjfampmaa.Rle
open Go.RowKit Go.Proofs.Ytdjaoonjfampmaa.Sl Go.Proofs.Ytdjaoonjfampmaa.Leb
set_option linter.unusedVariables false
set_option linter.unusedSimpArgs false
set_option linter.unusedSectionVars false
/-- How values are read: the value, how many bytes, which error. -/
structure Fg (α : Type) where
  z : α
  gt : List Int → α × Int × Int
def nG : Fg Cell := ⟨Cell.z, fun l => if (getU l).2.2 = 0 ∧ 9223372036854775807 < (getU l).1 then (Cell.z, 0, 4) else (⟨true, (getU l).1⟩, (getU l).2.1, (getU l).2.2)⟩
def sG : Fg Cell := ⟨Cell.z, fun l => (⟨true, (getS l).1⟩, (getS l).2.1, (getS l).2.2)⟩
def wG : Fg Word := ⟨Word.z, fun l => if (getU l).2.2 = 0 then (if (l.length : Int) - (getU l).2.1 < (getU l).1 then (Word.z, 0, 2) else (⟨true, bs ((l.take ((getU l).2.1.toNat + (getU l).1.toNat)).drop (getU l).2.1.toNat)⟩, (((getU l).2.1.toNat + (getU l).1.toNat : Nat) : Int), 0)) else (Word.z, 0, (getU l).2.2)⟩
/-- What a reading leaves. -/
def GOk {α : Type} (G : Fg α) : Prop := ∀ l, Bs l → ((G.gt l).2.2 = 0 → 1 ≤ (G.gt l).2.1 ∧ (G.gt l).2.1 ≤ l.length) ∧ 0 ≤ (G.gt l).2.2 ∧ (G.gt l).2.2 ≤ 4
section
variable {α : Type} [DecidableEq α] (G : Fg α) (M : Nat)
/-- So many items, as the loop reads them. -/
def itm (n : Int) : Nat → Nat → α → List Int → List α → Int ⊕ (List Int × List α)
  | 0, _, _, l, o => .inr (l, o)
  | r + 1, i, x, l, o =>
    if n < 0 ∨ (0 < n ∧ i = 0) then (if (G.gt l).2.2 = 0 then itm n r (i + 1) (G.gt l).1 (l.drop (G.gt l).2.1.toNat) (o ++ [(G.gt l).1]) else .inl (G.gt l).2.2)
    else itm n r (i + 1) x l (o ++ [x])
def step (l : List Int) (o : List α) : Int ⊕ (List Int × List α) :=
  if (getS l).2.2 = 0 then
    (if (getS l).1 = 0 then
      (if (getU (l.drop (getS l).2.1.toNat)).2.2 = 0 then
        (if M < o.length + (getU (l.drop (getS l).2.1.toNat)).1.toNat then .inl 4
         else itm G 0 (getU (l.drop (getS l).2.1.toNat)).1.toNat 0 G.z (l.drop ((getS l).2.1.toNat + (getU (l.drop (getS l).2.1.toNat)).2.1.toNat)) o)
       else .inl (getU (l.drop (getS l).2.1.toNat)).2.2)
     else if (getS l).1 < -4611686018427387904 ∨ M < o.length + (getS l).1.natAbs then .inl 4
     else itm G (getS l).1 (getS l).1.natAbs 0 G.z (l.drop (getS l).2.1.toNat) o)
  else .inl (getS l).2.2
def decf : Nat → List Int → List α → List α × Int
  | 0, _, o => (o, 0)
  | k + 1, l, o => if l = [] then (o, 0) else match step G M l o with
    | .inl e => ([], e)
    | .inr p => decf k p.1 p.2
def dec (l : List Int) (o : List α) : List α × Int := decf G M l.length l o
/-- What a reading answers. -/
def gtv (F : Fo α) (b : List Int) : List α × Int := if (dec G M b []).2 = 0 then (if put F (dec G M b []).1 = b then dec G M b [] else ([], 3)) else ([], (dec G M b []).2)
variable {G} {M}
/-! What was put is read -/
/-- Values that are read as they were put. -/
def Fits (F : Fo α) (G : Fg α) (l : List α) : Prop := (∀ x ∈ l, F.is x = false → x = G.z) ∧ ∀ x ∈ l, F.is x = true → Bs (F.pw x) ∧ ∀ rest, G.gt (F.pw x ++ rest) = (x, ((F.pw x).length : Int), 0)
theorem Fits.drop {F : Fo α} {l : List α} (h : Fits F G l) (n : Nat) : Fits F G (l.drop n) := ⟨fun x hx => h.1 x (List.mem_of_mem_drop hx), fun x hx => h.2 x (List.mem_of_mem_drop hx)⟩
end
/-! The three kinds -/
def NQ (x : Cell) : Prop := 0 ≤ x.n ∧ x.n < 9223372036854775808
def SQ (x : Cell) : Prop := -9223372036854775808 ≤ x.n ∧ x.n < 9223372036854775808
/-! The walk's steps -/
def mny (n : Int) : Int := IntKind.u64.wrap (max n (IntKind.i64.wrap (-n)))
section
variable {α : Type} [DecidableEq α] {G : Fg α} {M : Nat} {F : Fo α} {l : List Int} {o : List α} {n : Int} {r r' i a : Nat} {x : α}
end
theorem any_map {α β : Type} (F : Fo α) (F' : Fo β) (G : α → β) (h : ∀ a, F'.is (G a) = F.is a) (l : List α) : anyF F' (l.map G) = anyF F l := by
  unfold anyF; rw [List.any_map]; congr 1; funext a; exact h a
theorem put_len {α : Type} [DecidableEq α] (F : Fo α) (M : Nat) {l : List α} (hl : l.length ≤ 1000000) (h : ∀ x ∈ l, (F.pw x).length ≤ M) : (put F l).length ≤ (M + 11) * l.length := by
  unfold put; split
  · exact rl_len F M hl h
  · exact Nat.zero_le _
end Go.Proofs.Ytdjaoonjfampmaa.Rle
