/- Runs: a column as runs of like cells, of none, and cells of their own; what layer 11 says, in lists. -/
import Derived.Test.YtdjaoonjfampmaaZRawNullsSq
import Derived.Test.YtdjaoonjfampmaaZRawNullslebn
namespace Go.Proofs.Ytdjaoonjfampmaa.Rle
open Go.RowKit Go.Proofs.Ytdjaoonjfampmaa.Sl Go.Proofs.Ytdjaoonjfampmaa.Leb
set_option linter.unusedVariables false
set_option linter.unusedSimpArgs false
set_option linter.unusedSectionVars false
structure Cell where
  is : Bool
  n : Int
  deriving DecidableEq
def Cell.z : Cell := ⟨false, 0⟩
def tCell : Fl Cell := ⟨2, fun c => [.bool c.is, .int .i64 c.n], fun _ => rfl, fun c u h => by
  simp only [List.mem_cons, List.not_mem_nil, or_false] at h
  rcases h with rfl | rfl <;> rfl, by decide⟩
/-- A word, or a cell as the reference has it. -/
structure Word where
  is : Bool
  s : ByteArray
  deriving DecidableEq
def Word.z : Word := ⟨false, ByteArray.empty⟩
def tWord : Fl Word := ⟨2, fun c => [.bool c.is, .string c.s], fun _ => rfl, fun c u h => by
  simp only [List.mem_cons, List.not_mem_nil, or_false] at h
  rcases h with rfl | rfl <;> rfl, by decide⟩
/-- How values are told. -/
structure Fo (α : Type) where
  is : α → Bool
  pw : α → List Int
section
variable {α : Type} [DecidableEq α]
/-- How many like x a list begins with. -/
def rn (x : α) : List α → Nat
  | [] => 0
  | y :: l => if y = x then rn x l + 1 else 0
theorem rn_le (x : α) : ∀ l : List α, rn x l ≤ l.length
  | [] => Nat.le_refl _
  | y :: l => by
    unfold rn; have := rn_le x l
    split <;> simp <;> omega
/-- How many a list begins with that have a value and stand alone. -/
def lit (F : Fo α) : List α → Nat
  | [] => 0
  | y :: l => if F.is y = true ∧ rn y l = 0 then lit F l + 1 else 0
theorem lit_le (F : Fo α) : ∀ l : List α, lit F l ≤ l.length
  | [] => Nat.le_refl _
  | y :: l => by
    unfold lit; have := lit_le F l
    split <;> simp <;> omega
def rlf (F : Fo α) : Nat → List α → List Int
  | 0, _ => []
  | _, [] => []
  | k + 1, x :: l =>
    if F.is x = false then 0 :: (uB (rn x l + 1) ++ rlf F k (l.drop (rn x l)))
    else if 0 < rn x l then sB ((rn x l : Int) + 1) ++ (F.pw x ++ rlf F k (l.drop (rn x l)))
    else sB (-((lit F l : Int) + 1)) ++ ((x :: l.take (lit F l)).flatMap F.pw ++ rlf F k (l.drop (lit F l)))
theorem rlf_fuel (F : Fo α) : ∀ (k j : Nat) (l : List α), l.length ≤ k → l.length ≤ j → rlf F k l = rlf F j l
  | 0, 0, _, _, _ => rfl
  | 0, j + 1, [], _, _ => rfl
  | k + 1, 0, [], _, _ => rfl
  | k + 1, j + 1, [], _, _ => rfl
  | 0, j, x :: l, h, _ => by simp at h
  | k + 1, 0, x :: l, _, h => by simp at h
  | k + 1, j + 1, x :: l, h1, h2 => by
    simp only [List.length_cons] at h1 h2
    have e1 := rlf_fuel F k j (l.drop (rn x l)) (by rw [List.length_drop]; omega) (by rw [List.length_drop]; omega)
    have e2 := rlf_fuel F k j (l.drop (lit F l)) (by rw [List.length_drop]; omega) (by rw [List.length_drop]; omega)
    rw [rlf, rlf, e1, e2]
def rl (F : Fo α) (l : List α) : List Int := rlf F l.length l
theorem rl_nil (F : Fo α) : rl F [] = [] := rfl
theorem rl_null (F : Fo α) {x : α} {l : List α} (h : F.is x = false) : rl F (x :: l) = 0 :: (uB (rn x l + 1) ++ rl F (l.drop (rn x l))) := by
  unfold rl
  rw [List.length_cons, rlf, if_pos h, rlf_fuel F l.length (l.drop (rn x l)).length (l.drop (rn x l)) (by rw [List.length_drop]; omega) (Nat.le_refl _)]
theorem rl_run (F : Fo α) {x : α} {l : List α} (h : F.is x = true) (h2 : 0 < rn x l) : rl F (x :: l) = sB ((rn x l : Int) + 1) ++ (F.pw x ++ rl F (l.drop (rn x l))) := by
  unfold rl
  rw [List.length_cons, rlf, if_neg (by rw [h]; decide), if_pos h2, rlf_fuel F l.length (l.drop (rn x l)).length (l.drop (rn x l)) (by rw [List.length_drop]; omega) (Nat.le_refl _)]
theorem rl_lit (F : Fo α) {x : α} {l : List α} (h : F.is x = true) (h2 : ¬ 0 < rn x l) : rl F (x :: l) = sB (-((lit F l : Int) + 1)) ++ ((x :: l.take (lit F l)).flatMap F.pw ++ rl F (l.drop (lit F l))) := by
  unfold rl
  rw [List.length_cons, rlf, if_neg (by rw [h]; decide), if_neg h2, rlf_fuel F l.length (l.drop (lit F l)).length (l.drop (lit F l)) (by rw [List.length_drop]; omega) (Nat.le_refl _)]
def anyF (F : Fo α) (l : List α) : Bool := l.any F.is
def put (F : Fo α) (l : List α) : List Int := if anyF F l = true then rl F l else []
/-! By places -/
def runAt (l : List α) (i : Nat) : Nat := match l.drop i with
  | [] => 0
  | x :: r => rn x r + 1
theorem runAt_cons {l : List α} {i : Nat} (d : α) (h : i < l.length) : runAt l i = rn (l.getD i d) (l.drop (i + 1)) + 1 := by
  unfold runAt; rw [drop_getD d h]
theorem runAt_le (l : List α) (i : Nat) (h : i < l.length) : runAt l i + i ≤ l.length := by
  rw [runAt_cons l[i] h]
  have := rn_le (l.getD i l[i]) (l.drop (i + 1))
  rw [List.length_drop] at this; omega
/-- So many, and then another one. -/
theorem rn_stop {x d : α} : ∀ {l : List α} {n : Nat}, (∀ j, j < n → l.getD j d = x) → n ≤ l.length → (n = l.length ∨ l.getD n d ≠ x) → rn x l = n
  | [], n, _, h, _ => by simp at h; subst h; rfl
  | y :: l, 0, _, _, h => by
    rcases h with h | h
    · simp at h
    · unfold rn; rw [if_neg (by simpa using h)]
  | y :: l, n + 1, h0, h1, h => by
    have hy : y = x := by simpa using h0 0 (by omega)
    unfold rn; rw [if_pos hy]
    have := rn_stop (x := x) (d := d) (l := l) (n := n) (fun j hj => by simpa using h0 (j + 1) (by omega)) (by simpa using h1) (by
      rcases h with h | h
      · left; simpa using h
      · right; simpa using h)
    rw [this]
theorem getD_drop {l : List α} (d : α) (i j : Nat) : (l.drop i).getD j d = l.getD (i + j) d := by simp [List.getD_eq_getElem?_getD]
theorem run_stop {l : List α} {i n : Nat} {d : α} (h1 : 1 ≤ n) (hn : i + n ≤ l.length) (h : ∀ j, j < n → l.getD (i + j) d = l.getD i d) (hs : i + n = l.length ∨ l.getD (i + n) d ≠ l.getD i d) : runAt l i = n := by
  rw [runAt_cons d (by omega), rn_stop (d := d) (n := n - 1) (fun j hj => by rw [getD_drop, show i + 1 + j = i + (j + 1) by omega]; exact h (j + 1) (by omega)) (by rw [List.length_drop]; omega) (by
    rw [getD_drop, List.length_drop, show i + 1 + (n - 1) = i + n by omega]
    rcases hs with hs | hs
    · left; omega
    · right; exact hs)]
  omega
/-- How many from here on have a value and stand alone. -/
theorem lit_stop (F : Fo α) {d : α} : ∀ {l : List α} {n : Nat}, (∀ j, j < n → F.is (l.getD j d) = true ∧ runAt l j = 1) → n ≤ l.length → (n = l.length ∨ ¬ (F.is (l.getD n d) = true ∧ runAt l n = 1)) → lit F l = n
  | [], n, _, h, _ => by simp at h; subst h; rfl
  | y :: l, 0, _, _, h => by
    rcases h with h | h
    · simp at h
    · unfold lit; rw [if_neg]
      intro ⟨a, b⟩
      apply h
      refine ⟨by simpa using a, ?_⟩
      show rn y l + 1 = 1
      omega
  | y :: l, n + 1, h0, h1, h => by
    have hy := h0 0 (by omega)
    have hy2 : rn y l + 1 = 1 := hy.2
    unfold lit; rw [if_pos ⟨by simpa using hy.1, by omega⟩]
    have := lit_stop F (d := d) (l := l) (n := n) (fun j hj => by have := h0 (j + 1) (by omega); simpa [runAt] using this) (by simpa using h1) (by
      rcases h with h | h
      · left; simpa using h
      · right; simpa [runAt] using h)
    rw [this]
theorem lit_at (F : Fo α) {l : List α} {i n : Nat} {d : α} (h1 : 1 ≤ n) (hn : i + n ≤ l.length) (h : ∀ j, 1 ≤ j → j < n → F.is (l.getD (i + j) d) = true ∧ runAt l (i + j) = 1) (hs : i + n = l.length ∨ ¬ (F.is (l.getD (i + n) d) = true ∧ runAt l (i + n) = 1)) : lit F (l.drop (i + 1)) = n - 1 := by
  have hr : ∀ j, runAt (l.drop (i + 1)) j = runAt l (i + 1 + j) := fun j => by unfold runAt; rw [List.drop_drop]
  refine lit_stop F (d := d) (fun j hj => ?_) (by rw [List.length_drop]; omega) ?_
  · rw [getD_drop, hr, show i + 1 + j = i + (j + 1) by omega]; exact h (j + 1) (by omega) (by omega)
  · rw [getD_drop, hr, List.length_drop, show i + 1 + (n - 1) = i + n by omega]
    rcases hs with hs | hs
    · left; omega
    · right; exact hs
/-- What the loop goes by. -/
theorem rl_at_null (F : Fo α) {l : List α} {i : Nat} {d : α} (hi : i < l.length) (h : F.is (l.getD i d) = false) : rl F (l.drop i) = 0 :: (uB (runAt l i) ++ rl F (l.drop (i + runAt l i))) := by
  rw [runAt_cons d hi, drop_getD d hi, rl_null F h, List.drop_drop, show i + 1 + rn (l.getD i d) (l.drop (i + 1)) = i + (rn (l.getD i d) (l.drop (i + 1)) + 1) by omega]
theorem rl_at_run (F : Fo α) {l : List α} {i : Nat} {d : α} (hi : i < l.length) (h : F.is (l.getD i d) = true) (h2 : 1 < runAt l i) : rl F (l.drop i) = sB (runAt l i) ++ (F.pw (l.getD i d) ++ rl F (l.drop (i + runAt l i))) := by
  rw [runAt_cons d hi] at h2 ⊢
  rw [drop_getD d hi, rl_run F h (by omega), List.drop_drop, show i + 1 + rn (l.getD i d) (l.drop (i + 1)) = i + (rn (l.getD i d) (l.drop (i + 1)) + 1) by omega]
  rfl
theorem rl_at_lit (F : Fo α) {l : List α} {i n : Nat} {d : α} (hi : i < l.length) (h : F.is (l.getD i d) = true) (h2 : ¬ 1 < runAt l i) (hl : lit F (l.drop (i + 1)) = n - 1) (h1 : 1 ≤ n) : rl F (l.drop i) = sB (-(n : Int)) ++ (((l.drop i).take n).flatMap F.pw ++ rl F (l.drop (i + n))) := by
  rw [runAt_cons d hi] at h2
  rw [drop_getD d hi, rl_lit F h (by omega), List.drop_drop, hl, show i + 1 + (n - 1) = i + n by omega, show -(((n - 1 : Nat) : Int) + 1) = -(n : Int) by omega]
  obtain ⟨n, rfl⟩ := Nat.exists_eq_succ_of_ne_zero (by omega : n ≠ 0)
  rfl
theorem any_step (F : Fo α) {l : List α} {i n : Nat} : anyF F (l.take (i + n)) = (anyF F (l.take i) || anyF F ((l.drop i).take n)) := by
  unfold anyF; rw [List.take_add, List.any_append]
theorem run_same {l : List α} {i j : Nat} {d : α} (hi : i < l.length) (hj : j < runAt l i) : l.getD (i + j) d = l.getD i d := by
  have key : ∀ (x : α) (m : List α) (j : Nat), j < rn x m → m.getD j d = x := by
    intro x m
    induction m with
    | nil => intro j h; simp [rn] at h
    | cons y m ih =>
      intro j h
      unfold rn at h
      split at h
      · rename_i e
        cases j with
        | zero => simpa using e
        | succ j => simpa using ih j (by omega)
      · omega
  cases j with
  | zero => rfl
  | succ j =>
    rw [runAt_cons d hi] at hj
    have := key _ _ j (by omega : j < rn (l.getD i d) (l.drop (i + 1)))
    rw [getD_drop, show i + 1 + j = i + (j + 1) by omega] at this
    exact this
theorem any_null (F : Fo α) {l : List α} {i : Nat} {d : α} (hi : i < l.length) (h : F.is (l.getD i d) = false) : anyF F (l.take (i + runAt l i)) = anyF F (l.take i) := by
  rw [any_step]
  have : anyF F ((l.drop i).take (runAt l i)) = false := by
    unfold anyF
    rw [List.any_eq_false]
    intro x hx
    obtain ⟨j, hj, e⟩ := List.mem_iff_getElem.1 hx
    have hr := runAt_le l i hi
    have hjl : j < runAt l i := by simp at hj; omega
    have := run_same (d := d) hi hjl
    have e2 : l.getD (i + j) d = x := by
      rw [← e]; simp [List.getD_eq_getElem?_getD, show i + j < l.length by omega]
    rw [← e2, this, h]; decide
  rw [this, Bool.or_false]
theorem any_yes (F : Fo α) {l : List α} {i n : Nat} {d : α} (hi : i < l.length) (h : F.is (l.getD i d) = true) (hn : 1 ≤ n) : anyF F (l.take (i + n)) = true := by
  unfold anyF
  rw [List.any_eq_true]
  refine ⟨l.getD i d, ?_, h⟩
  have : l.getD i d = (l.take (i + n)).getD i d := by simp only [List.getD_eq_getElem?_getD, List.getElem?_take]; rw [if_pos (by omega)]
  rw [this]
  exact mem_getD (by rw [List.length_take]; omega)
theorem put_some {F : Fo α} {l : List α} (h : anyF F l = true) : put F l = rl F l := by unfold put; rw [if_pos h]
theorem put_none {F : Fo α} {l : List α} (h : anyF F l = false) : put F l = [] := by unfold put; rw [if_neg (by rw [h]; decide)]
theorem flat_step (F : Fo α) {d : α} {m : List α} {k : Nat} (h : k < m.length) : (m.take (k + 1)).flatMap F.pw = (m.take k).flatMap F.pw ++ F.pw (m.getD k d) := by
  rw [take_getD d h]; simp
end
theorem cell_eq {a b : Cell} : (a.is = b.is ∧ a.n = b.n) ↔ a = b := by cases a; cases b; simp
def nF : Fo Cell := ⟨Cell.is, fun c => uB (c.n % 18446744073709551616).toNat⟩
def sF : Fo Cell := ⟨Cell.is, fun c => sB c.n⟩
def wF : Fo Word := ⟨Word.is, fun c => uB c.s.size ++ ss c.s⟩
theorem nF_pw (c : Cell) : nF.pw c = uB (c.n % 18446744073709551616).toNat := rfl
theorem flat_le {α : Type} (F : Fo α) (m : List α) (k : Nat) : ((m.take k).flatMap F.pw).length ≤ (m.flatMap F.pw).length := by
  have := congrArg List.length (congrArg (List.flatMap F.pw) (List.take_append_drop k m))
  rw [List.flatMap_append, List.length_append] at this
  omega
end Go.Proofs.Ytdjaoonjfampmaa.Rle
