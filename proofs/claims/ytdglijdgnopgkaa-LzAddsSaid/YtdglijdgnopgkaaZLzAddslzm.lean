/- Layer 6: matches, by distance and by the places where three bytes stood last. -/
import Derived.Test.YtdglijdgnopgkaaZLzAddsMp
namespace Go.Proofs.Ytdglijdgnopgkaa.Lz
open Go.RowKit Go.Proofs.Ytdglijdgnopgkaa.Sl
set_option linter.unusedVariables false
structure Tok where
  by' : Int
  len : Int
  dist : Int
deriving DecidableEq
def Tok.z : Tok := ⟨0, 0, 0⟩
def tTok : Fl Tok := ⟨3, fun x => [.int .u8 x.by', .int .i64 x.len, .int .i64 x.dist], fun _ => rfl, fun x u hu => by
  simp only [List.mem_cons, List.not_mem_nil, or_false] at hu
  rcases hu with rfl | rfl | rfl <;> rfl, by decide⟩
def key3 (b : List Int) (i : Nat) : K3 := ⟨b.getD i 0, b.getD (i + 1) 0, b.getD (i + 2) 0⟩
def BOk (b : List Int) : Prop := ∀ x ∈ b, 0 ≤ x ∧ x < 256
theorem BOk.at {b : List Int} (h : BOk b) (i : Nat) : 0 ≤ b.getD i 0 ∧ b.getD i 0 < 256 := by
  by_cases hi : i < b.length
  · exact h _ (mem_getD hi)
  · rw [List.getD_eq_getElem?_getD, List.getElem?_eq_none (by omega)]; simp
theorem BOk.key {b : List Int} (h : BOk b) (i : Nat) : (key3 b i).ok := ⟨h.at i, h.at (i + 1), h.at (i + 2)⟩
theorem Rd.cw3 {v : Value} {b : List Int} {w : World} {i : Nat} (hl : i + 3 ≤ b.length) (h : Rd (tI .u8) (hp w) v ((b.take (i + 3)).drop i)) :
    ∀ j u, ([.int .u8 (b.getD i 0), .int .u8 (b.getD (i + 1) 0), .int .u8 (b.getD (i + 2) 0)] : List Value)[j]? = some u → w.cell? ((elp v 0).add j) = some u := by
  have hat : ∀ k, k < 3 → ((b.take (i + 3)).drop i)[k]? = some (b.getD (i + k) 0) := fun k hk => by
    rw [List.getElem?_drop, List.getElem?_take, if_pos (by omega), List.getD_eq_getElem?_getD, List.getElem?_eq_getElem (by omega)]; rfl
  have hc : ∀ k, k < 3 → w.cell? ((elp v 0).add k) = some (.int .u8 (b.getD (i + k) 0)) := fun k hk => by
    have := h.cell (hat k hk) (j := 0) (u := .int .u8 (b.getD (i + k) 0)) rfl
    rw [elp_add]
    have e : 0 + k = k * (tI .u8).sz + 0 := by show 0 + k = k * 1 + 0; omega
    rw [e]; exact this
  intro j u hu
  match j, hu with
  | 0, hu => rw [← Option.some.inj hu]; exact hc 0 (by omega)
  | 1, hu => rw [← Option.some.inj hu]; exact hc 1 (by omega)
  | 2, hu => rw [← Option.some.inj hu]; exact hc 2 (by omega)
theorem x_sap {P : Program} {ρ : Operand → Value} {o : Oper} {w : World} {x : Operand} {T e : TypeId} {α : Type} {t : Fl α} {v : Value} {xs : List α} {n : Nat} (hr : Rd t (hp w) v xs) (hop : o.op = .sliceToArrayPointer T x) (ht : P.underlying T = some (.array n e)) (hx : ρ x = v) (h0 : 0 < n) (hn : n ≤ xs.length) :
    (execOp ρ o).run P w = .ok (.value (.pointer (some (elp v 0)))) w := by
  obtain ⟨A, c, rfl, h1, h2, h3⟩ := hr
  have hpos : 0 < (t.row xs).length := by rw [Fl.row_len]; exact Nat.mul_pos (by omega) t.pos
  obtain ⟨a, rfl, _⟩ := h3 0 _ (List.getElem?_eq_getElem hpos)
  have e : elp (.slice (some a) xs.length c) 0 = a := by cases a; rfl
  rw [e]
  simp [execOp, hop, hx, Instr.arrayAt, run_underlying ht, show ¬ (xs.length < n) by omega]
/-! How far two places are the same -/
def cp : Nat → List Int → List Int → Nat
  | 0, _, _ => 0
  | k + 1, x :: xs, y :: ys => if x = y then cp k xs ys + 1 else 0
  | _ + 1, _, _ => 0
def ml (b : List Int) (i p : Nat) : Nat := cp 258 (b.drop p) (b.drop i)
theorem cp_nil (k : Nat) (l : List Int) : cp k l [] = 0 := by cases k <;> cases l <;> rfl
theorem cp_at {b : List Int} {i p n : Nat} (hn : n < 258) (hi : i + n < b.length) (hp : p < i) :
    cp (258 - n) (b.drop (p + n)) (b.drop (i + n)) = if b.getD (p + n) 0 = b.getD (i + n) 0 then cp (258 - (n + 1)) (b.drop (p + (n + 1))) (b.drop (i + (n + 1))) + 1 else 0 := by
  rw [drop_getD 0 (show p + n < b.length by omega), drop_getD 0 hi, show 258 - n = (258 - (n + 1)) + 1 by omega]
  rfl
theorem cp_end {b : List Int} {i p n : Nat} (h : b.length ≤ i + n) : cp (258 - n) (b.drop (p + n)) (b.drop (i + n)) = 0 := by
  rw [List.drop_of_length_le h, cp_nil]
theorem cp_le : ∀ (k : Nat) (xs ys : List Int), cp k xs ys ≤ k ∧ cp k xs ys ≤ ys.length
  | 0, _, _ => ⟨Nat.le_refl _, Nat.zero_le _⟩
  | k + 1, [], ys => ⟨Nat.zero_le _, Nat.zero_le _⟩
  | k + 1, x :: xs, [] => ⟨Nat.zero_le _, Nat.zero_le _⟩
  | k + 1, x :: xs, y :: ys => by
    have := cp_le k xs ys
    simp only [cp, List.length_cons]; split <;> omega
theorem ml_le (b : List Int) (i p : Nat) : ml b i p ≤ 258 ∧ ml b i p ≤ b.length - i := by
  have := cp_le 258 (b.drop p) (b.drop i); rw [List.length_drop] at this; exact this
/-! The best match -/
def up (c : Nat × Nat) (m d : Nat) : Nat × Nat := if c.1 < m then (m, d) else c
def bst (b : List Int) (i : Nat) : Nat → Nat × Nat
  | 0 => (0, 0)
  | d + 1 => up (bst b i d) (ml b i (i - (d + 1))) (d + 1)
def bst3 (b : List Int) (i : Nat) : Nat → Nat × Nat
  | 0 => (0, 0)
  | d + 1 => if key3 b (i - (d + 1)) = key3 b i then up (bst3 b i d) (ml b i (i - (d + 1))) (d + 1) else bst3 b i d
theorem bst3_le (b : List Int) (i : Nat) : ∀ D, (bst3 b i D).1 ≤ 258 ∧ (bst3 b i D).1 ≤ b.length - i ∧ (bst3 b i D).2 ≤ D
  | 0 => ⟨Nat.zero_le _, Nat.zero_le _, Nat.le_refl _⟩
  | d + 1 => by
    have ih := bst3_le b i d
    have := ml_le b i (i - (d + 1))
    simp only [bst3]; unfold up; split
    · split <;> (try dsimp only) <;> omega
    · omega
theorem bst3_full {b : List Int} {i D : Nat} (h : 258 ≤ (bst3 b i D).1) : ∀ {k : Nat}, bst3 b i (D + k) = bst3 b i D
  | 0 => rfl
  | k + 1 => by
    have ih := bst3_full h (k := k)
    have := ml_le b i (i - (D + k + 1))
    show (if key3 b (i - (D + k + 1)) = key3 b i then up (bst3 b i (D + k)) (ml b i (i - (D + k + 1))) (D + k + 1) else bst3 b i (D + k)) = _
    rw [ih]; unfold up; split
    · rw [if_neg (by omega)]
    · rfl
/-! Where three bytes stood last -/
def lst (b : List Int) (q : K3) : Nat → Int
  | 0 => -1
  | i + 1 => if i + 3 ≤ b.length ∧ key3 b i = q then i else lst b q i
theorem lst_rng (b : List Int) (q : K3) : ∀ i, -1 ≤ lst b q i ∧ lst b q i < i
  | 0 => ⟨Int.le_refl _, by show (-1 : Int) < 0; omega⟩
  | i + 1 => by
    have ih := lst_rng b q i
    simp only [lst]; split <;> omega
theorem lst_key {b : List Int} {q : K3} : ∀ {i : Nat}, 0 ≤ lst b q i → key3 b (lst b q i).toNat = q ∧ (lst b q i).toNat + 3 ≤ b.length
  | 0, h => by simp [lst] at h
  | i + 1, h => by
    have ih := @lst_key b q i
    simp only [lst] at h ⊢
    split
    · rename_i hk; exact ⟨hk.2, hk.1⟩
    · rename_i hk; rw [if_neg hk] at h; exact ih h
theorem bst3_skip {b : List Int} {i : Nat} (hi : i + 3 ≤ b.length) : ∀ {a : Nat}, a ≤ i → bst3 b i ((i : Int) - lst b (key3 b i) a - 1).toNat = bst3 b i (i - a)
  | 0, _ => by simp only [lst]; congr 1; omega
  | a + 1, ha => by
    have ih := bst3_skip hi (a := a) (by omega)
    simp only [lst]
    by_cases hk : key3 b a = key3 b i
    · rw [if_pos ⟨by omega, hk⟩]; congr 1; omega
    · rw [if_neg (fun h => hk h.2), ih, show i - a = (i - (a + 1)) + 1 by omega]
      simp only [bst3]
      rw [show i - (i - (a + 1) + 1) = a by omega, if_neg hk]
def gm (b : List Int) (i : Nat) (q : K3) : Int := lst b q i
theorem gm_next {b : List Int} {i : Nat} (h : i + 3 ≤ b.length) : (fun q' => if q' = key3 b i then (i : Int) else gm b i q') = gm b (i + 1) := by
  funext q
  simp only [gm, lst]
  by_cases e : q = key3 b i
  · rw [if_pos e, if_pos ⟨h, e.symm⟩]
  · rw [if_neg e, if_neg (fun hh => e hh.2.symm)]
theorem gm_end {b : List Int} {i : Nat} (h : b.length < i + 3) : gm b i = gm b (i + 1) := by
  funext q
  simp only [gm, lst]
  rw [if_neg (fun hh => by omega)]
def pv1 (b : List Int) (j : Nat) : Int := if j + 3 ≤ b.length then lst b (key3 b j) j else -1
def prv (b : List Int) : Nat → List Int
  | 0 => []
  | i + 1 => prv b i ++ [pv1 b i]
theorem prv_len (b : List Int) : ∀ i, (prv b i).length = i
  | 0 => rfl
  | i + 1 => by rw [prv, List.length_append, prv_len b i]; rfl
theorem prv_at (b : List Int) : ∀ {i j : Nat}, j < i → (prv b i).getD j 0 = pv1 b j
  | i + 1, j, h => by
    rw [prv, List.getD_eq_getElem?_getD]
    by_cases e : j < i
    · rw [List.getElem?_append_left (by rw [prv_len]; exact e), ← List.getD_eq_getElem?_getD, prv_at b e]
    · obtain rfl : j = i := by omega
      rw [List.getElem?_append_right (by rw [prv_len]; exact Nat.le_refl _), prv_len, Nat.sub_self]; rfl
theorem prv_set {b : List Int} {i : Nat} {x : Int} (h : x = pv1 b i) : (prv b i ++ [-1]).set i x = prv b (i + 1) := by
  rw [List.set_append_right _ _ (by rw [prv_len]; exact Nat.le_refl _), prv_len, Nat.sub_self, h]; rfl
/-! Tokens -/
def fnd (b : List Int) (i : Nat) : Nat × Nat := if i + 3 ≤ b.length then bst3 b i i else (0, 0)
def adv (b : List Int) (i : Nat) : Nat := if (fnd b i).1 < 3 then 1 else (fnd b i).1
def tk (b : List Int) (i : Nat) : Tok := if (fnd b i).1 < 3 then ⟨b.getD i 0, 0, 0⟩ else ⟨0, (fnd b i).1, (fnd b i).2⟩
theorem fnd_le (b : List Int) (i : Nat) : (fnd b i).1 ≤ 258 ∧ (fnd b i).1 ≤ b.length - i ∧ (fnd b i).2 ≤ i := by
  unfold fnd; split
  · exact bst3_le b i i
  · exact ⟨by decide, Nat.zero_le _, Nat.zero_le _⟩
theorem adv_pos (b : List Int) (i : Nat) : 0 < adv b i := by unfold adv; split <;> omega
def prs (b : List Int) : Nat → Nat → List Tok
  | 0, _ => []
  | k + 1, i => if i < b.length then tk b i :: prs b k (i + adv b i) else []
theorem prs_any (b : List Int) : ∀ {k k' i : Nat}, b.length ≤ i + k → b.length ≤ i + k' → prs b k i = prs b k' i
  | 0, 0, _, _, _ => rfl
  | 0, k' + 1, i, h, _ => by simp only [prs]; rw [if_neg (by omega)]
  | k + 1, 0, i, _, h => by simp only [prs]; rw [if_neg (by omega)]
  | k + 1, k' + 1, i, h, h' => by
    have := adv_pos b i
    simp only [prs]; split
    · rw [prs_any b (k := k) (k' := k') (by omega) (by omega)]
    · rfl
def pr (b : List Int) (i : Nat) : List Tok := prs b b.length i
theorem pr_step {b : List Int} {i : Nat} (h : i < b.length) : pr b i = tk b i :: pr b (i + adv b i) := by
  have := adv_pos b i
  unfold pr
  rw [prs_any b (k := b.length) (k' := (b.length - 1) + 1) (by omega) (by omega)]
  simp only [prs]; rw [if_pos h, prs_any b (k := b.length - 1) (k' := b.length) (by omega) (by omega)]
theorem pr_end {b : List Int} {i : Nat} (h : b.length ≤ i) : pr b i = [] := by
  unfold pr; rw [prs_any b (k' := 0) (by omega) (by omega)]; rfl
theorem up_pos {c : Nat × Nat} {m d : Nat} (h : c.1 < m) : up c m d = (m, d) := if_pos h
theorem up_neg {c : Nat × Nat} {m d : Nat} (h : ¬ c.1 < m) : up c m d = c := if_neg h
theorem find_step {b : List Int} {i : Nat} {a : Int} (hi : i + 3 ≤ b.length) (h0 : 0 ≤ a) (ha : a < i) (hk : key3 b a.toNat = key3 b i) :
    bst3 b i ((i : Int) - lst b (key3 b i) a.toNat - 1).toNat = up (bst3 b i ((i : Int) - a - 1).toNat) (ml b i a.toNat) (i - a.toNat) := by
  rw [bst3_skip hi (by omega), show i - a.toNat = (i - a.toNat - 1) + 1 by omega]
  simp only [bst3]
  rw [show i - (i - a.toNat - 1 + 1) = a.toNat by omega, if_pos hk, show ((i : Int) - a - 1).toNat = i - a.toNat - 1 by omega]
theorem find_full {b : List Int} {i : Nat} {a : Int} (h1 : -1 ≤ a) (ha : a < i) (h : 258 ≤ (bst3 b i ((i : Int) - a - 1).toNat).1) : bst3 b i ((i : Int) - a - 1).toNat = bst3 b i i := by
  have := bst3_full h (k := i - ((i : Int) - a - 1).toNat)
  rw [show ((i : Int) - a - 1).toNat + (i - ((i : Int) - a - 1).toNat) = i by omega] at this
  exact this.symm
theorem find_none {b : List Int} {i : Nat} (hi : i + 3 ≤ b.length) (h : lst b (key3 b i) i = -1) : fnd b i = (0, 0) := by
  have := bst3_skip hi (Nat.le_refl i)
  rw [h, Nat.sub_self, show ((i : Int) - -1 - 1).toNat = i by omega] at this
  unfold fnd; rw [if_pos hi, this]; rfl
theorem tk_lit {b : List Int} {i : Nat} (h : (fnd b i).1 < 3) : tk b i = ⟨b.getD i 0, 0, 0⟩ := if_pos h
theorem tk_far {b : List Int} {i : Nat} (h : ¬ (fnd b i).1 < 3) : tk b i = ⟨0, (fnd b i).1, (fnd b i).2⟩ := if_neg h
theorem adv_lit {b : List Int} {i : Nat} (h : (fnd b i).1 < 3) : adv b i = 1 := if_pos h
theorem adv_far {b : List Int} {i : Nat} (h : ¬ (fnd b i).1 < 3) : adv b i = (fnd b i).1 := if_neg h
theorem press_more {b : List Int} {ts : List Tok} {t : Tok} {i k : Nat} (hi : i < b.length) (h : ts ++ pr b i = pr b 0) (ht : tk b i = t) (ha : adv b i = k) : (ts ++ [t]) ++ pr b (i + k) = pr b 0 := by
  rw [← h, pr_step hi, ht, ha, List.append_assoc]; rfl
theorem pr_all {b : List Int} {ts : List Tok} {i : Nat} (hi : b.length ≤ i) (h : ts ++ pr b i = pr b 0) : ts = pr b 0 := by
  rw [pr_end hi, List.append_nil] at h; exact h
end Go.Proofs.Ytdglijdgnopgkaa.Lz
