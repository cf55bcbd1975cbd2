/- The reference's way to columns of runs. -/
import Derived.Test.YtdjaoonjfampmaaZRawPutsrlem
namespace Go.Proofs.Ytdjaoonjfampmaa.Rle
open Go.RowKit Go.Proofs.Ytdjaoonjfampmaa.Sl Go.Proofs.Ytdjaoonjfampmaa.Leb
set_option linter.unusedVariables false
set_option linter.unusedSimpArgs false
set_option linter.unusedSectionVars false
def nc (sg : Bool) (c : Cell) : Cell := ⟨c.is, if c.is = true then (if c.n < 0 then (if sg = true then c.n else -(c.n + 1)) else c.n) else 0⟩
def tx (w : Word) : Word := if w.is = true then w else ⟨w.is, ByteArray.empty⟩
def rN (sg : Bool) (c : Cell) : Word := ⟨c.is, if c.is = true then (if sg = true then bs (sB c.n) else bs (uB (c.n % 18446744073709551616).toNat)) else ByteArray.empty⟩
def rW (w : Word) : Word := ⟨w.is, if w.is = true then bs (uB w.s.size) ++ w.s else ByteArray.empty⟩
def bF : Fo Word := ⟨Word.is, fun w => ss w.s⟩
theorem bF_pw (c : Word) : bF.pw c = ss c.s := rfl
theorem map_step {α β : Type} (F : α → β) (d : α) {l : List α} {i : Nat} (h : i < l.length) : (l.take (i + 1)).map F = (l.take i).map F ++ [F (l.getD i d)] := by rw [take_getD d h]; simp
/-- Like cells, told alike. -/
theorem rn_map {α β : Type} [DecidableEq α] [DecidableEq β] (G : α → β) : ∀ (x : α) (l : List α), (∀ y ∈ l, G y = G x → y = x) → rn (G x) (l.map G) = rn x l
  | x, [], _ => rfl
  | x, y :: l, h => by
    have ih := rn_map G x l fun z hz => h z (List.mem_cons_of_mem _ hz)
    have hy := h y List.mem_cons_self
    simp only [List.map_cons, rn]
    by_cases e : y = x
    · rw [if_pos e, if_pos (by rw [e]), ih]
    · rw [if_neg e, if_neg (fun e' => e (hy e'))]
theorem lit_map {α β : Type} [DecidableEq α] [DecidableEq β] (F : Fo α) (F' : Fo β) (G : α → β) (hi : ∀ a, F'.is (G a) = F.is a) : ∀ l : List α, (∀ x ∈ l, ∀ y ∈ l, G x = G y → x = y) → lit F' (l.map G) = lit F l
  | [], _ => rfl
  | x :: l, h => by
    have ih := lit_map F F' G hi l fun a ha b hb => h a (List.mem_cons_of_mem _ ha) b (List.mem_cons_of_mem _ hb)
    have hr := rn_map G x l fun y hy e => h y (List.mem_cons_of_mem _ hy) x List.mem_cons_self e
    simp only [List.map_cons, lit, hi, hr, ih]
theorem rlf_map {α β : Type} [DecidableEq α] [DecidableEq β] (F : Fo α) (F' : Fo β) (G : α → β) (hi : ∀ a, F'.is (G a) = F.is a) : ∀ (k : Nat) (l : List α), (∀ x ∈ l, ∀ y ∈ l, G x = G y → x = y) → (∀ x ∈ l, F.is x = true → F'.pw (G x) = F.pw x) → rlf F' k (l.map G) = rlf F k l
  | 0, l, _, _ => by simp [rlf]
  | k + 1, [], _, _ => rfl
  | k + 1, x :: l, h, hp => by
    have hr := rn_map G x l fun y hy e => h y (List.mem_cons_of_mem _ hy) x List.mem_cons_self e
    have hl := lit_map F F' G hi l fun a ha b hb => h a (List.mem_cons_of_mem _ ha) b (List.mem_cons_of_mem _ hb)
    have hd : ∀ n, rlf F' k ((l.drop n).map G) = rlf F k (l.drop n) := fun n => rlf_map F F' G hi k (l.drop n)
      (fun a ha b hb => h a (List.mem_cons_of_mem _ (List.mem_of_mem_drop ha)) b (List.mem_cons_of_mem _ (List.mem_of_mem_drop hb))) (fun a ha => hp a (List.mem_cons_of_mem _ (List.mem_of_mem_drop ha)))
    simp only [List.map_cons, rlf, hi, hr, hl, ← List.map_drop, hd]
    by_cases h0 : F.is x = false
    · rw [if_pos h0, if_pos h0]
    · have h1 : F.is x = true := by simpa using h0
      rw [if_neg h0, if_neg h0, hp x List.mem_cons_self h1]
      split
      · rfl
      · have key : ∀ (m : List α) (n : Nat), (∀ a ∈ m, F.is a = true → F'.pw (G a) = F.pw a) → n ≤ lit F m → ((m.map G).take n).flatMap F'.pw = (m.take n).flatMap F.pw := by
          intro m
          induction m with
          | nil => intro n _ _; simp
          | cons y m ih =>
            intro n hm hn
            cases n with
            | zero => simp
            | succ n =>
              unfold lit at hn
              split at hn
              · rename_i hc
                simp only [List.map_cons, List.take_succ_cons, List.flatMap_cons]
                rw [hm y List.mem_cons_self hc.1, ih n (fun a ha => hm a (List.mem_cons_of_mem _ ha)) (by omega)]
              · omega
        have := key l (lit F l) (fun a ha => hp a (List.mem_cons_of_mem _ ha)) (Nat.le_refl _)
        simp only [List.flatMap_cons, this, hp x List.mem_cons_self h1]
theorem put_map {α β : Type} [DecidableEq α] [DecidableEq β] (F : Fo α) (F' : Fo β) (G : α → β) {l : List α} (hi : ∀ a, F'.is (G a) = F.is a) (h : ∀ x ∈ l, ∀ y ∈ l, G x = G y → x = y) (hp : ∀ x ∈ l, F.is x = true → F'.pw (G x) = F.pw x) : put F' (l.map G) = put F l := by
  have ha : anyF F' (l.map G) = anyF F l := by unfold anyF; rw [List.any_map]; congr 1; funext a; exact hi a
  unfold put rl
  rw [ha, List.length_map, rlf_map F F' G hi _ l h hp]
theorem any_1 {α : Type} (F : Fo α) {d : α} {l : List α} {i : Nat} (h : i < l.length) : anyF F (l.take (i + 1)) = (anyF F (l.take i) || F.is (l.getD i d)) := by
  unfold anyF; rw [take_getD d h]; simp
theorem run_one {α : Type} [DecidableEq α] {l : List α} {j : Nat} {d : α} (hj : j < l.length) (h : j + 1 = l.length ∨ l.getD (j + 1) d ≠ l.getD j d) : runAt l j = 1 :=
  run_stop (d := d) (Nat.le_refl _) (by omega) (fun q hq => by rw [show q = 0 by omega]; rfl) h
theorem run_two {α : Type} [DecidableEq α] {l : List α} {j : Nat} {d : α} (hj : j + 1 < l.length) (h : l.getD (j + 1) d = l.getD j d) : 1 < runAt l j := by
  rw [runAt_cons d (by omega), drop_getD d hj]
  unfold rn; rw [if_pos h]; omega
theorem flat_up {α : Type} [DecidableEq α] (F : Fo α) {d : α} {l : List α} {i k : Nat} (h : i ≤ k) (hk : k < l.length) : ((l.drop i).take (k + 1 - i)).flatMap F.pw = ((l.drop i).take (k - i)).flatMap F.pw ++ F.pw (l.getD k d) := by
  rw [show k + 1 - i = (k - i) + 1 by omega, take_getD d (by rw [List.length_drop]; omega), getD_drop, show i + (k - i) = k by omega]; simp
end Go.Proofs.Ytdjaoonjfampmaa.Rle
