/- Runs: sizes, and what the laws say, in lists. -/
import Derived.Test.Ytgngmjlhpagmkaarlen
namespace Go.Proofs.Ytgngmjlhpagmkaa.Rle
open Go.RowKit Go.Proofs.Ytgngmjlhpagmkaa.Sl Go.Proofs.Ytgngmjlhpagmkaa.Leb
set_option linter.unusedVariables false
set_option linter.unusedSimpArgs false
set_option linter.unusedSectionVars false
section
variable {α : Type} [DecidableEq α]
theorem flat_len (F : Fo α) (M : Nat) : ∀ l : List α, (∀ x ∈ l, (F.pw x).length ≤ M) → (l.flatMap F.pw).length ≤ M * l.length
  | [], _ => by simp
  | x :: l, h => by
    have h1 := flat_len F M l fun y hy => h y (List.mem_cons_of_mem _ hy)
    have h2 := h x List.mem_cons_self
    simp only [List.flatMap_cons, List.length_append, List.length_cons, Nat.mul_add]
    omega
theorem rlf_len (F : Fo α) (M : Nat) : ∀ (k : Nat) (l : List α), l.length ≤ 1000000 → (∀ x ∈ l, (F.pw x).length ≤ M) → (rlf F k l).length ≤ (M + 11) * l.length
  | 0, l, _, _ => by simp [rlf]
  | k + 1, [], _, _ => by simp [rlf]
  | k + 1, x :: l, hl, h => by
    have hx := h x List.mem_cons_self
    simp only [List.length_cons] at hl
    have hd : ∀ n, n ≤ l.length → (rlf F k (l.drop n)).length + (M + 11) * n ≤ (M + 11) * l.length := fun n hn => by
      have := rlf_len F M k (l.drop n) (by rw [List.length_drop]; omega) fun y hy => h y (List.mem_cons_of_mem _ (List.mem_of_mem_drop hy))
      rw [List.length_drop, Nat.mul_sub] at this
      have h3 : (M + 11) * n ≤ (M + 11) * l.length := Nat.mul_le_mul_left _ hn
      omega
    have hr := hd _ (rn_le x l)
    have hlt := hd _ (lit_le F l)
    have hrl := rn_le x l
    have hll := lit_le F l
    rw [rlf, List.length_cons, Nat.mul_add]
    split
    · have := uB_len10 (n := rn x l + 1) (by omega)
      simp only [List.length_cons, List.length_append]
      omega
    · split
      · have := sB_len10 (n := (rn x l : Int) + 1) (by omega) (by omega)
        simp only [List.length_append]
        omega
      · have h4 := sB_len10 (n := -((lit F l : Int) + 1)) (by omega) (by omega)
        have h5 := flat_len F M (l.take (lit F l)) fun y hy => h y (List.mem_cons_of_mem _ (List.mem_of_mem_take hy))
        rw [List.length_take, Nat.min_eq_left hll] at h5
        simp only [List.flatMap_cons, List.length_append, Nat.add_mul] at *
        omega
theorem rl_len (F : Fo α) (M : Nat) {l : List α} (hl : l.length ≤ 1000000) (h : ∀ x ∈ l, (F.pw x).length ≤ M) : (rl F l).length ≤ (M + 11) * l.length := rlf_len F M _ l hl h
theorem rn_rep (c : α) : ∀ n, rn c (List.replicate n c) = n
  | 0 => rfl
  | n + 1 => by rw [List.replicate_succ, rn, if_pos rfl, rn_rep c n]
theorem put_rep (F : Fo α) {c : α} (h : F.is c = true) (n : Nat) : put F (List.replicate (n + 2) c) = sB ((n : Int) + 2) ++ F.pw c := by
  have ha : anyF F (List.replicate (n + 2) c) = true := by unfold anyF; rw [List.replicate_succ, List.any_cons, h]; rfl
  rw [put_some ha, List.replicate_succ, rl_run F h (by rw [rn_rep]; omega), rn_rep, List.drop_of_length_le (by simp), rl_nil, List.append_nil]
  congr 2
theorem put_one (F : Fo α) {c : α} (h : F.is c = true) : put F [c] = sB (-1) ++ F.pw c := by
  have ha : anyF F [c] = true := by unfold anyF; rw [List.any_cons, h]; rfl
  rw [put_some ha, rl_lit F h (by simp [rn])]
  simp [lit, rl_nil]
/-- No two of them alike side by side. -/
def Alt : List α → Prop
  | [] => True
  | [_] => True
  | x :: y :: l => y ≠ x ∧ Alt (y :: l)
theorem lit_alt (F : Fo α) : ∀ l : List α, (∀ x ∈ l, F.is x = true) → Alt l → lit F l = l.length
  | [], _, _ => rfl
  | [x], h, _ => by simp [lit, rn, h x (by simp)]
  | x :: y :: l, h, ha => by
    have := lit_alt F (y :: l) (fun z hz => h z (List.mem_cons_of_mem _ hz)) ha.2
    rw [lit, if_pos ⟨h x List.mem_cons_self, by rw [rn, if_neg ha.1]⟩, this]; rfl
theorem put_alt (F : Fo α) {x : α} {l : List α} (h : ∀ z ∈ x :: l, F.is z = true) (ha : Alt (x :: l)) : put F (x :: l) = sB (-((l.length : Int) + 1)) ++ (x :: l).flatMap F.pw := by
  have hx := h x List.mem_cons_self
  have hany : anyF F (x :: l) = true := by unfold anyF; rw [List.any_cons, hx]; rfl
  have hl := lit_alt F l (fun z hz => h z (List.mem_cons_of_mem _ hz)) (by cases l with | nil => trivial | cons y l => exact ha.2)
  have hr : ¬ 0 < rn x l := by
    cases l with
    | nil => simp [rn]
    | cons y l => rw [rn, if_neg ha.1]; omega
  rw [put_some hany, rl_lit F hx hr, hl, List.drop_length, rl_nil, List.append_nil, List.take_length]
end
theorem nF_len (c : Cell) : (nF.pw c).length ≤ 10 := by rw [nF_pw]; exact uB_len10 (by omega)
theorem sF_len {c : Cell} (h : -9223372036854775808 ≤ c.n ∧ c.n < 9223372036854775808) : (sF.pw c).length ≤ 10 := by rw [sF_pw]; exact sB_len10 h.1 h.2
theorem wF_len {c : Word} {n : Nat} (h : c.s.size ≤ n) (hn : n ≤ 1000000000) : (wF.pw c).length ≤ n + 10 := by
  rw [wF_pw, List.length_append, size_ss]; have := uB_len10 (n := c.s.size) (by omega); omega
theorem awake_rle : bs (put nF [⟨true, 5⟩, ⟨true, 5⟩, ⟨true, 5⟩, ⟨false, 0⟩, ⟨true, 7⟩]) = ByteArray.mk #[3, 5, 0, 1, 127, 7] := by
  have : put nF [⟨true, 5⟩, ⟨true, 5⟩, ⟨true, 5⟩, ⟨false, 0⟩, ⟨true, 7⟩] = [3, 5, 0, 1, 127, 7] := by
    simp [put, anyF, rl, rlf, rn, lit, nF, uB_lo, sB_lo]
  rw [this]; rfl
def alts (x : Int) (n : Nat) : List Cell := (List.range n).map fun (j : Nat) => ⟨true, (x + (j : Int)) % 100⟩
theorem alts_len (x : Int) (n : Nat) : (alts x n).length = n := by simp [alts]
theorem alts_succ (x : Int) (n : Nat) : alts x (n + 1) = alts x n ++ [⟨true, (x + n) % 100⟩] := by simp [alts, List.range_succ]
theorem sB_le2 {n : Int} (h : -8192 ≤ n ∧ n < 8192) : (sB n).length ≤ 2 := sB_len 1 n (by omega) (by omega)
theorem nF_one {c : Cell} (h : 0 ≤ c.n ∧ c.n < 128) : (nF.pw c).length = 1 := by rw [nF_pw, uB_lo (by omega)]; rfl
theorem same_1 {i : Nat} {x : Int} (h : 2 ≤ i) (hi : i ≤ 3002) (hx : 0 ≤ x) : (put nF (List.replicate i (⟨true, x % 128⟩ : Cell))).length ≤ 4 := by
  obtain ⟨m, rfl⟩ : ∃ m, i = m + 2 := ⟨i - 2, by omega⟩
  rw [put_rep nF (c := ⟨true, x % 128⟩) rfl, List.length_append, nF_one (c := ⟨true, x % 128⟩) (by show 0 ≤ x % 128 ∧ x % 128 < 128; omega)]
  have := sB_le2 (n := (m : Int) + 2) (by omega)
  omega
theorem same_3 {i : Nat} {x : Int} (h : 2 ≤ i) (hx : 0 ≤ x) : (put nF ((List.replicate i (⟨true, x % 128⟩ : Cell)).take 1)).length = 2 := by
  obtain ⟨m, rfl⟩ : ∃ m, i = m + 1 := ⟨i - 1, by omega⟩
  rw [List.replicate_succ, List.take_succ_cons, List.take_zero, put_one nF (c := ⟨true, x % 128⟩) rfl, List.length_append, nF_one (c := ⟨true, x % 128⟩) (by show 0 ≤ x % 128 ∧ x % 128 < 128; omega)]
  rw [sB_lo (by omega)]; rfl
theorem alt_of (g : Nat → Cell) (hg : ∀ j, g (j + 1) ≠ g j) : ∀ (n s : Nat), Alt ((List.range' s n).map g)
  | 0, _ => trivial
  | 1, _ => trivial
  | n + 2, s => ⟨hg s, alt_of g hg (n + 1) (s + 1)⟩
theorem same_2 {i : Nat} {x : Int} (h : 2 ≤ i) (hi : i ≤ 3002) (hx : 0 ≤ x) : (put nF (alts x i)).length ≤ i + 2 := by
  obtain ⟨m, rfl⟩ : ∃ m, i = m + 1 := ⟨i - 1, by omega⟩
  have ha : Alt (alts x (m + 1)) := by
    unfold alts; rw [List.range_eq_range']
    exact alt_of (fun (j : Nat) => ⟨true, (x + (j : Int)) % 100⟩) (fun j e => by simp only [Cell.mk.injEq, true_and] at e; omega) (m + 1) 0
  have hall : ∀ z ∈ alts x (m + 1), nF.is z = true ∧ 0 ≤ z.n ∧ z.n < 128 := fun z hz => by
    obtain ⟨j, _, rfl⟩ := List.mem_map.1 hz
    exact ⟨rfl, by show 0 ≤ (x + (j : Int)) % 100; omega, by show (x + (j : Int)) % 100 < 128; omega⟩
  have hlen := alts_len x (m + 1)
  generalize alts x (m + 1) = q at *
  cases q with
  | nil => simp at hlen
  | cons y q =>
    rw [put_alt nF (fun z hz => (hall z hz).1) ha, List.length_append]
    have h1 := flat_len nF 1 (y :: q) fun z hz => by rw [nF_one (hall z hz).2]; exact Nat.le_refl _
    simp only [List.length_cons] at hlen h1 ⊢
    have h2 := sB_le2 (n := -((q.length : Int) + 1)) (by omega)
    omega
/-! What the reference has is what is told -/
theorem nc_ok {c : Cell} (h : -9223372036854775808 ≤ c.n ∧ c.n < 9223372036854775808) (sg : Bool) : -9223372036854775808 ≤ (nc sg c).n ∧ (nc sg c).n < 9223372036854775808 ∧ (sg = false → 0 ≤ (nc sg c).n) ∧ ((nc sg c).is = false → (nc sg c).n = 0) := by
  unfold nc
  cases hi : c.is <;> cases sg <;> simp <;> (try split) <;> omega
/-- A cell as the walks have it: none has no number. -/
def Nm (sg : Bool) (c : Cell) : Prop := -9223372036854775808 ≤ c.n ∧ c.n < 9223372036854775808 ∧ (sg = false → 0 ≤ c.n) ∧ (c.is = false → c.n = 0)
theorem rN_inj (sg : Bool) {a b : Cell} (ha : Nm sg a) (hb : Nm sg b) (h : rN sg a = rN sg b) : a = b := by
  obtain ⟨ai, an⟩ := a
  obtain ⟨bi, bn⟩ := b
  unfold Nm at ha hb
  simp only [rN, Word.mk.injEq] at h
  obtain ⟨rfl, h2⟩ := h
  cases ai with
  | false => simp at ha hb; rw [ha.2.2.2, hb.2.2.2]
  | true =>
    simp only [if_true] at h2
    cases sg with
    | true =>
      simp only [if_true] at h2
      have := (bs_inj (sB_bytes _) (sB_bytes _)).1 h2
      have h3 := congrArg sv this
      rw [sv_sB, sv_sB] at h3
      rw [h3]
    | false =>
      simp only [Bool.false_eq_true, if_false] at h2
      have := (bs_inj (uB_bytes _) (uB_bytes _)).1 h2
      have h3 := congrArg lv this
      rw [lv_uB, lv_uB] at h3
      have h4 := ha.2.2.1 rfl
      have h5 := hb.2.2.1 rfl
      simp only at h4 h5 ha hb
      congr 1; omega
def fN (sg : Bool) : Fo Cell := if sg = true then sF else nF
theorem put_rN (sg : Bool) {l : List Cell} (h : ∀ c ∈ l, Nm sg c) : put bF (l.map (rN sg)) = put (fN sg) l := by
  refine put_map (fN sg) bF (rN sg) (fun a => ?_) (fun x hx y hy => rN_inj sg (h x hx) (h y hy)) (fun x hx hi => ?_)
  · cases sg <;> rfl
  · have hi' : x.is = true := by cases sg <;> exact hi
    rw [bF_pw, rN]
    cases sg with
    | true => simp only [hi', if_true]; rw [ss_bs (sB_bytes _)]; rfl
    | false => simp only [hi', if_true, Bool.false_eq_true, if_false]; rw [ss_bs (uB_bytes _)]; rfl
def Tx (w : Word) : Prop := w.is = false → w.s = ByteArray.empty
theorem tx_ok (w : Word) : Tx (tx w) := by
  unfold Tx tx
  split
  · rename_i h; intro h2; rw [h] at h2; cases h2
  · intro _; rfl
theorem tx_size (w : Word) : (tx w).s.size ≤ w.s.size := by
  unfold tx; split
  · exact Nat.le_refl _
  · exact Nat.zero_le _
theorem uB_cut {m n : Nat} {a b : List Int} (h : uB m ++ a = uB n ++ b) : m = n ∧ a = b := by
  have hm := lv_uB m
  have e : m = n := by
    refine uB_apart m n _ rfl ?_
    have h1 := congrArg (List.take (min (uB m).length (uB n).length)) h
    rwa [List.take_append_of_le_length (Nat.min_le_left _ _), List.take_append_of_le_length (Nat.min_le_right _ _)] at h1
  subst e
  exact ⟨rfl, List.append_cancel_left h⟩
theorem rW_inj {a b : Word} (ha : Tx a) (hb : Tx b) (h : rW a = rW b) : a = b := by
  obtain ⟨ai, as'⟩ := a
  obtain ⟨bi, bs'⟩ := b
  simp only [rW, Word.mk.injEq] at h
  obtain ⟨rfl, h2⟩ := h
  cases ai with
  | false => have h1 := ha rfl; have h3 := hb rfl; simp only at h1 h3; rw [h1, h3]
  | true =>
    simp only [if_true] at h2
    have h3 := congrArg ss h2
    rw [ss_append, ss_append, ss_bs (uB_bytes _), ss_bs (uB_bytes _)] at h3
    rw [ss_inj.1 (uB_cut h3).2]
theorem put_rW {l : List Word} (h : ∀ c ∈ l, Tx c) : put bF (l.map rW) = put wF l := by
  refine put_map wF bF rW (fun a => rfl) (fun x hx y hy => rW_inj (h x hx) (h y hy)) (fun x hx hi => ?_)
  have hi' : x.is = true := hi
  rw [bF_pw, rW]
  simp only [hi', if_true]
  rw [ss_append, ss_bs (uB_bytes _)]; rfl
theorem rN_len (sg : Bool) {c : Cell} (h : -9223372036854775808 ≤ c.n ∧ c.n < 9223372036854775808) : (bF.pw (rN sg c)).length ≤ 10 := by
  rw [bF_pw, size_ss]
  unfold rN
  split
  · split
    · rw [size_bs]; exact sB_len10 h.1 h.2
    · rw [size_bs]; exact uB_len10 (by omega)
  · exact Nat.zero_le _
theorem rW_len {c : Word} {n : Nat} (h : c.s.size ≤ n) (hn : n ≤ 1000000000) : (bF.pw (rW c)).length ≤ n + 10 := by
  rw [bF_pw, size_ss]
  unfold rW
  split
  · rw [ByteArray.size_append, size_bs]; have := uB_len10 (n := c.s.size) (by omega); omega
  · exact Nat.zero_le _
theorem rN_z (sg : Bool) (c : Cell) : (rN sg c).is = false → rN sg c = ⟨false, ByteArray.empty⟩ := fun h => by
  have h1 : c.is = false := h
  unfold rN; rw [h1]; rfl
theorem rW_z (c : Word) : (rW c).is = false → rW c = ⟨false, ByteArray.empty⟩ := fun h => by
  have h1 : c.is = false := h
  unfold rW; rw [h1]; rfl
theorem map_all {α β : Type} {P : β → Prop} {G : α → β} {l : List α} (h : ∀ a ∈ l, P (G a)) : ∀ b ∈ l.map G, P b := fun b hb => by
  obtain ⟨a, ha, rfl⟩ := List.mem_map.1 hb
  exact h a ha
end Go.Proofs.Ytgngmjlhpagmkaa.Rle
