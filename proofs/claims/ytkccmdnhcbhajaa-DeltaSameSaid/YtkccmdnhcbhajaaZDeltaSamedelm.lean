/- Differences and sums: what layer 12 says, in lists. -/
import Derived.Test.YtkccmdnhcbhajaaZDeltaSamerleg
namespace Go.Proofs.Ytkccmdnhcbhajaa.Rle
open Go.RowKit Go.Proofs.Ytkccmdnhcbhajaa.Sl Go.Proofs.Ytkccmdnhcbhajaa.Leb
set_option linter.unusedVariables false
set_option linter.unusedSimpArgs false
def st1 (a : Int) (c : Cell) : Cell := if c.is = true then ⟨c.is, wrap64 (c.n - a)⟩ else c
def sm1 (a : Int) (c : Cell) : Cell := if c.is = true then ⟨c.is, wrap64 (a + c.n)⟩ else c
def dn (a : Int) (c : Cell) : Int := if c.is = true then c.n else a
def un1 (a : Int) (c : Cell) : Int := if c.is = true then wrap64 (a + c.n) else a
/-- The last number ahead; the sum so far. -/
def lst : Int → List Cell → Int
  | a, [] => a
  | a, c :: l => lst (dn a c) l
def lsu : Int → List Cell → Int
  | a, [] => a
  | a, c :: l => lsu (un1 a c) l
def dS : Int → List Cell → List Cell
  | _, [] => []
  | a, c :: l => st1 a c :: dS (dn a c) l
def uS : Int → List Cell → List Cell
  | _, [] => []
  | a, c :: l => sm1 a c :: uS (un1 a c) l
theorem lst_snoc (c : Cell) : ∀ (l : List Cell) (a : Int), lst a (l ++ [c]) = dn (lst a l) c
  | [], a => rfl
  | d :: l, a => lst_snoc c l (dn a d)
theorem lsu_snoc (c : Cell) : ∀ (l : List Cell) (a : Int), lsu a (l ++ [c]) = un1 (lsu a l) c
  | [], a => rfl
  | d :: l, a => lsu_snoc c l (un1 a d)
theorem dS_snoc (c : Cell) : ∀ (l : List Cell) (a : Int), dS a (l ++ [c]) = dS a l ++ [st1 (lst a l) c]
  | [], a => rfl
  | d :: l, a => by rw [List.cons_append, dS, dS_snoc c l (dn a d)]; rfl
theorem uS_snoc (c : Cell) : ∀ (l : List Cell) (a : Int), uS a (l ++ [c]) = uS a l ++ [sm1 (lsu a l) c]
  | [], a => rfl
  | d :: l, a => by rw [List.cons_append, uS, uS_snoc c l (un1 a d)]; rfl
theorem dS_step {l : List Cell} {i : Nat} (h : i < l.length) : dS 0 (l.take (i + 1)) = dS 0 (l.take i) ++ [st1 (lst 0 (l.take i)) (l.getD i Cell.z)] := by rw [take_getD Cell.z h, dS_snoc]
theorem uS_step {l : List Cell} {i : Nat} (h : i < l.length) : uS 0 (l.take (i + 1)) = uS 0 (l.take i) ++ [sm1 (lsu 0 (l.take i)) (l.getD i Cell.z)] := by rw [take_getD Cell.z h, uS_snoc]
theorem lst_step {l : List Cell} {i : Nat} (h : i < l.length) : lst 0 (l.take (i + 1)) = dn (lst 0 (l.take i)) (l.getD i Cell.z) := by rw [take_getD Cell.z h, lst_snoc]
theorem lsu_step {l : List Cell} {i : Nat} (h : i < l.length) : lsu 0 (l.take (i + 1)) = un1 (lsu 0 (l.take i)) (l.getD i Cell.z) := by rw [take_getD Cell.z h, lsu_snoc]
theorem dS_len : ∀ (l : List Cell) (a : Int), (dS a l).length = l.length
  | [], a => rfl
  | d :: l, a => by rw [dS, List.length_cons, dS_len l]; rfl
theorem uS_len : ∀ (l : List Cell) (a : Int), (uS a l).length = l.length
  | [], a => rfl
  | d :: l, a => by rw [uS, List.length_cons, uS_len l]; rfl
def IR (n : Int) : Prop := -9223372036854775808 ≤ n ∧ n < 9223372036854775808
theorem wrap_rng (n : Int) : IR (wrap64 n) := by unfold IR wrap64; omega
theorem dS_all : ∀ (l : List Cell) (a : Int), (∀ x ∈ l, SQ x ∧ (x.is = false → x.n = 0)) → ∀ x ∈ dS a l, SQ x ∧ (x.is = false → x.n = 0)
  | [], a, _, x, hx => by cases hx
  | c :: l, a, h, x, hx => by
    rw [dS] at hx
    rcases List.mem_cons.1 hx with rfl | hx
    · unfold st1; split
      · rename_i hi
        exact ⟨wrap_rng _, fun e => by simp only at e; rw [hi] at e; cases e⟩
      · exact h c List.mem_cons_self
    · exact dS_all l _ (fun y hy => h y (List.mem_cons_of_mem _ hy)) x hx
theorem dS_any : ∀ (l : List Cell) (a : Int), anyF sF (dS a l) = anyF sF l
  | [], a => rfl
  | c :: l, a => by
    have h := dS_any l (dn a c)
    have h1 : sF.is (st1 a c) = sF.is c := by unfold st1; split <;> rfl
    unfold anyF at h ⊢
    rw [dS, List.any_cons, List.any_cons, h, h1]
theorem uS_dS : ∀ (l : List Cell) (a : Int), (∀ x ∈ l, SQ x) → uS a (dS a l) = l
  | [], a, _ => rfl
  | c :: l, a, h => by
    have hc := h c List.mem_cons_self
    have hl := fun y hy => h y (List.mem_cons_of_mem _ hy)
    rw [dS, uS]
    by_cases hi : c.is = true
    · have h1 : wrap64 (a + wrap64 (c.n - a)) = c.n := by unfold SQ at hc; unfold wrap64; omega
      have e1 : un1 a (st1 a c) = c.n := by unfold un1 st1; simp only [hi, if_true]; exact h1
      have e2 : dn a c = c.n := by unfold dn; rw [if_pos hi]
      have e3 : sm1 a (st1 a c) = c := by unfold sm1 st1; simp only [hi, if_true, h1]; cases c; simp only at hi; rw [hi]
      rw [e1, e2, e3, uS_dS l _ hl]
    · have e1 : un1 a (st1 a c) = a := by unfold un1 st1; rw [if_neg hi, if_neg hi]
      have e2 : dn a c = a := by unfold dn; rw [if_neg hi]
      have e3 : sm1 a (st1 a c) = c := by unfold sm1 st1; rw [if_neg hi, if_neg hi]
      rw [e1, e2, e3, uS_dS l _ hl]
theorem put_head {c d : Cell} {m : Nat} (hc : c.is = true) (hcr : SQ c) (hd : d.is = true) (hdn : -64 ≤ d.n ∧ d.n ≤ 63) (hm : m ≤ 8000) : (put sF (c :: List.replicate m d)).length ≤ 14 := by
  have hcl : (sF.pw c).length ≤ 10 := sF_len hcr
  have hdl : (sF.pw d).length = 1 := by rw [sF_pw, sB_lo hdn]; rfl
  match m, hm with
  | 0, _ =>
    rw [List.replicate_zero, put_one sF hc, List.length_append, sB_lo (by decide)]
    simp; omega
  | 1, _ =>
    by_cases e : c = d
    · subst e
      have := put_rep sF hc 0
      simp only [List.replicate_succ, List.replicate_zero] at this ⊢
      rw [this, List.length_append, sB_lo (by decide)]; simp; omega
    · have := put_alt sF (x := c) (l := [d]) (by intro z hz; simp at hz; rcases hz with rfl | rfl <;> assumption) ⟨fun h => e h.symm, trivial⟩
      simp only [List.replicate_succ, List.replicate_zero]
      rw [this, sB_lo (by simp only [List.length_cons, List.length_nil]; omega)]
      simp only [List.flatMap_cons, List.flatMap_nil, List.length_append, List.length_cons, List.length_nil]
      omega
  | m + 2, hm =>
    have h2 := sB_le2 (n := (m : Int) + 2) (by omega)
    have hr := put_rep sF hd m
    have ha : anyF sF (List.replicate (m + 2) d) = true := by unfold anyF; rw [List.replicate_succ, List.any_cons]; rw [show sF.is d = true from hd]; rfl
    rw [put_some ha] at hr
    by_cases e : c = d
    · subst e
      have := put_rep sF hc (m + 1)
      rw [← List.replicate_succ, this, List.length_append]
      have := sB_le2 (n := ((m + 1 : Nat) : Int) + 2) (by omega)
      omega
    · have hany : anyF sF (c :: List.replicate (m + 2) d) = true := by unfold anyF; rw [List.any_cons, show sF.is c = true from hc]; rfl
      have hrn : ¬ 0 < rn c (List.replicate (m + 2) d) := by rw [List.replicate_succ, rn, if_neg (fun h => e h.symm)]; decide
      have hli : lit sF (List.replicate (m + 2) d) = 0 := by
        rw [List.replicate_succ, lit, if_neg]
        intro h; have := h.2; rw [rn_rep] at this; omega
      rw [put_some hany, rl_lit sF (show sF.is c = true from hc) hrn, hli, List.take_zero, List.drop_zero, hr, sB_lo (by decide)]
      simp only [List.flatMap_cons, List.flatMap_nil, List.length_append, List.length_cons, List.length_nil]
      omega
theorem awake_delta : bs (put sF (dS 0 [⟨true, 5⟩, ⟨true, 6⟩, ⟨true, 7⟩])) = ByteArray.mk #[127, 5, 2, 1] := by
  have : put sF (dS 0 [⟨true, 5⟩, ⟨true, 6⟩, ⟨true, 7⟩]) = [127, 5, 2, 1] := by
    simp [put, anyF, rl, rlf, rn, lit, sF, sB_lo, dS, st1, dn, wrap64]
  rw [this]; rfl
/-- Numbers that rise by one each time. -/
def rise (x : Int) (n : Nat) : List Cell := (List.range n).map fun (j : Nat) => ⟨true, wrap64 (x + (j : Int))⟩
theorem rep_dS {x : Int} (hx : IR x) : ∀ n, dS 0 (List.replicate (n + 1) (⟨true, x⟩ : Cell)) = ⟨true, x⟩ :: List.replicate n ⟨true, 0⟩ := by
  have h0 : wrap64 (x - 0) = x := by unfold IR at hx; unfold wrap64; omega
  have h1 : wrap64 (x - x) = 0 := by unfold wrap64; omega
  have key : ∀ n, dS x (List.replicate n (⟨true, x⟩ : Cell)) = List.replicate n ⟨true, 0⟩ := by
    intro n
    induction n with
    | zero => rfl
    | succ n ih =>
      rw [List.replicate_succ, dS, show dn x (⟨true, x⟩ : Cell) = x from rfl, ih, List.replicate_succ]
      congr 1
      unfold st1
      simp only [if_true, h1]
  intro n
  rw [List.replicate_succ, dS, show dn 0 (⟨true, x⟩ : Cell) = x from rfl, key]
  congr 1
  unfold st1
  simp only [if_true, h0]
/-- What is put is read as it was. -/
theorem delta_back {l : List Cell} (hl : l.length < 4611686018427387904) (h : ∀ x ∈ l, SQ x ∧ (x.is = false → x.n = 0)) : (uS 0 (gtv sG l.length sF (put sF (dS 0 l))).1, (gtv sG l.length sF (put sF (dS 0 l))).2) = (if anyF sF l = true then l else [], 0) := by
  have hf : Fits sF sG (dS 0 l) := sF_fits (dS_all l 0 h)
  have hb := gtv_back (F := sF) (G := sG) (l := dS 0 l) (by rw [dS_len]; exact hl) hf
  rw [dS_len, dS_any] at hb
  rw [hb]
  split
  · rw [uS_dS l 0 fun x hx => (h x hx).1]
  · rfl
end Go.Proofs.Ytkccmdnhcbhajaa.Rle
