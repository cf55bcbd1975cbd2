/- Columns: the laws, in lists. -/
import Derived.Test.Ytgngmjlhpagmkaadirn
namespace Go.Proofs.Ytgngmjlhpagmkaa.Dir
open Go.RowKit Go.Proofs.Ytgngmjlhpagmkaa.Sl Go.Proofs.Ytgngmjlhpagmkaa.Leb
set_option linter.unusedVariables false
set_option linter.unusedSimpArgs false
theorem uB_le1 {n : Nat} (h : n < 128) : (uB n).length = 1 := by rw [uB_lo h]; rfl
theorem uB_le2 {n : Nat} (h : n < 16384) : (uB n).length ≤ 2 := uB_len 1 n (by omega)
theorem flat_bytes : ∀ {l : DC}, (∀ c ∈ l, 0 ≤ c.1 ∧ c.1 < 16384 ∧ c.2.length < 16384) → (uBs (flat l)).length ≤ 4 * l.length
  | [], _ => by simp [flat, uBs]
  | c :: l, h => by
    have h1 := flat_bytes (l := l) fun x hx => h x (List.mem_cons_of_mem _ hx)
    have h2 := h c List.mem_cons_self
    have h3 := uB_le2 (n := c.1.toNat) (by omega)
    have h4 := uB_le2 h2.2.2
    have e : uBs (flat (c :: l)) = uB c.1.toNat ++ (uB c.2.length ++ uBs (flat l)) := by simp [flat, uBs]
    rw [e, List.length_append, List.length_append, List.length_cons]
    omega
theorem put_size {l : DC} (h : Cs l) : (datas l).length < (put l).length ∧ (put l).length ≤ (datas l).length + 1 + 6 * (nz l).length := by
  have h1 := flat_bytes (l := nz l) fun c hc => by have := h.2.1 c (List.mem_filter.1 hc).1; exact ⟨by omega, by omega, by omega⟩
  have h2 := nz_len l
  have h3 := uB_le1 (n := (nz l).length) (by have := h.1; omega)
  unfold put heads
  rw [uBs_cons, List.length_append, List.length_append, Int.toNat_natCast]
  omega
def nzC (l : List Col) : List Col := l.filter fun c => decide (c.xs ≠ [])
theorem dc_nzC (l : List Col) : dc (nzC l) = nz (dc l) := by
  induction l with
  | nil => rfl
  | cons c l ih =>
    by_cases h : c.xs = []
    · simp [nzC, nz, dc, Col.d, h] at *; exact ih
    · simp [nzC, nz, dc, Col.d, h] at *; exact ih
theorem nzC_yes {l : List Col} {i : Nat} (hi : i < l.length) (h : 0 < ((l.getD i Col.z).xs.length : Int)) : nzC (l.take (i + 1)) = nzC (l.take i) ++ [l.getD i Col.z] := by
  have h0 : (l.getD i Col.z).xs ≠ [] := fun e => by rw [e] at h; simp at h
  rw [take_getD Col.z hi]
  generalize l.getD i Col.z = c at h0
  simp [nzC, h0]
theorem nzC_no {l : List Col} {i : Nat} (hi : i < l.length) (h : ¬ 0 < ((l.getD i Col.z).xs.length : Int)) : nzC (l.take (i + 1)) = nzC (l.take i) := by
  have h0 : (l.getD i Col.z).xs = [] := List.length_eq_zero_iff.1 (by omega)
  rw [take_getD Col.z hi]
  generalize l.getD i Col.z = c at h0
  simp [nzC, h0]
theorem mem_nzC {l : List Col} {i : Nat} {c : Col} (h : c ∈ nzC (l.take i)) : (c.s.v, c.xs) ∈ poolOf l := mem_poolOf (List.mem_of_mem_take (List.mem_filter.1 h).1)
theorem nzC_len (l : List Col) (i : Nat) : (nzC (l.take i)).length ≤ i := by
  have := List.length_filter_le (fun c : Col => decide (c.xs ≠ [])) (l.take i)
  have h2 : (l.take i).length ≤ i := by simp; omega
  unfold nzC; omega
theorem Cs.nzs {l : DC} (h : Cs l) : Cs (nz l) := ⟨by have := nz_len l; have := h.1; omega, fun c hc => h.2.1 c (List.mem_filter.1 hc).1, h.2.2.filter _⟩
theorem datas_up {l : List Col} {i : Nat} (hi : i < l.length) : (datas (dc (l.take (i + 1)))).length = (datas (dc (l.take i))).length + (l.getD i Col.z).xs.length := by rw [dc_step hi, datas_snoc, List.length_append]; rfl
/-! Back -/
theorem num_uB {n : Nat} {most : Int} (h : (n : Int) ≤ most) (hm : most < 18446744073709551616) (rest : List Int) : num most (uB n ++ rest) 0 = ((n : Int), rest, 0) := by
  have hg := getU_uB (n := n) (by omega) rest
  rw [num_ok (by rw [hg]) (by rw [hg]; show ¬ most < (n : Int); omega), hg]
  simp
theorem spn_cut : ∀ {t : List Int} (i j : Nat), Wf t → j < t.length → i + t.length ≤ 10 → spn (t.take j) i = (0, 2)
  | [], _, _, h, _, _ => h.elim
  | [x], i, j, h, hj, _ => by obtain rfl : j = 0 := by simp at hj; omega
                              rfl
  | x :: y :: r, i, 0, h, hj, hl => rfl
  | x :: y :: r, i, j + 1, h, hj, hl => by
    simp only [List.length_cons] at hj hl
    rw [List.take_succ_cons, spn, if_neg (by have := h.1; omega), if_neg (by omega)]
    exact spn_cut (i + 1) j h.2.2 (by simp; omega) (by simp; omega)
theorem num_cut {n j : Nat} {most : Int} (hn : n < 18446744073709551616) (hj : j < (uB n).length) : num most ((uB n).take j) 0 = (0, (uB n).take j, 2) := by
  have hs := spn_cut 0 j (uB_wf n) hj (by have := uB_len10 hn; omega)
  have hg : getU ((uB n).take j) = (0, 0, 2) := by rw [getU_bad (by rw [hs]; decide), hs]
  rw [num_bad (by rw [hg]; decide), hg]
/-- Heads that can be read back. -/
def Hs (last : Int) : DC → Prop
  | [] => True
  | c :: l => last < c.1 ∧ 0 ≤ c.1 ∧ c.1 ≤ 1048576 ∧ 0 < c.2.length ∧ c.2.length ≤ 1048576 ∧ Hs c.1 l
def prs (l : DC) : List (Int × Int) := l.map fun c => (c.1, (c.2.length : Int))
theorem flat_cons (c : Int × List Int) (l : DC) (rest : List Int) : uBs (flat (c :: l)) ++ rest = uB c.1.toNat ++ (uB c.2.length ++ (uBs (flat l) ++ rest)) := by simp [flat, uBs]
theorem hd_put : ∀ {l : DC} {last : Int} (rest : List Int), Hs last l → hd l.length last (uBs (flat l) ++ rest) = (0, prs l, rest)
  | [], _, _, _ => rfl
  | c :: l, last, rest, ⟨h1, h2, h3, h4, h5, h6⟩ => by
    have e1 := num_uB (n := c.1.toNat) (most := 1048576) (by omega) (by decide) (uB c.2.length ++ (uBs (flat l) ++ rest))
    have e2 := num_uB (n := c.2.length) (most := 1048576) (by omega) (by decide) (uBs (flat l) ++ rest)
    have hr := hd_put rest h6
    rw [Int.toNat_of_nonneg h2] at e1
    rw [flat_cons, List.length_cons, hd]
    simp only [e1, e2, hr]
    rw [if_neg (by decide), if_neg (by omega), if_neg (by decide)]
    rfl
theorem hd_cut : ∀ {l : DC} {last : Int} (k : Nat), Hs last l → k < (uBs (flat l)).length → hd l.length last ((uBs (flat l)).take k) = (2, [], [])
  | [], _, k, _, hk => by simp [flat, uBs] at hk
  | c :: l, last, k, ⟨h1, h2, h3, h4, h5, h6⟩, hk => by
    have ef := flat_cons c l []
    simp only [List.append_nil] at ef
    rw [ef] at hk ⊢
    rw [List.length_append, List.length_append] at hk
    rw [List.length_cons, hd]
    rcases Nat.lt_or_ge k (uB c.1.toNat).length with h | h
    · rw [List.take_append_of_le_length (by omega), num_cut (by omega) h]
      rw [num_err (l := (uB c.1.toNat).take k) (e := 2) (show (2 : Int) ≠ 0 by decide), if_pos (show (2 : Int) ≠ 0 by decide)]
    · rw [List.take_append, List.take_of_length_le h]
      have e1 := num_uB (n := c.1.toNat) (most := 1048576) (by omega) (by decide)
      rw [Int.toNat_of_nonneg h2] at e1
      simp only [e1]
      rcases Nat.lt_or_ge (k - (uB c.1.toNat).length) (uB c.2.length).length with h' | h'
      · rw [List.take_append_of_le_length (by omega), num_cut (by omega) h', if_pos (show (2 : Int) ≠ 0 by decide)]
      · rw [List.take_append, List.take_of_length_le h']
        have e2 := num_uB (n := c.2.length) (most := 1048576) (by omega) (by decide)
        have hr := hd_cut (k - (uB c.1.toNat).length - (uB c.2.length).length) h6 (by omega)
        simp only [e2, hr]
        rw [if_neg (by decide), if_neg (by omega), if_pos (by decide)]
theorem fill_put : ∀ (l : DC) (rest : List Int), fill (prs l) (datas l ++ rest) = if 0 < rest.length then (3, []) else (0, l)
  | [], rest => by
    show fill [] rest = _
    unfold fill; rfl
  | c :: l, rest => by
    have e : datas (c :: l) ++ rest = c.2 ++ (datas l ++ rest) := by simp [datas]
    have hr := fill_put l rest
    show fill ((c.1, (c.2.length : Int)) :: prs l) _ = _
    rw [fill, e, if_neg (by simp only [List.length_append]; omega), Int.toNat_natCast, List.drop_left, List.take_left, hr]
    split
    · rw [if_pos (by decide)]
    · rw [if_neg (fun h => h rfl)]
theorem fill_cut : ∀ (l : DC) (k : Nat), k < (datas l).length → fill (prs l) ((datas l).take k) = (2, [])
  | [], k, hk => by simp [datas] at hk
  | c :: l, k, hk => by
    have e : datas (c :: l) = c.2 ++ datas l := by simp [datas]
    rw [e] at hk ⊢
    rw [List.length_append] at hk
    show fill ((c.1, (c.2.length : Int)) :: prs l) _ = _
    rcases Nat.lt_or_ge k c.2.length with h | h
    · rw [fill, if_pos (by simp only [List.length_take, List.length_append]; omega)]
    · rw [List.take_append, List.take_of_length_le h, fill, if_neg (by simp only [List.length_append]; omega), Int.toNat_natCast, List.drop_left]
      rw [fill_cut l _ (by omega), if_pos (by decide)]
theorem Cs.hs {l : DC} (h : Cs l) : Hs (-1) (nz l) := by
  have key : ∀ (m : DC) (last : Int), (∀ c ∈ m, 0 < c.1 ∧ c.1 ≤ 15360 ∧ c.2.length ≤ 200 ∧ c.2 ≠ []) → m.Pairwise (fun a b => a.1 < b.1) → (∀ c ∈ m, last < c.1) → Hs last m := by
    intro m
    induction m with
    | nil => intro _ _ _ _; trivial
    | cons c m ih =>
      intro last h1 h2 h3
      have hc := h1 c List.mem_cons_self
      have hp := List.pairwise_cons.1 h2
      refine ⟨h3 c List.mem_cons_self, by omega, by omega, List.length_pos_iff.2 hc.2.2.2, by omega, ih c.1 (fun x hx => h1 x (List.mem_cons_of_mem _ hx)) hp.2 hp.1⟩
  refine key _ _ (fun c hc => ?_) (h.2.2.filter _) (fun c hc => ?_)
  · have h1 := List.mem_filter.1 hc
    have h2 := h.2.1 c h1.1
    exact ⟨h2.1, h2.2.1, h2.2.2.1, by simpa using h1.2⟩
  · have := h.2.1 c (List.mem_filter.1 hc).1; omega
theorem put_eq (l : DC) : put l = uB (nz l).length ++ (uBs (flat (nz l)) ++ datas (nz l)) := by
  unfold put heads; rw [uBs_cons, datas_nz, Int.toNat_natCast, List.append_assoc]
theorem get_put {l : DC} (h : Cs l) (rest : List Int) : get (put l ++ rest) = if 0 < rest.length then (3, []) else (0, nz l) := by
  have hn : (nz l).length ≤ 60 := by have := nz_len l; have := h.1; omega
  have e1 := num_uB (n := (nz l).length) (most := 64) (by omega) (by decide) (uBs (flat (nz l)) ++ datas (nz l) ++ rest)
  have e2 := hd_put (datas (nz l) ++ rest) h.hs
  have e : put l ++ rest = uB (nz l).length ++ (uBs (flat (nz l)) ++ datas (nz l) ++ rest) := by rw [put_eq]; simp
  rw [e]
  rw [List.append_assoc (uBs _)] at e1 ⊢
  rw [get_fill (by rw [e1]) (by rw [e1, Int.toNat_natCast]; exact e2)]
  exact fill_put _ _
theorem get_cut {l : DC} (h : Cs l) {k : Nat} (hk : k < (put l).length) : get ((put l).take k) = (2, []) := by
  have hn : (nz l).length ≤ 60 := by have := nz_len l; have := h.1; omega
  rw [put_eq] at hk ⊢
  rw [List.length_append, List.length_append] at hk
  rcases Nat.lt_or_ge k (uB (nz l).length).length with h1 | h1
  · rw [List.take_append_of_le_length (by omega), get_one (by rw [num_cut (by omega) h1]; exact (show (2 : Int) ≠ 0 by decide)), num_cut (by omega) h1]
  · rw [List.take_append, List.take_of_length_le h1]
    have e1 := num_uB (n := (nz l).length) (most := 64) (by omega) (by decide) ((uBs (flat (nz l)) ++ datas (nz l)).take (k - (uB (nz l).length).length))
    rcases Nat.lt_or_ge (k - (uB (nz l).length).length) (uBs (flat (nz l))).length with h2 | h2
    · rw [List.take_append_of_le_length (by omega)] at e1 ⊢
      exact get_hd (by rw [e1]) (by rw [e1, Int.toNat_natCast]; exact hd_cut _ h.hs h2) (by decide)
    · rw [List.take_append, List.take_of_length_le h2] at e1 ⊢
      rw [get_fill (by rw [e1]) (by rw [e1, Int.toNat_natCast]; exact hd_put _ h.hs)]
      exact fill_cut _ _ (by omega)
/-! Only what Put puts is read -/
theorem num_inv {l : List Int} {most : Int} (hb : Bs l) (h : (num most l 0).2.2 = 0) : ∃ n : Nat, (n : Int) ≤ most ∧ (num most l 0).1 = n ∧ l = uB n ++ (num most l 0).2.1 := by
  by_cases h1 : (getU l).2.2 = 0
  · by_cases h2 : most < (getU l).1
    · rw [num_big h1 h2] at h; exact absurd h (show ¬ (4 : Int) = 0 by decide)
    · obtain ⟨n, rest, hn, e, hg⟩ := getU_inv hb h1
      rw [num_ok h1 h2]
      rw [hg] at h2 ⊢
      exact ⟨n, Int.not_lt.1 h2, rfl, by subst e; simp⟩
  · rw [num_bad h1] at h; exact absurd h h1
theorem hd_inv : ∀ {n : Nat} {last : Int} {l rest : List Int} {hs : List (Int × Int)}, Bs l → -1 ≤ last → hd n last l = (0, hs, rest) → hs.length = n ∧ l = uBs (hs.flatMap fun h => [h.1, h.2]) ++ rest ∧ Bs rest ∧ (∀ h ∈ hs, last < h.1 ∧ 0 < h.2 ∧ h.1 ≤ 1048576) ∧ hs.Pairwise fun a b => a.1 < b.1
  | 0, last, l, rest, hs, hb, hl, h => by
    simp only [hd, Prod.mk.injEq, true_and] at h
    obtain ⟨rfl, rfl⟩ := h
    exact ⟨rfl, rfl, hb, fun _ h => (List.not_mem_nil h).elim, List.Pairwise.nil⟩
  | n + 1, last, l, rest, hs, hb, hl, h => by
    rw [hd] at h
    split at h
    · rename_i h1; exact absurd (congrArg Prod.fst h) h1
    · rename_i h1
      have h1' : (num 1048576 (num 1048576 l 0).2.1 (num 1048576 l 0).2.2).2.2 = 0 := by omega
      have h0 : (num 1048576 l 0).2.2 = 0 := by
        by_cases e : (num 1048576 l 0).2.2 = 0
        · exact e
        · rw [num_err e] at h1'; exact h1'
      split at h
      · exact absurd (congrArg Prod.fst h) (show ¬ (3 : Int) = 0 by decide)
      · rename_i h2
        split at h
        · rename_i h3; exact absurd (congrArg Prod.fst h) h3
        · rename_i h3
          rw [h0] at h1' h2 h3 h
          obtain ⟨a, ha, ea, el⟩ := num_inv hb h0
          have hb1 := num_bs 1048576 0 hb
          obtain ⟨b, hb', eb, er⟩ := num_inv hb1 h1'
          have hb2 := num_bs 1048576 0 hb1
          simp only [Prod.mk.injEq, true_and] at h
          obtain ⟨hh, hrest⟩ := h
          have hrec : hd n (num 1048576 l 0).1 (num 1048576 (num 1048576 l 0).2.1 0).2.1 = (0, (hd n (num 1048576 l 0).1 (num 1048576 (num 1048576 l 0).2.1 0).2.1).2.1, rest) := by
            rw [← hrest]
            generalize hd n _ _ = q at h3
            obtain ⟨q1, q2, q3⟩ := q
            simp only [ne_eq, Decidable.not_not] at h3
            simp only [h3]
          obtain ⟨i1, i2, i3, i4, i5⟩ := hd_inv hb2 (by omega) hrec
          subst hh
          refine ⟨by simp [i1], ?_, i3, ?_, ?_⟩
          · rw [List.flatMap_cons, ea, eb]
            have : uBs ([(a : Int), (b : Int)] ++ (List.flatMap (fun h => [h.1, h.2]) (hd n (num 1048576 l 0).1 (num 1048576 (num 1048576 l 0).2.1 0).2.1).2.1)) = uB a ++ (uB b ++ uBs (List.flatMap (fun h => [h.1, h.2]) (hd n (num 1048576 l 0).1 (num 1048576 (num 1048576 l 0).2.1 0).2.1).2.1)) := by simp [uBs]
            rw [← ea, ← eb] at this ⊢
            rw [this, List.append_assoc, List.append_assoc, ← i2, ← er]
            exact el
          · intro x hx
            rcases List.mem_cons.1 hx with rfl | hx
            · exact ⟨by omega, by omega, by omega⟩
            · have := i4 x hx; omega
          · exact List.Pairwise.cons (fun x hx => (i4 x hx).1) i5
theorem fill_inv : ∀ {hs : List (Int × Int)} {l : List Int} {d : DC}, (∀ h ∈ hs, 0 < h.2) → fill hs l = (0, d) → l = datas d ∧ prs d = hs
  | [], l, d, _, h => by
    unfold fill at h
    split at h
    · cases h
    · simp only [Prod.mk.injEq, true_and] at h
      subst h
      exact ⟨List.length_eq_zero_iff.1 (by omega), rfl⟩
  | x :: hs, l, d, hp, h => by
    have hx := hp x List.mem_cons_self
    rw [fill] at h
    split at h
    · cases h
    · rename_i h1
      split at h
      · rename_i h2; exact absurd (congrArg Prod.fst h) h2
      · rename_i h2
        simp only [Prod.mk.injEq, true_and] at h
        have hrec : fill hs (l.drop x.2.toNat) = (0, (fill hs (l.drop x.2.toNat)).2) := by
          generalize fill hs _ = q at h2
          obtain ⟨q1, q2⟩ := q
          simp only [ne_eq, Decidable.not_not] at h2
          simp only [h2]
        obtain ⟨i1, i2⟩ := fill_inv (fun y hy => hp y (List.mem_cons_of_mem _ hy)) hrec
        subst h
        refine ⟨?_, ?_⟩
        · have : datas ((x.1, l.take x.2.toNat) :: (fill hs (l.drop x.2.toNat)).2) = l.take x.2.toNat ++ datas (fill hs (l.drop x.2.toNat)).2 := by simp [datas]
          rw [this, ← i1, List.take_append_drop]
        · have : prs ((x.1, l.take x.2.toNat) :: (fill hs (l.drop x.2.toNat)).2) = (x.1, ((l.take x.2.toNat).length : Int)) :: prs (fill hs (l.drop x.2.toNat)).2 := rfl
          rw [this, i2, List.length_take]
          congr 1
          have : ((min x.2.toNat l.length : Nat) : Int) = x.2 := by omega
          rw [this]
theorem flat_prs (d : DC) : (prs d).flatMap (fun h => [h.1, h.2]) = flat d := by
  induction d with
  | nil => rfl
  | cons c d ih => simp only [prs, List.map_cons, List.flatMap_cons, flat] at *; rw [ih]
/-- What is read back is what was put, and nothing else is read. -/
theorem get_inv {b : List Int} (hb : Bs b) (h : (get b).1 = 0) : put (get b).2 = b ∧ nz (get b).2 = (get b).2 ∧ (get b).2.Pairwise (fun x y => x.1 < y.1) ∧ (∀ c ∈ (get b).2, 0 ≤ c.1 ∧ c.2 ≠ [] ∧ c.1 ≤ 1048576 ∧ Bs c.2) := by
  by_cases h0 : (num 64 b 0).2.2 = 0
  · obtain ⟨n, hn, en, eb⟩ := num_inv hb h0
    have hb1 := num_bs 64 0 hb
    by_cases h1 : (hd (num 64 b 0).1.toNat (-1) (num 64 b 0).2.1).1 = 0
    · have hh : hd (num 64 b 0).1.toNat (-1) (num 64 b 0).2.1 = (0, (hd (num 64 b 0).1.toNat (-1) (num 64 b 0).2.1).2.1, (hd (num 64 b 0).1.toNat (-1) (num 64 b 0).2.1).2.2) := by
        generalize hd _ _ _ = q at h1
        obtain ⟨q1, q2, q3⟩ := q
        simp only at h1
        simp only [h1]
      obtain ⟨i1, i2, i3, i4, i5⟩ := hd_inv hb1 (by decide) hh
      have hg := get_fill h0 hh
      generalize hhs : (hd (num 64 b 0).1.toNat (-1) (num 64 b 0).2.1).2.1 = hs at *
      generalize hrr : (hd (num 64 b 0).1.toNat (-1) (num 64 b 0).2.1).2.2 = rr at *
      have hf : fill hs rr = (0, (get b).2) := by
        rw [hg] at h ⊢
        generalize fill hs rr = q at h
        obtain ⟨q1, q2⟩ := q
        simp only at h
        simp only [h]
      obtain ⟨j1, j2⟩ := fill_inv (fun x hx => (i4 x hx).2.1) hf
      generalize (get b).2 = d at *
      have hne : ∀ c ∈ d, 0 ≤ c.1 ∧ c.2 ≠ [] ∧ c.1 ≤ 1048576 ∧ Bs c.2 := fun c hc => by
        have hm : (c.1, (c.2.length : Int)) ∈ prs d := List.mem_map_of_mem (f := fun c : Int × List Int => (c.1, (c.2.length : Int))) hc
        rw [j2] at hm
        have := i4 _ hm
        refine ⟨by omega, fun e => ?_, this.2.2, fun x hx => ?_⟩
        · rw [e] at this; simp at this
        · rw [j1] at i3; exact i3 x (List.mem_flatMap.2 ⟨c, hc, hx⟩)
      have hnz : nz d = d := List.filter_eq_self.2 fun c hc => by simpa using (hne c hc).2.1
      refine ⟨?_, hnz, ?_, hne⟩
      · have hlen : d.length = n := by
          have := congrArg List.length j2
          rw [prs, List.length_map, i1, en] at this
          simpa using this
        unfold put heads
        rw [hnz, uBs_cons, ← flat_prs, j2, Int.toNat_natCast, hlen, ← j1, List.append_assoc, ← i2]
        exact eb.symm
      · have : (prs d).Pairwise (fun a b => a.1 < b.1) := by rw [j2]; exact i5
        exact (List.pairwise_map (f := fun c : Int × List Int => (c.1, (c.2.length : Int))) (R := fun a b : Int × Int => a.1 < b.1)).1 this
    · have := get_hd h0 (e := (hd (num 64 b 0).1.toNat (-1) (num 64 b 0).2.1).1) (by
        have e := hd_bad _ _ _ h1
        generalize hd _ _ _ = q at e
        obtain ⟨q1, q2⟩ := q
        simp only at e
        simp only [e]) h1
      rw [this] at h; exact absurd h h1
  · rw [get_one h0] at h; exact absurd h h0
theorem nz_get {b : List Int} (hb : Bs b) : nz (get b).2 = (get b).2 := by
  by_cases h : (get b).1 = 0
  · exact (get_inv hb h).2.1
  · have : (get b).2 = [] := by
      unfold get at h ⊢
      split
      · rfl
      · split
        · rfl
        · rename_i h1 h2
          rw [if_neg h1, if_neg h2] at h
          exact fill_bad _ _ h
    rw [this]; rfl
theorem get_bad {b : List Int} (h : (get b).1 ≠ 0) : (get b).2 = [] := by
  unfold get at h ⊢
  split
  · rfl
  · split
    · rfl
    · rename_i h1 h2
      rw [if_neg h1, if_neg h2] at h
      exact fill_bad _ _ h
theorem find_at : ∀ {l : DC} {i : Nat}, l.Pairwise (fun x y => x.1 < y.1) → i < l.length → find (l.getD i (0, [])).1 l = (l.getD i (0, [])).2
  | [], _, _, h => by simp at h
  | c :: l, 0, _, _ => by simp [find]
  | c :: l, i + 1, h, hi => by
    have hp := List.pairwise_cons.1 h
    have hlt : i < l.length := by simpa using hi
    have hm : l.getD i (0, []) ∈ l := mem_getD hlt
    have := hp.1 _ hm
    rw [List.getD_cons_succ, find, if_neg (by omega)]
    exact find_at hp.2 hlt
theorem up_at {l : DC} {i : Nat} (h : l.Pairwise (fun x y => x.1 < y.1)) (hi : i < l.length) (h0 : 0 < i) : (l.getD (i - 1) (0, [])).1 < (l.getD i (0, [])).1 := by
  have := List.pairwise_iff_getElem.1 h (i - 1) i (by omega) hi (by omega)
  simpa [List.getD_eq_getElem?_getD, hi, show i - 1 < l.length by omega] using this
theorem uBs_ge : ∀ l : List Int, l.length ≤ (uBs l).length
  | [] => Nat.le_refl _
  | x :: l => by
    have := uBs_ge l
    have h2 := uB_pos x.toNat
    rw [uBs_cons, List.length_append, List.length_cons]; omega
theorem put_ge (l : DC) : 2 * (nz l).length + (datas l).length ≤ (put l).length := by
  have h1 := uBs_ge (((nz l).length : Int) :: heads l)
  have h2 := flat_len (nz l)
  unfold put
  rw [List.length_append]
  rw [List.length_cons] at h1
  unfold heads at *
  omega
theorem once_at {x : List Col} {b : List Int} (hA : dc x = (get b).2) (hg : put (get b).2 = b ∧ nz (get b).2 = (get b).2 ∧ (get b).2.Pairwise (fun x y => x.1 < y.1) ∧ (∀ c ∈ (get b).2, 0 ≤ c.1 ∧ c.2 ≠ [] ∧ c.1 ≤ 1048576 ∧ Bs c.2)) {i : Nat} (hi : i < x.length) :
    (x.getD i Col.z).xs.length ≠ 0 ∧ (0 < i → (x.getD (i - 1) Col.z).id < (x.getD i Col.z).id) ∧ find (x.getD i Col.z).id (dc x) = (x.getD i Col.z).xs := by
  rw [← hA] at hg
  have hl : i < (dc x).length := by rw [dc_len]; exact hi
  have hd := dc_getD hi
  have h4 := hg.2.2.2 _ (mem_getD (d := (0, [])) hl)
  rw [hd] at h4
  refine ⟨fun e => h4.2.1 (List.length_eq_zero_iff.1 e), fun h0 => ?_, ?_⟩
  · have := up_at hg.2.2.1 hl h0
    rw [hd, dc_getD (by omega)] at this
    exact this
  · have := find_at hg.2.2.1 hl
    rw [hd] at this
    exact this
theorem once_ok {x : List Col} {b : List Int} (hA : dc x = (get b).2) (hn : b.length ≤ 1500) (hg : put (get b).2 = b ∧ nz (get b).2 = (get b).2 ∧ (get b).2.Pairwise (fun x y => x.1 < y.1) ∧ (∀ c ∈ (get b).2, 0 ≤ c.1 ∧ c.2 ≠ [] ∧ c.1 ≤ 1048576 ∧ Bs c.2)) :
    Ok (dc x) ∧ (datas (dc x)).length ≤ 1500 ∧ x.length ≤ 1500 := by
  have h := put_ge (get b).2
  rw [hg.1, hg.2.1] at h
  rw [hA, ← dc_len, hA]
  refine ⟨fun c hc => ?_, by omega, by omega⟩
  have h4 := hg.2.2.2 c hc
  have h5 : c.2.length ≤ (datas (get b).2).length := by
    obtain ⟨i, hi, e⟩ := List.mem_iff_getElem.1 hc
    have h6 := datas_take (get b).2 (i + 1)
    rw [List.take_succ_eq_append_getElem hi, datas_snoc, List.length_append, e] at h6
    omega
  exact ⟨h4.1, by omega, by omega, h4.2.2.2⟩
end Go.Proofs.Ytgngmjlhpagmkaa.Dir
