/- Runs read: what layer 11 reads of bytes, in lists. -/
import Derived.Test.YtdjaoonjfampmaaZRawNullsrlep
namespace Go.Proofs.Ytdjaoonjfampmaa.Rle
open Go.RowKit Go.Proofs.Ytdjaoonjfampmaa.Sl Go.Proofs.Ytdjaoonjfampmaa.Leb
set_option linter.unusedVariables false
set_option linter.unusedSimpArgs false
set_option linter.unusedSectionVars false
/-- How values are read: the value, how many bytes, which error. -/
structure Fg (α : Type) where
  z : α
  gt : List Int → α × Int × Int
def nG : Fg Cell := ⟨Cell.z, fun l => if (getU l).2.2 = 0 ∧ 9223372036854775807 < (getU l).1 then (Cell.z, 0, 4) else (⟨true, (getU l).1⟩, (getU l).2.1, (getU l).2.2)⟩
def sG : Fg Cell := ⟨Cell.z, fun l => (⟨true, (getS l).1⟩, (getS l).2.1, (getS l).2.2)⟩
def wG : Fg Word := ⟨Word.z, fun l => if (getU l).2.2 = 0 then (if (l.length : Int) - (getU l).2.1 < (getU l).1 then (Word.z, 0, 2) else (⟨true, bs ((l.take ((getU l).2.1.toNat + (getU l).1.toNat)).drop (getU l).2.1.toNat)⟩, (((getU l).2.1.toNat + (getU l).1.toNat : Nat) : Int), 0)) else (Word.z, 0, (getU l).2.2)⟩
theorem getU_ok {l : List Int} (hb : Bs l) (h : (getU l).2.2 = 0) : 0 ≤ (getU l).1 ∧ (getU l).1 < 18446744073709551616 ∧ 1 ≤ (getU l).2.1 ∧ (getU l).2.1 ≤ l.length ∧ (getU l).2.1 ≤ 10 := by
  obtain ⟨n, rest, hn, rfl, hg⟩ := getU_inv hb h
  have h1 := uB_pos n
  have h2 := uB_len10 hn
  rw [hg]
  simp only [List.length_append]
  omega
theorem getU_no {l : List Int} (hb : Bs l) (h : (getU l).2.2 ≠ 0) : (getU l).1 = 0 ∧ (getU l).2.1 = 0 ∧ 0 < (getU l).2.2 ∧ (getU l).2.2 ≤ 3 := by have := getU_err hb h; omega
theorem getS_ok {l : List Int} (hb : Bs l) (h : (getS l).2.2 = 0) : -9223372036854775808 ≤ (getS l).1 ∧ (getS l).1 < 9223372036854775808 ∧ 1 ≤ (getS l).2.1 ∧ (getS l).2.1 ≤ l.length ∧ (getS l).2.1 ≤ 10 := by
  obtain ⟨n, rest, hn, hn2, rfl, hg⟩ := getS_inv hb h
  have h1 := sB_pos n
  have h2 := sB_len10 hn hn2
  rw [hg]
  simp only [List.length_append]
  omega
theorem getS_no {l : List Int} (hb : Bs l) (h : (getS l).2.2 ≠ 0) : (getS l).1 = 0 ∧ (getS l).2.1 = 0 ∧ 0 < (getS l).2.2 ∧ (getS l).2.2 ≤ 3 := by have := getS_err hb h; omega
/-- What a reading leaves. -/
def GOk {α : Type} (G : Fg α) : Prop := ∀ l, Bs l → ((G.gt l).2.2 = 0 → 1 ≤ (G.gt l).2.1 ∧ (G.gt l).2.1 ≤ l.length) ∧ 0 ≤ (G.gt l).2.2 ∧ (G.gt l).2.2 ≤ 4
theorem nG_ok : GOk nG := fun l hb => by
  have h1 := getU_ok hb; have h2 := getU_no hb
  simp only [nG]
  split
  · exact ⟨fun h => by simp at h, by decide, by decide⟩
  · by_cases e : (getU l).2.2 = 0
    · have := h1 e; exact ⟨fun _ => by simp only; omega, by simp only; omega, by simp only; omega⟩
    · have := h2 e; exact ⟨fun h => absurd h e, by simp only; omega, by simp only; omega⟩
section
variable {α : Type} [DecidableEq α] (G : Fg α) (M : Nat)
/-- So many items, as the loop reads them. -/
def itm (n : Int) : Nat → Nat → α → List Int → List α → Int ⊕ (List Int × List α)
  | 0, _, _, l, o => .inr (l, o)
  | r + 1, i, x, l, o =>
    if n < 0 ∨ (0 < n ∧ i = 0) then (if (G.gt l).2.2 = 0 then itm n r (i + 1) (G.gt l).1 (l.drop (G.gt l).2.1.toNat) (o ++ [(G.gt l).1]) else .inl (G.gt l).2.2)
    else itm n r (i + 1) x l (o ++ [x])
def step (l : List Int) (o : List α) : Int ⊕ (List Int × List α) :=
  if (getS l).2.2 = 0 then
    (if (getS l).1 = 0 then
      (if (getU (l.drop (getS l).2.1.toNat)).2.2 = 0 then
        (if M < o.length + (getU (l.drop (getS l).2.1.toNat)).1.toNat then .inl 4
         else itm G 0 (getU (l.drop (getS l).2.1.toNat)).1.toNat 0 G.z (l.drop ((getS l).2.1.toNat + (getU (l.drop (getS l).2.1.toNat)).2.1.toNat)) o)
       else .inl (getU (l.drop (getS l).2.1.toNat)).2.2)
     else if (getS l).1 < -4611686018427387904 ∨ M < o.length + (getS l).1.natAbs then .inl 4
     else itm G (getS l).1 (getS l).1.natAbs 0 G.z (l.drop (getS l).2.1.toNat) o)
  else .inl (getS l).2.2
def decf : Nat → List Int → List α → List α × Int
  | 0, _, o => (o, 0)
  | k + 1, l, o => if l = [] then (o, 0) else match step G M l o with
    | .inl e => ([], e)
    | .inr p => decf k p.1 p.2
def dec (l : List Int) (o : List α) : List α × Int := decf G M l.length l o
/-- What a reading answers. -/
def gtv (F : Fo α) (b : List Int) : List α × Int := if (dec G M b []).2 = 0 then (if put F (dec G M b []).1 = b then dec G M b [] else ([], 3)) else ([], (dec G M b []).2)
variable {G} {M}
theorem itm_rest {n : Int} : ∀ (r i : Nat) (x : α) (l : List Int) (o : List α) (p : List Int × List α), itm G n r i x l o = .inr p → (∃ k, p.1 = l.drop k) ∧ p.2.length = o.length + r
  | 0, i, x, l, o, p, h => by
    simp only [itm, Sum.inr.injEq] at h; subst h; exact ⟨⟨0, rfl⟩, rfl⟩
  | r + 1, i, x, l, o, p, h => by
    rw [itm] at h
    split at h
    · split at h
      · obtain ⟨⟨k, hk⟩, hl⟩ := itm_rest r _ _ _ _ p h
        exact ⟨⟨(G.gt l).2.1.toNat + k, by rw [hk, List.drop_drop]⟩, by rw [hl]; simp; omega⟩
      · cases h
    · obtain ⟨⟨k, hk⟩, hl⟩ := itm_rest r _ _ _ _ p h
      exact ⟨⟨k, hk⟩, by rw [hl]; simp; omega⟩
theorem step_rest {l : List Int} {o : List α} {p : List Int × List α} (hb : Bs l) (hl : l ≠ []) (h : step G M l o = .inr p) : Bs p.1 ∧ p.1.length < l.length ∧ p.2.length ≤ M := by
  have hll := List.length_pos_iff.2 hl
  unfold step at h
  split at h
  · rename_i hs
    have h1 := getS_ok hb hs
    split at h
    · split at h
      · split at h
        · cases h
        · obtain ⟨⟨k, hk⟩, h2⟩ := itm_rest _ _ _ _ _ p h
          rw [hk]
          exact ⟨(hb.drop _).drop _, by simp only [List.length_drop]; omega, by omega⟩
      · cases h
    · split at h
      · cases h
      · rename_i hc
        obtain ⟨⟨k, hk⟩, h2⟩ := itm_rest _ _ _ _ _ p h
        rw [hk]
        exact ⟨(hb.drop _).drop _, by simp only [List.length_drop]; omega, by omega⟩
  · cases h
theorem decf_fuel : ∀ (k j : Nat) (l : List Int) (o : List α), Bs l → l.length ≤ k → l.length ≤ j → decf G M k l o = decf G M j l o
  | 0, 0, _, _, _, _, _ => rfl
  | 0, j + 1, l, o, _, h, _ => by rw [List.length_eq_zero_iff.1 (Nat.le_zero.1 h)]; rfl
  | k + 1, 0, l, o, _, _, h => by rw [List.length_eq_zero_iff.1 (Nat.le_zero.1 h)]; rfl
  | k + 1, j + 1, l, o, hb, h1, h2 => by
    rw [decf, decf]
    split
    · rfl
    · rename_i hl
      cases hs : step G M l o with
      | inl e => rfl
      | inr p =>
        have := step_rest hb hl hs
        exact decf_fuel k j p.1 p.2 this.1 (by omega) (by omega)
theorem dec_nil (o : List α) : dec G M [] o = (o, 0) := rfl
theorem dec_go {l : List Int} {o : List α} {p : List Int × List α} (hb : Bs l) (hl : l ≠ []) (h : step G M l o = .inr p) : dec G M l o = dec G M p.1 p.2 := by
  have h1 := step_rest hb hl h
  have h2 := List.length_pos_iff.2 hl
  unfold dec
  rw [show l.length = (l.length - 1) + 1 by omega, decf, if_neg hl, h]
  exact decf_fuel _ _ _ _ h1.1 (by omega) (Nat.le_refl _)
theorem dec_err {l : List Int} {o : List α} {e : Int} (hl : l ≠ []) (h : step G M l o = .inl e) : dec G M l o = ([], e) := by
  have h2 := List.length_pos_iff.2 hl
  unfold dec
  rw [show l.length = (l.length - 1) + 1 by omega, decf, if_neg hl, h]
/-- What all that is read is like. -/
theorem itm_all {n : Int} {Q : α → Prop} {B : Nat} (hQ : ∀ l, Bs l → l.length ≤ B → (G.gt l).2.2 = 0 → Q (G.gt l).1) : ∀ (r i : Nat) (x : α) (l : List Int) (o : List α) (p : List Int × List α), Bs l → l.length ≤ B → (0 < n → i = 0 ∨ Q x) → (n = 0 → Q x) → (∀ y ∈ o, Q y) → itm G n r i x l o = .inr p → ∀ y ∈ p.2, Q y
  | 0, i, x, l, o, p, _, _, _, _, ho, h => by simp only [itm, Sum.inr.injEq] at h; subst h; exact ho
  | r + 1, i, x, l, o, p, hb, hB, hp, h0, ho, h => by
    rw [itm] at h
    have app : ∀ y, Q y → ∀ z ∈ o ++ [y], Q z := fun y hy z hz => (List.mem_append.1 hz).elim (ho z) (fun e => by rw [List.mem_singleton.1 e]; exact hy)
    split at h
    · split at h
      · rename_i hg
        have hq := hQ l hb hB hg
        exact itm_all hQ r _ _ _ _ p (hb.drop _) (by rw [List.length_drop]; omega) (fun _ => .inr hq) (fun _ => hq) (app _ hq) h
      · cases h
    · rename_i hc
      have hx : Q x := by
        rcases Int.lt_trichotomy n 0 with h1 | h1 | h1
        · exact absurd (.inl h1) hc
        · exact h0 h1
        · rcases hp h1 with h2 | h2
          · exact absurd (.inr ⟨h1, h2⟩) hc
          · exact h2
      exact itm_all hQ r _ _ _ _ p hb hB (fun _ => .inr hx) (fun _ => hx) (app _ hx) h
theorem step_all {Q : α → Prop} {B : Nat} (hQ : ∀ l, Bs l → l.length ≤ B → (G.gt l).2.2 = 0 → Q (G.gt l).1) (hz : Q G.z) {l : List Int} {o : List α} {p : List Int × List α} (hb : Bs l) (hB : l.length ≤ B) (ho : ∀ y ∈ o, Q y) (h : step G M l o = .inr p) : ∀ y ∈ p.2, Q y := by
  unfold step at h
  split at h
  · split at h
    · split at h
      · split at h
        · cases h
        · exact itm_all hQ _ _ _ _ _ p (hb.drop _) (by rw [List.length_drop]; omega) (fun _ => .inr hz) (fun _ => hz) ho h
      · cases h
    · split at h
      · cases h
      · exact itm_all hQ _ _ _ _ _ p (hb.drop _) (by rw [List.length_drop]; omega) (fun _ => .inr hz) (fun _ => hz) ho h
  · cases h
theorem decf_all {Q : α → Prop} {B : Nat} (hQ : ∀ l, Bs l → l.length ≤ B → (G.gt l).2.2 = 0 → Q (G.gt l).1) (hz : Q G.z) : ∀ (k : Nat) (l : List Int) (o : List α), Bs l → l.length ≤ B → (∀ y ∈ o, Q y) → o.length ≤ M → (∀ y ∈ (decf G M k l o).1, Q y) ∧ (decf G M k l o).1.length ≤ M
  | 0, l, o, _, _, ho, hm => ⟨ho, hm⟩
  | k + 1, l, o, hb, hB, ho, hm => by
    rw [decf]
    split
    · exact ⟨ho, hm⟩
    · rename_i hl
      cases hs : step G M l o with
      | inl e => exact ⟨fun y hy => (List.not_mem_nil hy).elim, Nat.zero_le _⟩
      | inr p =>
        have h1 := step_rest hb hl hs
        exact decf_all hQ hz k p.1 p.2 h1.1 (by omega) (step_all hQ hz hb hB ho hs) h1.2.2
theorem dec_all {Q : α → Prop} (hz : Q G.z) {l : List Int} (hQ : ∀ l', Bs l' → l'.length ≤ l.length → (G.gt l').2.2 = 0 → Q (G.gt l').1) (hb : Bs l) : (∀ y ∈ (dec G M l []).1, Q y) ∧ (dec G M l []).1.length ≤ M :=
  decf_all (B := l.length) hQ hz _ _ _ hb (Nat.le_refl _) (fun y hy => (List.not_mem_nil hy).elim) (Nat.zero_le _)
/-! What was put is read -/
theorem itm_same {n : Int} : ∀ (r i : Nat) (x : α) (l : List Int) (o : List α), ¬ (n < 0) → (0 < n → 0 < i) → itm G n r i x l o = .inr (l, o ++ List.replicate r x)
  | 0, i, x, l, o, _, _ => by simp [itm]
  | r + 1, i, x, l, o, h1, h2 => by
    rw [itm, if_neg (fun h => by rcases h with h | h; exact h1 h; have := h2 h.1; omega), itm_same r _ _ _ _ h1 (fun _ => Nat.succ_pos _), List.append_assoc]
    rfl
theorem itm_run {n : Int} (hn : 0 < n) {r : Nat} {x z : α} {c rest : List Int} {o : List α} (hg : G.gt (c ++ rest) = (x, (c.length : Int), 0)) : itm G n (r + 1) 0 z (c ++ rest) o = .inr (rest, o ++ List.replicate (r + 1) x) := by
  rw [itm, if_pos (.inr ⟨hn, rfl⟩), hg, if_pos rfl, itm_same _ _ _ _ _ (by omega) (fun _ => Nat.one_pos), List.append_assoc]
  simp [List.replicate_succ]
theorem itm_lit {F : Fo α} {n : Int} (hn : n < 0) : ∀ (m : List α) (i : Nat) (z : α) (rest : List Int) (o : List α), (∀ x ∈ m, ∀ rest, G.gt (F.pw x ++ rest) = (x, ((F.pw x).length : Int), 0)) → itm G n m.length i z (m.flatMap F.pw ++ rest) o = .inr (rest, o ++ m)
  | [], i, z, rest, o, _ => by simp [itm]
  | x :: m, i, z, rest, o, h => by
    rw [List.length_cons, List.flatMap_cons, List.append_assoc, itm, if_pos (.inl hn), h x List.mem_cons_self, if_pos rfl]
    simp only [Int.toNat_natCast, List.drop_left]
    rw [itm_lit hn m _ _ _ _ fun y hy => h y (List.mem_cons_of_mem _ hy), List.append_assoc]
    rfl
theorem rn_take {x : α} : ∀ (l : List α), l.take (rn x l) = List.replicate (rn x l) x
  | [] => rfl
  | y :: l => by
    rw [rn]
    split
    · rename_i e; rw [List.take_succ_cons, rn_take l, List.replicate_succ, e]
    · rfl
theorem lit_is (F : Fo α) : ∀ (l : List α), ∀ x ∈ l.take (lit F l), F.is x = true
  | [], x, h => by simp [lit] at h
  | y :: l, x, h => by
    rw [lit] at h
    split at h
    · rename_i e
      rw [List.take_succ_cons] at h
      rcases List.mem_cons.1 h with rfl | h
      · exact e.1
      · exact lit_is F l x h
    · simp at h
/-- Values that are read as they were put. -/
def Fits (F : Fo α) (G : Fg α) (l : List α) : Prop := (∀ x ∈ l, F.is x = false → x = G.z) ∧ ∀ x ∈ l, F.is x = true → Bs (F.pw x) ∧ ∀ rest, G.gt (F.pw x ++ rest) = (x, ((F.pw x).length : Int), 0)
theorem Fits.drop {F : Fo α} {l : List α} (h : Fits F G l) (n : Nat) : Fits F G (l.drop n) := ⟨fun x hx => h.1 x (List.mem_of_mem_drop hx), fun x hx => h.2 x (List.mem_of_mem_drop hx)⟩
theorem flat_bs {F : Fo α} {l : List α} (h : ∀ x ∈ l, Bs (F.pw x)) : Bs (l.flatMap F.pw) := fun y hy => by
  obtain ⟨x, hx, hy⟩ := List.mem_flatMap.1 hy
  exact h x hx y hy
theorem rlf_bs (F : Fo α) : ∀ (k : Nat) (l : List α), (∀ x ∈ l, F.is x = true → Bs (F.pw x)) → Bs (rlf F k l)
  | 0, l, _ => by rw [rlf]; exact Bs.nil
  | k + 1, [], _ => Bs.nil
  | k + 1, x :: l, h => by
    have hd : ∀ n, Bs (rlf F k (l.drop n)) := fun n => rlf_bs F k _ fun y hy => h y (List.mem_cons_of_mem _ (List.mem_of_mem_drop hy))
    rw [rlf]
    split
    · exact Leb.Bs.cons (by decide) (by decide) ((uB_bytes _).append (hd _))
    · rename_i hx
      have hx' : F.is x = true := by simpa using hx
      split
      · exact (sB_bytes _).append ((h x List.mem_cons_self hx').append (hd _))
      · refine (sB_bytes _).append (Bs.append (flat_bs fun y hy => ?_) (hd _))
        rcases List.mem_cons.1 hy with rfl | hy
        · exact h y List.mem_cons_self hx'
        · exact h y (List.mem_cons_of_mem _ (List.mem_of_mem_take hy)) (lit_is F l y hy)
theorem rl_bs {F : Fo α} {l : List α} (h : ∀ x ∈ l, F.is x = true → Bs (F.pw x)) : Bs (rl F l) := rlf_bs F _ l h
theorem put_bs {F : Fo α} {l : List α} (h : ∀ x ∈ l, F.is x = true → Bs (F.pw x)) : Bs (put F l) := by
  unfold put; split
  · exact rl_bs h
  · exact Bs.nil
theorem step_null {n : Nat} (hn : n < 18446744073709551616) {rest : List Int} {o : List α} : step G M (0 :: (uB n ++ rest)) o = if M < o.length + n then .inl 4 else .inr (rest, o ++ List.replicate n G.z) := by
  have h0 := getS_sB (n := 0) (by decide) (by decide) (uB n ++ rest)
  rw [sB_lo (by decide)] at h0
  have e0 : ((0 : Int) % 128 :: (uB n ++ rest)) = 0 :: (uB n ++ rest) := rfl
  simp only [List.cons_append, List.nil_append] at h0
  rw [e0] at h0
  have h1 := getU_uB hn rest
  unfold step
  rw [h0]
  simp only [List.length_cons, List.length_nil, Nat.zero_add, Int.toNat_natCast, if_true, List.drop_succ_cons, List.drop_zero, h1]
  split
  · rfl
  · rw [itm_same _ _ _ _ _ (by decide) (fun h => absurd h (by decide)), ← List.drop_drop, List.drop_succ_cons, List.drop_zero, List.drop_left]
theorem step_run {n : Nat} (h1 : 0 < n) (hn : n < 4611686018427387904) {x : α} {c rest : List Int} {o : List α} (hg : G.gt (c ++ rest) = (x, (c.length : Int), 0)) : step G M (sB n ++ (c ++ rest)) o = if M < o.length + n then .inl 4 else .inr (rest, o ++ List.replicate n x) := by
  have h0 := getS_sB (n := (n : Int)) (by omega) (by omega) (c ++ rest)
  unfold step
  rw [h0]
  simp only [Int.toNat_natCast, if_true, List.drop_left, Int.natAbs_natCast]
  rw [if_neg (by omega)]
  by_cases hm : M < o.length + n
  · rw [if_pos (.inr hm), if_pos hm]
  · rw [if_neg (by omega), if_neg hm]
    obtain ⟨r, rfl⟩ := Nat.exists_eq_succ_of_ne_zero (by omega : n ≠ 0)
    exact itm_run (by omega) hg
theorem step_lit {F : Fo α} {m : List α} (h1 : 0 < m.length) (hn : m.length < 4611686018427387904) {rest : List Int} {o : List α} (hg : ∀ x ∈ m, ∀ rest, G.gt (F.pw x ++ rest) = (x, ((F.pw x).length : Int), 0)) : step G M (sB (-(m.length : Int)) ++ (m.flatMap F.pw ++ rest)) o = if M < o.length + m.length then .inl 4 else .inr (rest, o ++ m) := by
  have h0 := getS_sB (n := -(m.length : Int)) (by omega) (by omega) (m.flatMap F.pw ++ rest)
  unfold step
  rw [h0]
  simp only [Int.toNat_natCast, if_true, List.drop_left, Int.natAbs_neg, Int.natAbs_natCast]
  rw [if_neg (by omega)]
  by_cases hm : M < o.length + m.length
  · rw [if_pos (.inr hm), if_pos hm]
  · rw [if_neg (by omega), if_neg hm]
    exact itm_lit (by omega) m 0 _ _ _ hg
theorem sB_app (n : Int) (t : List Int) : sB n ++ t ≠ [] := fun h => by
  have h1 := congrArg List.length h
  have h2 := sB_pos n
  simp only [List.length_append, List.length_nil] at h1
  omega
theorem dec_put {F : Fo α} : ∀ (k : Nat) (l : List α) (o : List α), l.length ≤ k → l.length < 4611686018427387904 → Fits F G l → o.length ≤ M → dec G M (rl F l) o = if M < o.length + l.length then ([], 4) else (o ++ l, 0)
  | _, [], o, _, _, _, ho => by
    rw [rl_nil, dec_nil, List.length_nil, if_neg (by omega), List.append_nil]
  | 0, x :: l, o, h, _, _, _ => by simp at h
  | k + 1, x :: l, o, h, hm, hf, ho => by
    simp only [List.length_cons] at h hm
    have hbs : Bs (rl F (x :: l)) := rl_bs fun y hy hi => (hf.2 y hy hi).1
    -- one part, then the others
    have one : ∀ (n : Nat) (m : List α), n ≤ l.length → m.length = n + 1 → x :: l = m ++ l.drop n → rl F (x :: l) ≠ [] → step G M (rl F (x :: l)) o = (if M < o.length + (n + 1) then .inl 4 else .inr (rl F (l.drop n), o ++ m)) →
        dec G M (rl F (x :: l)) o = if M < o.length + (x :: l).length then ([], 4) else (o ++ (x :: l), 0) := fun n m hn hml hx hne hs => by
      have hd : (l.drop n).length = l.length - n := List.length_drop
      by_cases hM : M < o.length + (n + 1)
      · rw [if_pos hM] at hs
        rw [dec_err hne hs, if_pos (by simp only [List.length_cons]; omega)]
      · rw [if_neg hM] at hs
        rw [dec_go hbs hne hs]
        simp only
        have hol : (o ++ m).length = o.length + (n + 1) := by rw [List.length_append, hml]
        rw [dec_put k (l.drop n) (o ++ m) (by omega) (by omega) (Fits.drop (l := x :: l) hf (n + 1)) (by omega)]
        by_cases hM2 : M < o.length + (x :: l).length
        · rw [if_pos hM2, if_pos (by simp only [List.length_cons] at hM2; omega)]
        · rw [if_neg hM2, if_neg (by simp only [List.length_cons] at hM2; omega), List.append_assoc, ← hx]
    have hrn := rn_le x l
    have hll := lit_le F l
    cases hx : F.is x with
    | false =>
      have e := rl_null F (l := l) hx
      have hxz := hf.1 x List.mem_cons_self hx
      refine one (rn x l) (List.replicate (rn x l + 1) x) hrn (by simp) ?_ (by rw [e]; simp) ?_
      · rw [List.replicate_succ, ← rn_take, List.cons_append, List.take_append_drop]
      · rw [e, step_null (by omega), hxz]
    | true =>
      have hg := (hf.2 x List.mem_cons_self hx).2
      by_cases h2 : 0 < rn x l
      · have e := rl_run F hx h2
        refine one (rn x l) (List.replicate (rn x l + 1) x) hrn (by simp) ?_ (by rw [e]; exact sB_app _ _) ?_
        · rw [List.replicate_succ, ← rn_take, List.cons_append, List.take_append_drop]
        · rw [e]
          exact step_run (n := rn x l + 1) (by omega) (by omega) (hg _)
      · have e := rl_lit F hx h2
        have hml : (x :: l.take (lit F l)).length = lit F l + 1 := by rw [List.length_cons, List.length_take, Nat.min_eq_left hll]
        refine one (lit F l) (x :: l.take (lit F l)) hll hml ?_ (by rw [e]; exact sB_app _ _) ?_
        · rw [List.cons_append, List.take_append_drop]
        · have hs := step_lit (G := G) (M := M) (F := F) (m := x :: l.take (lit F l)) (by rw [hml]; omega) (by rw [hml]; omega) (rest := rl F (l.drop (lit F l))) (o := o) fun y hy => by
            rcases List.mem_cons.1 hy with rfl | hy
            · exact hg
            · exact (hf.2 y (List.mem_cons_of_mem _ (List.mem_of_mem_take hy)) (lit_is F l y hy)).2
          rw [hml] at hs
          rw [e]
          exact hs
theorem gtv_put {F : Fo α} {l : List α} (hl : l.length < 4611686018427387904) (hf : Fits F G l) (ha : anyF F l = true) : gtv G M F (put F l) = if M < l.length then ([], 4) else (l, 0) := by
  have h := dec_put (M := M) l.length l [] (Nat.le_refl _) hl hf (Nat.zero_le _)
  simp only [List.length_nil, Nat.zero_add, List.nil_append] at h
  unfold gtv
  rw [put_some ha, h]
  split
  · exact if_neg (show ¬ ((4 : Int) = 0) by decide)
  · rw [if_pos rfl, put_some ha, if_pos rfl]
theorem gtv_none {F : Fo α} {l : List α} (ha : anyF F l = false) : gtv G M F (put F l) = ([], 0) := by
  rw [put_none ha]; rfl
theorem gtv_all {F : Fo α} {Q : α → Prop} (hz : Q G.z) {l : List Int} (hQ : ∀ l', Bs l' → l'.length ≤ l.length → (G.gt l').2.2 = 0 → Q (G.gt l').1) (hb : Bs l) : (∀ y ∈ (gtv G M F l).1, Q y) ∧ (gtv G M F l).1.length ≤ M := by
  have h := dec_all (M := M) hz hQ hb
  unfold gtv
  split
  · split
    · exact h
    · exact ⟨fun y hy => (List.not_mem_nil hy).elim, Nat.zero_le _⟩
  · exact ⟨fun y hy => (List.not_mem_nil hy).elim, Nat.zero_le _⟩
end
/-! The three kinds -/
def NQ (x : Cell) : Prop := 0 ≤ x.n ∧ x.n < 9223372036854775808
def SQ (x : Cell) : Prop := -9223372036854775808 ≤ x.n ∧ x.n < 9223372036854775808
theorem nG_all {l : List Int} (hb : Bs l) (h : (nG.gt l).2.2 = 0) : NQ (nG.gt l).1 := by
  unfold NQ
  simp only [nG] at h ⊢
  split at h
  · simp at h
  · rename_i hc
    rw [if_neg hc]
    have h0 : (getU l).2.2 = 0 := h
    have := getU_ok hb h0
    simp only
    omega
theorem nF_fits {l : List Cell} (h : ∀ x ∈ l, Nm false x) : Fits nF nG l := by
  refine ⟨fun x hx hi => ?_, fun x hx hi => ⟨uB_bytes _, fun rest => ?_⟩⟩
  · have h1 := (h x hx).2.2.2 hi
    obtain ⟨i, n⟩ := x
    simp only at h1; subst h1
    have : i = false := hi
    subst this; rfl
  · have h1 := h x hx
    have h2 := h1.2.2.1 rfl
    have hi' : x.is = true := hi
    unfold Nm at h1
    rw [nF_pw]
    have hg := getU_uB (n := (x.n % 18446744073709551616).toNat) (by omega) rest
    have hn : ((x.n % 18446744073709551616).toNat : Int) = x.n := by omega
    simp only [nG]
    rw [hg, if_neg (by simp only; omega)]
    obtain ⟨i, n⟩ := x
    simp only at hi' hn ⊢
    subst hi'
    rw [hn]
theorem list_eq {α : Type} {a b : List α} (d : α) (hl : a.length = b.length) (h : ∀ j, j < a.length → a.getD j d = b.getD j d) : a = b := by
  apply List.ext_getElem hl
  intro i h1 h2
  have := h i h1
  simpa [List.getD_eq_getElem?_getD, h1, h2] using this
/-! The walk's steps -/
def mny (n : Int) : Int := IntKind.u64.wrap (max n (IntKind.i64.wrap (-n)))
theorem mny_ok {n : Int} (h : -9223372036854775808 ≤ n ∧ n < 9223372036854775808) : 0 ≤ mny n ∧ mny n < 18446744073709551616 ∧ (¬ n < -4611686018427387904 → (mny n).toNat = n.natAbs) := by
  unfold mny
  rw [u64w, i64_w]
  unfold wrap64
  omega
section
variable {α : Type} [DecidableEq α] {G : Fg α} {M : Nat} {F : Fo α} {l : List Int} {o : List α} {n : Int} {r r' i a : Nat} {x : α}
theorem step_s (h : (getS l).2.2 ≠ 0) : step G M l o = .inl (getS l).2.2 := by unfold step; rw [if_neg h]
theorem step_u (h : (getS l).2.2 = 0) (h0 : (getS l).1 = 0) (hu : (getU (l.drop (getS l).2.1.toNat)).2.2 ≠ 0) : step G M l o = .inl (getU (l.drop (getS l).2.1.toNat)).2.2 := by unfold step; rw [if_pos h, if_pos h0, if_neg hu]
theorem step_z (h : (getS l).2.2 = 0) (h0 : (getS l).1 = 0) (hu : (getU (l.drop (getS l).2.1.toNat)).2.2 = 0) : step G M l o = if (getS l).1 < -4611686018427387904 ∨ M < o.length + (getU (l.drop (getS l).2.1.toNat)).1.toNat then .inl 4 else itm G (getS l).1 (getU (l.drop (getS l).2.1.toNat)).1.toNat 0 G.z (l.drop ((getS l).2.1.toNat + (getU (l.drop (getS l).2.1.toNat)).2.1.toNat)) o := by
  unfold step; rw [if_pos h, if_pos h0, if_pos hu, h0]
  by_cases hm : M < o.length + (getU (l.drop (getS l).2.1.toNat)).1.toNat
  · rw [if_pos hm, if_pos (.inr hm)]
  · rw [if_neg hm, if_neg (by omega)]
theorem step_n (hb : Bs l) (h : (getS l).2.2 = 0) (h0 : (getS l).1 ≠ 0) : step G M l o = if (getS l).1 < -4611686018427387904 ∨ M < o.length + (mny (getS l).1).toNat then .inl 4 else itm G (getS l).1 (mny (getS l).1).toNat 0 G.z (l.drop (getS l).2.1.toNat) o := by
  have hr := getS_ok hb h
  have hm := mny_ok ⟨hr.1, hr.2.1⟩
  unfold step; rw [if_pos h, if_neg h0]
  by_cases hn : (getS l).1 < -4611686018427387904
  · rw [if_pos (.inl hn), if_pos (.inl hn)]
  · rw [hm.2.2 hn]
theorem itm_no (hr : r = r' + 1) (hc : n < 0 ∨ (0 < n ∧ i = 0)) (he : (G.gt (l.drop a)).2.2 ≠ 0) : itm G n r i x (l.drop a) o = .inl (G.gt (l.drop a)).2.2 := by rw [hr, itm, if_pos hc, if_neg he]
theorem itm_yes (hr : r = r' + 1) (hc : n < 0 ∨ (0 < n ∧ i = 0)) (he : (G.gt (l.drop a)).2.2 = 0) : itm G n r i x (l.drop a) o = itm G n r' (i + 1) (G.gt (l.drop a)).1 (l.drop (a + (G.gt (l.drop a)).2.1.toNat)) (o ++ [(G.gt (l.drop a)).1]) := by rw [hr, itm, if_pos hc, if_pos he, List.drop_drop]
theorem itm_skip (hr : r = r' + 1) (hc : ¬ (n < 0 ∨ (0 < n ∧ i = 0))) : itm G n r i x (l.drop a) o = itm G n r' (i + 1) x (l.drop a) (o ++ [x]) := by rw [hr, itm, if_neg hc]
theorem gtv_err {e : Int} (h : dec G M l [] = ([], e)) (he : e ≠ 0) : gtv G M F l = ([], e) := by unfold gtv; rw [h, if_neg he]
theorem gtv_ok (h : dec G M l [] = (o, 0)) (hp : put F o = l) : gtv G M F l = (o, 0) := by unfold gtv; rw [h, if_pos rfl, if_pos hp]
theorem gtv_form (h : dec G M l [] = (o, 0)) (hp : ¬ put F o = l) : gtv G M F l = ([], 3) := by unfold gtv; rw [h, if_pos rfl, if_neg hp]
end
theorem nF_bs (l : List Cell) : ∀ x ∈ l, nF.is x = true → Bs (nF.pw x) := fun x _ _ => uB_bytes _
theorem sF_bs (l : List Cell) : ∀ x ∈ l, sF.is x = true → Bs (sF.pw x) := fun x _ _ => sB_bytes _
theorem wF_bs (l : List Word) : ∀ x ∈ l, wF.is x = true → Bs (wF.pw x) := fun x _ _ => (uB_bytes _).append (Bs.ss _)
theorem gtv_back {α : Type} [DecidableEq α] {F : Fo α} {G : Fg α} {l : List α} (hl : l.length < 4611686018427387904) (hf : Fits F G l) : gtv G l.length F (put F l) = (if anyF F l = true then l else [], 0) := by
  by_cases h : anyF F l = true
  · rw [gtv_put hl hf h, if_neg (Nat.lt_irrefl _), if_pos h]
  · rw [gtv_none (by simpa using h), if_neg h]
end Go.Proofs.Ytdjaoonjfampmaa.Rle
