/- Numbers in as few bytes as they need, and lists of them: what layer 2 says, in lists. -/
import Derived.Test.YtdjaoonjfampmaaZOpCopiesOp
import Derived.Laws.BitsLemmas
namespace Go.Proofs.Ytdjaoonjfampmaa.Leb
open Go.RowKit Go.Proofs.Ytdjaoonjfampmaa.Sl
set_option linter.unusedVariables false
set_option linter.unusedSimpArgs false
theorem w64 {n : Int} (h : -9223372036854775808 ≤ n) (h' : n < 9223372036854775808) : wrap64 n = n := by
  unfold wrap64; omega
theorem u64w (n : Int) : IntKind.u64.wrap n = n % 18446744073709551616 := by
  simp only [IntKind.wrap, IntKind.signed, IntKind.bits, Bool.false_and, Bool.false_eq_true, if_false]
  rfl
theorem Bs.cons {x : Int} {l : List Int} (h0 : 0 ≤ x) (h1 : x < 256) (h : Bs l) : Bs (x :: l) := by
  intro y hy
  rcases List.mem_cons.1 hy with rfl | hy
  · exact ⟨h0, h1⟩
  · exact h y hy
def rd (l : List Int) (i : Int) : Int := l.getD i.toNat 0
theorem rd_nat (l : List Int) (i : Nat) (h : i < l.length) : rd l (i : Int) = l[i] := by
  simp [rd, List.getD_eq_getElem?_getD, List.getElem?_eq_getElem h]
theorem take_snoc {α : Type} (l : List α) (i : Nat) (h : i < l.length) : l.take (i + 1) = l.take i ++ [l[i]] := by
  rw [List.take_succ_eq_append_getElem h]

/-- The bytes of a number without a sign. -/
def uB (n : Nat) : List Int := if n < 128 then [(n : Int)] else ((n % 128 + 128 : Nat) : Int) :: uB (n / 128)
termination_by n
decreasing_by omega
/-- The bytes of one with a sign. -/
def sB (n : Int) : List Int := if -64 ≤ n ∧ n ≤ 63 then [n % 128] else (n % 128 + 128) :: sB (n / 128)
termination_by n.natAbs
decreasing_by omega
theorem uB_lo {n : Nat} (h : n < 128) : uB n = [(n : Int)] := by rw [uB, if_pos h]
theorem uB_hi {n : Nat} (h : ¬ n < 128) : uB n = ((n % 128 + 128 : Nat) : Int) :: uB (n / 128) := by rw [uB, if_neg h]
theorem sB_lo {n : Int} (h : -64 ≤ n ∧ n ≤ 63) : sB n = [n % 128] := by rw [sB, if_pos h]
theorem sB_hi {n : Int} (h : ¬ (-64 ≤ n ∧ n ≤ 63)) : sB n = (n % 128 + 128) :: sB (n / 128) := by rw [sB, if_neg h]
theorem uB_bytes (n : Nat) : Bs (uB n) := by
  induction n using uB.induct with
  | case1 n h => rw [uB_lo h]; exact Bs.cons (by omega) (by omega) Sl.Bs.nil
  | case2 n h ih => rw [uB_hi h]; exact Bs.cons (by omega) (by omega) ih
theorem sB_bytes (n : Int) : Bs (sB n) := by
  induction n using sB.induct with
  | case1 n h => rw [sB_lo h]; exact Bs.cons (by omega) (by omega) Sl.Bs.nil
  | case2 n h ih => rw [sB_hi h]; exact Bs.cons (by omega) (by omega) ih
theorem uB_pos (n : Nat) : 0 < (uB n).length := by
  by_cases h : n < 128
  · rw [uB_lo h]; simp
  · rw [uB_hi h]; simp
theorem sB_pos (n : Int) : 0 < (sB n).length := by
  by_cases h : -64 ≤ n ∧ n ≤ 63
  · rw [sB_lo h]; simp
  · rw [sB_hi h]; simp
/-- A number below 128^(j+1) has at most j+1 bytes. -/
theorem uB_len (j : Nat) : ∀ n, n < 128 ^ (j + 1) → (uB n).length ≤ j + 1 := by
  induction j with
  | zero => intro n h; rw [uB_lo (by simpa using h)]; simp
  | succ j ih =>
    intro n h
    by_cases h1 : n < 128
    · rw [uB_lo h1]; simp
    · rw [uB_hi h1, List.length_cons]
      have := ih (n / 128) (by rw [Nat.pow_succ] at h; exact Nat.div_lt_of_lt_mul (by omega))
      omega
theorem sB_len (j : Nat) : ∀ n : Int, -(64 * 128 ^ j : Int) ≤ n → n < 64 * 128 ^ j → (sB n).length ≤ j + 1 := by
  induction j with
  | zero => intro n h0 h1; rw [sB_lo (by simp at h0 h1; omega)]; simp
  | succ j ih =>
    intro n h0 h1
    by_cases h : -64 ≤ n ∧ n ≤ 63
    · rw [sB_lo h]; simp
    · rw [sB_hi h, List.length_cons]
      have hp : (64 * 128 ^ (j + 1) : Int) = 128 * (64 * 128 ^ j) := by rw [Int.pow_succ]; omega
      rw [hp] at h0 h1
      generalize (64 * 128 ^ j : Int) = m at *
      have := ih (n / 128) (by omega) (by omega)
      omega
theorem uB_len10 {n : Nat} (h : n < 18446744073709551616) : (uB n).length ≤ 10 := uB_len 9 n (by omega)
theorem sB_len10 {n : Int} (h0 : -9223372036854775808 ≤ n) (h1 : n < 9223372036854775808) : (sB n).length ≤ 10 := sB_len 9 n (by omega) (by omega)

theorem or128 : ∀ x : Int, 0 ≤ x → x < 256 → Go.bits .or .u8 x 128 = x % 128 + 128 := by
  intro x h0 h1
  obtain ⟨n, rfl⟩ := Int.eq_ofNat_of_zero_le h0
  have : ∀ i : Fin 256, Go.bits .or .u8 ((i.val : Nat) : Int) 128 = ((i.val : Nat) : Int) % 128 + 128 := by decide +kernel
  exact this ⟨n, by omega⟩
theorem and127 : ∀ x : Int, 0 ≤ x → x < 256 → Go.bits .and .u8 x 127 = x % 128 := by
  intro x h0 h1
  obtain ⟨n, rfl⟩ := Int.eq_ofNat_of_zero_le h0
  have : ∀ i : Fin 256, Go.bits .and .u8 ((i.val : Nat) : Int) 127 = ((i.val : Nat) : Int) % 128 := by decide +kernel
  exact this ⟨n, by omega⟩

/-- The bytes of numbers, one behind the other. -/
def uBs (l : List Int) : List Int := l.flatMap fun x => uB x.toNat

/-- How many bits a number has. -/
def bl (n : Nat) : Nat := if n = 0 then 0 else bl (n / 2) + 1
termination_by n
decreasing_by omega
/-- A number with a sign, without its sign. -/
def un (n : Int) : Nat := if n < 0 then (-(n + 1)).toNat else n.toNat
set_option linter.unusedVariables false
set_option linter.unusedSimpArgs false

/-- The value of digits of seven bits, the lowest first. -/
def lv : List Int → Nat
  | [] => 0
  | x :: l => (x % 128).toNat + 128 * lv l
theorem lv_lt : ∀ l : List Int, lv l < 128 ^ l.length
  | [] => by simp [lv]
  | x :: l => by
    have := lv_lt l
    rw [lv, List.length_cons, Nat.pow_succ]
    omega
theorem lv_snoc : ∀ (l : List Int) (x : Int), lv (l ++ [x]) = lv l + (x % 128).toNat * 128 ^ l.length
  | [], x => by simp [lv]
  | y :: l, x => by
    rw [List.cons_append, lv, lv_snoc l x, lv, List.length_cons, Nat.pow_succ, Nat.mul_add, Nat.add_assoc]
    congr 2
    rw [Nat.mul_left_comm, Nat.mul_comm 128 (128 ^ l.length)]
/-- A number's form: each byte but the last one has the high bit. -/
def Wf : List Int → Prop
  | [] => False
  | [x] => 0 ≤ x ∧ x < 128
  | x :: y :: r => 128 ≤ x ∧ x < 256 ∧ Wf (y :: r)
theorem Wf.ne {t : List Int} (h : Wf t) : t ≠ [] := by intro e; subst e; exact h
theorem Wf.pos {t : List Int} (h : Wf t) : 0 < t.length := List.length_pos_iff.2 h.ne
theorem Wf.cons {x : Int} {t : List Int} (h0 : 128 ≤ x) (h1 : x < 256) (h : Wf t) : Wf (x :: t) := by
  cases t with
  | nil => exact h.elim
  | cons y r => exact ⟨h0, h1, h⟩
/-- How many bytes a number has that a list begins with, counted from i. -/
def spn : List Int → Nat → Int × Int
  | [], _ => (0, 2)
  | x :: l, i => if x < 128 then ((i : Int) + 1, 0) else if i = 9 then (0, 3) else spn l (i + 1)
theorem spn_of : ∀ (t rest : List Int) (i : Nat), Wf t → i + t.length ≤ 10 → spn (t ++ rest) i = ((i : Int) + (t.length : Int), 0)
  | [], _, _, h, _ => h.elim
  | [x], rest, i, h, hl => by
    show spn (x :: rest) i = _
    rw [spn, if_pos h.2]
    simp
  | x :: y :: r, rest, i, h, hl => by
    show spn (x :: ((y :: r) ++ rest)) i = _
    simp only [List.length_cons] at hl
    rw [spn, if_neg (by have := h.1; omega), if_neg (by omega), spn_of (y :: r) rest (i + 1) h.2.2 (by simp; omega)]
    simp only [List.length_cons, Prod.mk.injEq, and_true]
    omega
theorem lv_cons (x : Int) (l : List Int) : lv (x :: l) = (x % 128).toNat + 128 * lv l := rfl
theorem spn_inv : ∀ (l : List Int) (i : Nat), Bs l → i ≤ 9 → (∃ t rest, l = t ++ rest ∧ Wf t ∧ i + t.length ≤ 10) ∨ (spn l i).1 = 0 ∧ ((spn l i).2 = 2 ∨ (spn l i).2 = 3)
  | [], i, _, _ => .inr ⟨rfl, .inl rfl⟩
  | x :: l, i, hb, hi => by
    have hx := hb x (by simp)
    by_cases h : x < 128
    · exact .inl ⟨[x], l, rfl, ⟨hx.1, h⟩, by simp; omega⟩
    · by_cases h9 : i = 9
      · right; rw [spn, if_neg h, if_pos h9]; exact ⟨rfl, .inr rfl⟩
      · rcases spn_inv l (i + 1) (fun y hy => hb y (by simp [hy])) (by omega) with ⟨t, rest, rfl, hw, hl⟩ | ⟨h1, h2⟩
        · exact .inl ⟨x :: t, rest, rfl, hw.cons (by omega) hx.2, by simp; omega⟩
        · right; rw [spn, if_neg h, if_neg h9]; exact ⟨h1, h2⟩
/-- The last of some bytes. -/
def lastB (t : List Int) : Int := rd t ((t.length : Int) - 1)
theorem lastB_snoc (a : List Int) (x : Int) : lastB (a ++ [x]) = x := by
  unfold lastB
  rw [show (((a ++ [x]).length : Int) - 1) = (a.length : Int) by simp]
  rw [rd_nat _ _ (by simp)]
  simp
theorem lastB_cons (x y : Int) (r : List Int) : lastB (x :: y :: r) = lastB (y :: r) := by
  unfold lastB
  simp [rd, List.getD_eq_getElem?_getD]
theorem lastB_one (x : Int) : lastB [x] = x := rfl
theorem Wf.last {t : List Int} (h : Wf t) : 0 ≤ lastB t ∧ lastB t < 128 := by
  induction t with
  | nil => exact h.elim
  | cons x t ih =>
    cases t with
    | nil => exact h
    | cons y r => rw [lastB_cons]; exact ih h.2.2
theorem Wf.split {t : List Int} (h : Wf t) : ∃ a x, t = a ++ [x] := by
  obtain ⟨a, x, e⟩ := List.eq_nil_or_concat t |>.resolve_left h.ne
  exact ⟨a, x, by rw [e, List.concat_eq_append]⟩
theorem Wf.bytes {t : List Int} (h : Wf t) : Bs t := by
  induction t with
  | nil => exact h.elim
  | cons x t ih =>
    cases t with
    | nil => exact Bs.cons h.1 (by have := h.2; omega) Sl.Bs.nil
    | cons y r => exact Bs.cons (by have := h.1; omega) h.2.1 (ih h.2.2)
theorem uB_wf (n : Nat) : Wf (uB n) := by
  induction n using uB.induct with
  | case1 n h => rw [uB_lo h]; exact ⟨by omega, by omega⟩
  | case2 n h ih => rw [uB_hi h]; exact ih.cons (by omega) (by omega)
theorem sB_wf (n : Int) : Wf (sB n) := by
  induction n using sB.induct with
  | case1 n h => rw [sB_lo h]; exact ⟨by omega, by omega⟩
  | case2 n h ih => rw [sB_hi h]; exact ih.cons (by omega) (by omega)
theorem lv_uB (n : Nat) : lv (uB n) = n := by
  induction n using uB.induct with
  | case1 n h => rw [uB_lo h]; simp [lv]; omega
  | case2 n h ih => rw [uB_hi h, lv, ih]; omega
/-- What the program reads as a number without a sign. -/
def getU (l : List Int) : Int × Int × Int :=
  if (spn l 0).2 ≠ 0 then (0, 0, (spn l 0).2)
  else if (uB (lv (l.take (spn l 0).1.toNat) % 18446744073709551616)).length = (l.take (spn l 0).1.toNat).length ∧ ¬ ((l.take (spn l 0).1.toNat).length = 10 ∧ 1 < lastB (l.take (spn l 0).1.toNat))
    then (((lv (l.take (spn l 0).1.toNat) % 18446744073709551616 : Nat) : Int), ((l.take (spn l 0).1.toNat).length : Int), 0)
  else (0, 0, 3)
theorem getU_wf {t : List Int} (rest : List Int) (h : Wf t) (hl : t.length ≤ 10) : getU (t ++ rest) =
    if (uB (lv t % 18446744073709551616)).length = t.length ∧ ¬ (t.length = 10 ∧ 1 < lastB t) then (((lv t % 18446744073709551616 : Nat) : Int), (t.length : Int), 0) else (0, 0, 3) := by
  have hs := spn_of t rest 0 h (by omega)
  unfold getU
  rw [hs]
  simp only [Int.ofNat_zero, Int.natCast_zero, Int.zero_add, Int.toNat_natCast, List.take_left]
  rw [if_neg (by simp)]
theorem getU_uB {n : Nat} (hn : n < 18446744073709551616) (rest : List Int) : getU (uB n ++ rest) = ((n : Int), ((uB n).length : Int), 0) := by
  have hl := uB_len10 hn
  rw [getU_wf rest (uB_wf n) hl, lv_uB, Nat.mod_eq_of_lt hn, if_pos]
  refine ⟨rfl, fun h => ?_⟩
  obtain ⟨a, x, e⟩ := (uB_wf n).split
  have hL := (uB_wf n).last
  have hv := lv_uB n
  rw [e] at h hL hv
  rw [lastB_snoc] at h hL
  rw [lv_snoc] at hv
  simp only [List.length_append, List.length_cons, List.length_nil] at h
  rw [show a.length = 9 by omega, show (128 : Nat) ^ 9 = 9223372036854775808 by decide] at hv
  omega

/-! With a sign -/
/-- The value of digits of seven bits, the last one with a sign. -/
def sv : List Int → Int
  | [] => 0
  | [x] => if 64 ≤ x then x - 128 else x
  | x :: y :: r => x % 128 + 128 * sv (y :: r)
theorem sv_cons (x : Int) {t : List Int} (h : t ≠ []) : sv (x :: t) = x % 128 + 128 * sv t := by
  cases t with
  | nil => exact absurd rfl h
  | cons y r => rfl
theorem sv_sB (n : Int) : sv (sB n) = n := by
  induction n using sB.induct with
  | case1 n h => rw [sB_lo h]; unfold sv; split <;> omega
  | case2 n h ih => rw [sB_hi h, sv_cons _ (sB_wf _).ne, ih]; omega
theorem sv_lv {t : List Int} (h : Wf t) : sv t = (lv t : Int) - if 64 ≤ lastB t then 128 ^ t.length else 0 := by
  induction t with
  | nil => exact h.elim
  | cons x t ih =>
    cases t with
    | nil =>
      have hx : 0 ≤ x ∧ x < 128 := h
      rw [lastB_one]
      unfold sv
      simp [lv]
      split <;> omega
    | cons y r =>
      rw [sv_cons x (by simp), ih h.2.2, lastB_cons, lv_cons x, List.length_cons (a := x), Int.pow_succ]
      have h1 := h.1
      split <;> omega
/-- Two digits at the end that say no more than one would. -/
def Red : List Int → Prop
  | [] => False
  | [_] => False
  | [x, y] => (y = 0 ∧ x % 128 < 64) ∨ (y = 127 ∧ 64 ≤ x % 128)
  | _ :: y :: z :: r => Red (y :: z :: r)
/-- What the program makes of the digits. -/
def fs (t : List Int) : Int := if t.length < 10 ∧ 64 ≤ lastB t then (lv t : Int) - 128 ^ t.length else wrap64 (lv t)
/-- What the program reads as a number with a sign. -/
def getS (l : List Int) : Int × Int × Int :=
  if (spn l 0).2 ≠ 0 then (0, 0, (spn l 0).2)
  else if (sB (fs (l.take (spn l 0).1.toNat))).length = (l.take (spn l 0).1.toNat).length ∧ ¬ ((l.take (spn l 0).1.toNat).length = 10 ∧ lastB (l.take (spn l 0).1.toNat) ≠ 0 ∧ lastB (l.take (spn l 0).1.toNat) ≠ 127)
    then (fs (l.take (spn l 0).1.toNat), ((l.take (spn l 0).1.toNat).length : Int), 0)
  else (0, 0, 3)
theorem getS_wf {t : List Int} (rest : List Int) (h : Wf t) (hl : t.length ≤ 10) : getS (t ++ rest) =
    if (sB (fs t)).length = t.length ∧ ¬ (t.length = 10 ∧ lastB t ≠ 0 ∧ lastB t ≠ 127) then (fs t, (t.length : Int), 0) else (0, 0, 3) := by
  have hs := spn_of t rest 0 h (by omega)
  unfold getS
  rw [hs]
  simp only [Int.ofNat_zero, Int.natCast_zero, Int.zero_add, Int.toNat_natCast, List.take_left]
  rw [if_neg (by simp)]
theorem fs_sv {t : List Int} (h : Wf t) (hl : t.length ≤ 10) (hx : ¬ (t.length = 10 ∧ lastB t ≠ 0 ∧ lastB t ≠ 127)) : fs t = sv t ∧ -9223372036854775808 ≤ sv t ∧ sv t < 9223372036854775808 := by
  rw [sv_lv h]
  have hL := h.last
  unfold fs
  by_cases e : t.length = 10
  · rw [if_neg (by omega)]
    obtain ⟨a, x, rfl⟩ := h.split
    rw [lastB_snoc] at hx hL ⊢
    simp only [List.length_append, List.length_cons, List.length_nil] at e hx
    have ha : a.length = 9 := by omega
    have hlt := lv_lt a
    have h9 : (128 : Nat) ^ 9 = 9223372036854775808 := by decide
    have h10 : (128 : Int) ^ 10 = 1180591620717411303424 := by decide
    rw [ha, h9] at hlt
    rw [lv_snoc, ha, h9, List.length_append, ha, show (9 + [x].length) = 10 from rfl, h10]
    unfold wrap64
    have hxx : x = 0 ∨ x = 127 := by omega
    rcases hxx with rfl | rfl
    · rw [if_neg (by omega)]; omega
    · rw [if_pos (by omega)]; omega
  · have hlt := lv_lt t
    have h9 : (128 : Nat) ^ t.length ≤ 128 ^ 9 := Nat.pow_le_pow_right (by decide) (by omega)
    have h9' : (128 : Nat) ^ 9 = 9223372036854775808 := by decide
    have hc : ((128 : Int) ^ t.length) = ((128 ^ t.length : Nat) : Int) := by simp
    rw [hc]
    have hp : 0 < 128 ^ t.length := Nat.pow_pos (by decide)
    by_cases h64 : 64 ≤ lastB t
    · rw [if_pos ⟨by omega, h64⟩, if_pos h64]
      obtain ⟨a, x, rfl⟩ := h.split
      refine ⟨rfl, ?_, ?_⟩ <;> omega
    · rw [if_neg (by omega), if_neg h64, w64 (by omega) (by omega)]
      refine ⟨by omega, ?_, ?_⟩ <;> omega
theorem getS_sB {n : Int} (h0 : -9223372036854775808 ≤ n) (h1 : n < 9223372036854775808) (rest : List Int) : getS (sB n ++ rest) = (n, ((sB n).length : Int), 0) := by
  have hl := sB_len10 h0 h1
  have hx : ¬ ((sB n).length = 10 ∧ lastB (sB n) ≠ 0 ∧ lastB (sB n) ≠ 127) := by
    rintro ⟨e, a0, a1⟩
    have hL := (sB_wf n).last
    have hv := sv_lv (sB_wf n)
    rw [sv_sB] at hv
    obtain ⟨a, x, es⟩ := (sB_wf n).split
    rw [es] at e a0 a1 hL hv
    rw [lastB_snoc] at a0 a1 hL hv
    simp only [List.length_append, List.length_cons, List.length_nil] at e
    have ha : a.length = 9 := by omega
    have h9 : (128 : Nat) ^ 9 = 9223372036854775808 := by decide
    have h10 : (128 : Int) ^ 10 = 1180591620717411303424 := by decide
    have hlt := lv_lt a
    rw [ha, h9] at hlt
    rw [lv_snoc, ha, h9, List.length_append, ha, show (9 + [x].length) = 10 from rfl, h10] at hv
    split at hv <;> omega
  have hf := fs_sv (sB_wf n) hl hx
  rw [getS_wf rest (sB_wf n) hl, hf.1, sv_sB, if_pos ⟨rfl, hx⟩]
/-! What is read of a number's form -/
end Go.Proofs.Ytdjaoonjfampmaa.Leb
