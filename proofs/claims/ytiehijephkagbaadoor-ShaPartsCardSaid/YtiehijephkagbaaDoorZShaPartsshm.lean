/- Layer 4: whole numbers by digits, roots, primes: the tables. -/
import Derived.Test.YtiehijephkagbaaDoorZShaPartsMk
namespace Go.Proofs.YtiehijephkagbaaDoor.Sha
open Go.RowKit Go.Proofs.YtiehijephkagbaaDoor.Sl
set_option linter.unusedVariables false
/-! Digits to the base 2^16, the lowest first -/
def val : List Int → Int
  | [] => 0
  | d :: l => d + 65536 * val l
def Dg (l : List Int) : Prop := ∀ d ∈ l, 0 ≤ d ∧ d < 65536
theorem Dg.at {l : List Int} (h : Dg l) (i : Nat) : 0 ≤ l.getD i 0 ∧ l.getD i 0 < 65536 := by
  by_cases hi : i < l.length
  · exact h _ (mem_getD hi)
  · rw [List.getD_eq_getElem?_getD, List.getElem?_eq_none (by omega)]; simp
theorem Dg.nil : Dg [] := fun d h => (List.not_mem_nil h).elim
theorem Dg.add {l : List Int} {d : Int} (h : Dg l) (hd : 0 ≤ d ∧ d < 65536) : Dg (l ++ [d]) := fun x hx => by
  rcases List.mem_append.1 hx with hx | hx
  · exact h x hx
  · obtain rfl : x = d := by simpa using hx
    exact hd
theorem Dg.cons {l : List Int} {d : Int} (h : Dg l) (hd : 0 ≤ d ∧ d < 65536) : Dg (d :: l) := fun x hx => by
  rcases List.mem_cons.1 hx with rfl | hx
  · exact hd
  · exact h x hx
theorem val_append (l m : List Int) : val (l ++ m) = val l + 65536 ^ l.length * val m := by
  induction l with
  | nil => simp [val]
  | cons d l ih =>
    simp only [List.cons_append, val, ih, List.length_cons, Int.pow_succ]
    rw [Int.mul_add, Int.add_assoc]; congr 2; rw [← Int.mul_assoc, Int.mul_comm 65536]
theorem val_add (l : List Int) (d : Int) : val (l ++ [d]) = val l + 65536 ^ l.length * d := by
  rw [val_append]; simp [val]
theorem val_zero (l : List Int) : val (l ++ [0]) = val l := by rw [val_add, Int.mul_zero, Int.add_zero]
theorem times_step {a out : List Int} {x c T : Int} {i : Nat} (hi : i < a.length) (ho : out.length = i) (h : val out + 65536 ^ i * (val (a.drop i) * x + c) = T) :
    val (out ++ [(a.getD i 0 * x + c) % 65536]) + 65536 ^ (i + 1) * (val (a.drop (i + 1)) * x + (a.getD i 0 * x + c) / 65536) = T := by
  rw [val_add, ho, ← h, drop_getD 0 hi]
  simp only [val]
  have e : (a.getD i 0 + 65536 * val (a.drop (i + 1))) * x + c = 65536 * (val (a.drop (i + 1)) * x) + (a.getD i 0 * x + c) := by
    rw [Int.add_mul, Int.mul_assoc]; omega
  rw [e]
  generalize a.getD i 0 * x + c = n
  generalize val (a.drop (i + 1)) * x = m
  have hn : n = 65536 * (n / 65536) + n % 65536 := (Int.mul_ediv_add_emod n 65536).symm
  rw [Int.pow_succ, Int.mul_assoc, Int.add_assoc, ← Int.mul_add]
  congr 2
  omega
theorem carry_step {out : List Int} {c T : Int} (h : val out + 65536 ^ out.length * c = T) : val (out ++ [c % 65536]) + 65536 ^ (out ++ [c % 65536]).length * (c / 65536) = T := by
  rw [val_add, ← h, List.length_append, List.length_singleton, Int.pow_succ, Int.mul_assoc, Int.add_assoc, ← Int.mul_add]
  congr 2; omega
theorem times_end {a out : List Int} {x c T : Int} {i : Nat} (hi : a.length ≤ i) (ho : out.length = i) (h : val out + 65536 ^ i * (val (a.drop i) * x + c) = T) : val out + 65536 ^ out.length * c = T := by
  rw [List.drop_of_length_le hi] at h; rw [ho, ← h]; simp [val]
theorem carry_le {a x c : Int} (ha : 0 ≤ a ∧ a < 65536) (hx : 0 ≤ x) (hc : 0 ≤ c ∧ c ≤ x) : 0 ≤ a * x + c ∧ a * x + c ≤ 65536 * x := by
  have h1 : 0 ≤ a * x := Int.mul_nonneg ha.1 hx
  have h2 : a * x ≤ 65535 * x := Int.mul_le_mul_of_nonneg_right (by omega) hx
  omega
/-- The highest digit that is not the same tells which is less. -/
theorem val_lt : ∀ {l m : List Int} {i : Nat}, Dg l → Dg m → l.length = m.length → i < l.length → l.drop (i + 1) = m.drop (i + 1) → l.getD i 0 < m.getD i 0 → val l < val m
  | [], m, i, _, _, _, hi, _, _ => by simp at hi
  | d :: l, [], i, _, _, hl, _, _, _ => by simp at hl
  | d :: l, e :: m, 0, hd, he, hl, hi, hdr, h => by
    have e1 : l = m := by simpa using hdr
    subst e1
    have : d < e := by simpa using h
    simp only [val]; omega
  | d :: l, e :: m, i + 1, hd, he, hl, hi, hdr, h => by
    have ih := val_lt (l := l) (m := m) (i := i) (fun x hx => hd x (by simp [hx])) (fun x hx => he x (by simp [hx])) (by simpa using hl) (by simpa using hi) (by simpa using hdr) (by simpa using h)
    have h1 := hd d (by simp); have h2 := he e (by simp)
    simp only [val]; omega
theorem drop_same {l m : List Int} {i : Nat} (hl : i < l.length) (hm : i < m.length) (h : l.drop (i + 1) = m.drop (i + 1)) (e : l.getD i 0 = m.getD i 0) : l.drop i = m.drop i := by
  rw [drop_getD 0 hl, drop_getD 0 hm, h, e]
/-! Roots -/
theorem pow_le {a b : Int} (ha : 0 ≤ a) (h : a ≤ b) : ∀ k : Nat, 0 ≤ a ^ k ∧ a ^ k ≤ b ^ k
  | 0 => by simp
  | k + 1 => by
    have ih := pow_le ha h k
    rw [Int.pow_succ, Int.pow_succ]
    exact ⟨Int.mul_nonneg ih.1 ha, Int.le_trans (Int.mul_le_mul_of_nonneg_right ih.2 ha) (Int.mul_le_mul_of_nonneg_left h (Int.le_trans ih.1 ih.2))⟩
theorem root_one {a b P : Int} {k : Nat} (ha : 0 ≤ a) (hb : 0 ≤ b) (h1 : a ^ k ≤ P) (h2 : P < (a + 1) ^ k) (h3 : b ^ k ≤ P) (h4 : P < (b + 1) ^ k) : a = b := by
  rcases Int.lt_trichotomy a b with h | h | h
  · have := (pow_le (a := a + 1) (b := b) (by omega) (by omega) k).2; omega
  · exact h
  · have := (pow_le (a := b + 1) (b := a) (by omega) (by omega) k).2; omega
/-! Primes -/
def stepP (out : List Int) (x : Int) : List Int := if out.all (fun q => decide (x % q ≠ 0)) then out ++ [x] else out
def pf : Nat → List Int
  | 0 => []
  | k + 1 => stepP (pf k) ((k : Int) + 2)
theorem pf_mono (k : Nat) : (pf k).length ≤ (pf (k + 1)).length := by
  show _ ≤ (stepP (pf k) _).length
  unfold stepP; split
  · rw [List.length_append]; omega
  · exact Nat.le_refl _
theorem pf_le {j : Nat} : ∀ k, (pf j).length ≤ (pf (j + k)).length
  | 0 => Nat.le_refl _
  | k + 1 => Nat.le_trans (pf_le k) (pf_mono _)
theorem pf_309 : (pf 309).length = 63 := by decide +kernel
theorem pf_310 : (pf 310).length = 64 := by decide +kernel
theorem pf_when {k : Nat} (h : k ≤ 310) : ((pf k).length < 64 ∧ k < 310) ∨ ((pf k).length = 64 ∧ k = 310) := by
  rcases Nat.lt_or_ge k 310 with h1 | h1
  · have := pf_le (j := k) (309 - k)
    rw [show k + (309 - k) = 309 by omega, pf_309] at this
    exact .inl ⟨by omega, h1⟩
  · obtain rfl : k = 310 := by omega
    exact .inr ⟨pf_310, rfl⟩
theorem pf_mem : ∀ (k : Nat), ∀ q ∈ pf k, 2 ≤ q ∧ q < (k : Int) + 2
  | 0, q, h => (List.not_mem_nil h).elim
  | k + 1, q, h => by
    have ih := pf_mem k
    simp only [pf] at h
    unfold stepP at h
    split at h
    · rcases List.mem_append.1 h with h | h
      · have := ih q h; omega
      · obtain rfl : q = (k : Int) + 2 := by simpa using h
        omega
    · have := ih q h; omega
def PL : List Int := pf 310
def keysL : List Int := [0x428a2f98, 0x71374491, 0xb5c0fbcf, 0xe9b5dba5, 0x3956c25b, 0x59f111f1, 0x923f82a4, 0xab1c5ed5, 0xd807aa98, 0x12835b01, 0x243185be, 0x550c7dc3, 0x72be5d74, 0x80deb1fe, 0x9bdc06a7, 0xc19bf174, 0xe49b69c1, 0xefbe4786, 0x0fc19dc6, 0x240ca1cc, 0x2de92c6f, 0x4a7484aa, 0x5cb0a9dc, 0x76f988da, 0x983e5152, 0xa831c66d, 0xb00327c8, 0xbf597fc7, 0xc6e00bf3, 0xd5a79147, 0x06ca6351, 0x14292967, 0x27b70a85, 0x2e1b2138, 0x4d2c6dfc, 0x53380d13, 0x650a7354, 0x766a0abb, 0x81c2c92e, 0x92722c85, 0xa2bfe8a1, 0xa81a664b, 0xc24b8b70, 0xc76c51a3, 0xd192e819, 0xd6990624, 0xf40e3585, 0x106aa070, 0x19a4c116, 0x1e376c08, 0x2748774c, 0x34b0bcb5, 0x391c0cb3, 0x4ed8aa4a, 0x5b9cca4f, 0x682e6ff3, 0x748f82ee, 0x78a5636f, 0x84c87814, 0x8cc70208, 0x90befffa, 0xa4506ceb, 0xbef9a3f7, 0xc67178f2]
def beginL : List Int := [0x6a09e667, 0xbb67ae85, 0x3c6ef372, 0xa54ff53a, 0x510e527f, 0x9b05688c, 0x1f83d9ab, 0x5be0cd19]
/-- A whole root with these last 32 bits. -/
def full (P : Int) (k : Nat) (r : Int) : Int := (((List.range 16).map fun (j : Nat) => (j : Int) * 4294967296 + r).find? fun a => decide (a ^ k ≤ P ∧ P < (a + 1) ^ k)).getD (-1)
def okR (p r : Int) (k : Nat) : Bool := let P := p * 4294967296 ^ k; let a := full P k r; decide (0 ≤ a ∧ a ^ k ≤ P ∧ P < (a + 1) ^ k ∧ a % 4294967296 = r)
theorem keys_ok : (List.range 64).all (fun i => okR (PL.getD i 0) (keysL.getD i 0) 3) = true := by decide +kernel
theorem begin_ok : (List.range 8).all (fun i => okR (PL.getD i 0) (beginL.getD i 0) 2) = true := by decide +kernel
theorem okR_root {p r a : Int} {k : Nat} (h : okR p r k = true) (ha : 0 ≤ a) (h1 : a ^ k ≤ p * 4294967296 ^ k) (h2 : p * 4294967296 ^ k < (a + 1) ^ k) : a % 4294967296 = r := by
  have h' := of_decide_eq_true h
  have e := root_one h'.1 ha h'.2.1 h'.2.2.1 h1 h2
  rw [← e]; exact h'.2.2.2
theorem root_key {a : Int} {i : Nat} (hi : i < 64) (ha : 0 ≤ a) (h1 : a ^ 3 ≤ PL.getD i 0 * 4294967296 ^ 3) (h2 : PL.getD i 0 * 4294967296 ^ 3 < (a + 1) ^ 3) : a % 4294967296 = keysL.getD i 0 :=
  okR_root (List.all_eq_true.1 keys_ok i (List.mem_range.2 hi)) ha h1 h2
theorem root_begin {a : Int} {i : Nat} (hi : i < 8) (ha : 0 ≤ a) (h1 : a ^ 2 ≤ PL.getD i 0 * 4294967296 ^ 2) (h2 : PL.getD i 0 * 4294967296 ^ 2 < (a + 1) ^ 2) : a % 4294967296 = beginL.getD i 0 :=
  okR_root (List.all_eq_true.1 begin_ok i (List.mem_range.2 hi)) ha h1 h2
theorem len_one (l : List Int) (d : Int) : (l ++ [d]).length = l.length + 1 := by rw [List.length_append]; rfl
theorem val_cons0 {l : List Int} {V : Int} (h : val l = V) : val ([0] ++ l) = V * 65536 := by
  show 0 + 65536 * val l = _; rw [h]; omega
theorem dg_cons0 {l : List Int} (h : Dg l) : Dg ([0] ++ l) := h.cons ⟨Int.le_refl _, by decide⟩
theorem pow32 (k : Nat) : (65536 : Int) ^ (2 * k) = 4294967296 ^ k := by rw [Int.pow_mul]; rfl
theorem cmp_dig {l m : List Int} {X P : Int} {i : Nat} (hl : Dg l) (hm : Dg m) (he : l.length = m.length) (hi : i < l.length) (hd : l.drop (i + 1) = m.drop (i + 1)) (hn : l.getD i 0 ≠ m.getD i 0) (hX : val l = X) (hP : val m = P) : l.getD i 0 < m.getD i 0 ↔ X ≤ P := by
  rcases Int.lt_trichotomy (l.getD i 0) (m.getD i 0) with h | h | h
  · have := val_lt hl hm he hi hd h; omega
  · exact (hn h).elim
  · have := val_lt hm hl he.symm (by omega) hd.symm h; omega
theorem pf_yes {k : Nat} (h : (pf k).all (fun q => decide (((k : Int) + 2) % q ≠ 0)) = true) : pf (k + 1) = pf k ++ [(k : Int) + 2] := by show stepP _ _ = _; unfold stepP; rw [if_pos h]
theorem pf_no {k : Nat} (h : (pf k).all (fun q => decide (((k : Int) + 2) % q ≠ 0)) = false) : pf (k + 1) = pf k := by show stepP _ _ = _; unfold stepP; rw [if_neg (by rw [h]; decide)]
theorem PL_len : PL.length = 64 := pf_310
theorem PL_rng {i : Nat} (hi : i < 64) : 2 ≤ PL.getD i 0 ∧ PL.getD i 0 < 312 := by
  have := pf_mem 310 (PL.getD i 0) (mem_getD (by have := pf_310; omega)); omega
theorem PL_low {i : Nat} (hi : i < 8) : PL.getD i 0 < 20 := by
  have h : (List.range 8).all (fun i => decide (PL.getD i 0 < 20)) = true := by decide +kernel
  exact of_decide_eq_true (List.all_eq_true.1 h i (List.mem_range.2 hi))
theorem begin_full {i : Nat} (h : 8 ≤ i) : beginL.take i = beginL := List.take_of_length_le h
theorem keys_full {i : Nat} (h : 64 ≤ i) : keysL.take i = keysL := List.take_of_length_le h
theorem root_start {P : Int} {k : Nat} (hk : 1 ≤ k) (hP : 0 ≤ P) : (0 : Int) ^ k ≤ P := by
  rw [show k = (k - 1) + 1 by omega, Int.pow_succ, Int.mul_zero]; exact hP
theorem tabP {i : Nat} (hi : i < 64) : PL.getD i 0 * 4294967296 ^ 3 < 68719476736 ^ 3 := by
  have := PL_rng hi; omega
theorem tabP2 {i : Nat} (hi : i < 8) : PL.getD i 0 * 4294967296 ^ 2 < 68719476736 ^ 2 := by
  have := PL_low hi; omega
theorem take_low {l : List Int} {i : Nat} {x : Int} (hi : i < l.length) (h : x = l.getD i 0) : l.take i ++ [x] = l.take (i + 1) := by rw [take_getD 0 hi, h]
theorem beg_same {i : Nat} (h : 8 ≤ i) : beginL.take (i + 1) = beginL.take i := by rw [begin_full h, begin_full (by omega)]
end Go.Proofs.YtiehijephkagbaaDoor.Sha
