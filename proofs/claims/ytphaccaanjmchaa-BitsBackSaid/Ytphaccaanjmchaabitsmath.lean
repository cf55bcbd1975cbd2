/- Bits, bytes and numbers: what layer 1 says, in lists. -/
import Derived.Test.YtphaccaanjmchaaOp
namespace Go.Proofs.Ytphaccaanjmchaa.Bit
open Go.RowKit Go.Proofs.Ytphaccaanjmchaa.Sl
set_option linter.unusedVariables false
set_option linter.unusedSimpArgs false
def num : List Int → Int
  | [] => 0
  | b :: l => b + 2 * num l
def Bits (l : List Int) : Prop := ∀ b ∈ l, b = 0 ∨ b = 1
theorem Bits.nil : Bits [] := fun _ h => (List.not_mem_nil h).elim
theorem Bits.append {l m : List Int} (h : Bits l) (h' : Bits m) : Bits (l ++ m) := fun b hb => (List.mem_append.1 hb).elim (h b) (h' b)
theorem Bits.one {x : Int} (h : x = 0 ∨ x = 1) : Bits [x] := fun b hb => by rw [List.mem_singleton.1 hb]; exact h
theorem Bits.take {l : List Int} (h : Bits l) (n : Nat) : Bits (l.take n) := fun b hb => h b (List.mem_of_mem_take hb)
theorem Bits.drop {l : List Int} (h : Bits l) (n : Nat) : Bits (l.drop n) := fun b hb => h b (List.mem_of_mem_drop hb)
theorem num_bound : ∀ {l : List Int}, Bits l → 0 ≤ num l ∧ num l < 2 ^ l.length
  | [], _ => by simp [num]
  | b :: l, h => by
    have h1 := h b List.mem_cons_self
    have h2 := num_bound (l := l) fun c hc => h c (List.mem_cons_of_mem _ hc)
    rw [num, List.length_cons, Int.pow_succ]
    omega
theorem num_snoc (l : List Int) (x : Int) : num (l ++ [x]) = num l + x * 2 ^ l.length := by
  induction l with
  | nil => simp [num]
  | cons b l ih =>
    rw [List.cons_append, num, ih, num, List.length_cons, Int.pow_succ, Int.mul_add, ← Int.mul_assoc x, Int.mul_comm (x * 2 ^ l.length) 2]
    omega
def byts (l : List Int) : List Int := (List.range ((l.length + 7) / 8)).map fun i => num ((l.drop (8 * i)).take 8)
theorem byts_len (l : List Int) : (byts l).length = (l.length + 7) / 8 := by simp [byts]
theorem byts_get {l : List Int} {i : Nat} (h : i < (l.length + 7) / 8) : (byts l)[i]? = some (num ((l.drop (8 * i)).take 8)) := by
  unfold byts
  rw [List.getElem?_map, List.getElem?_eq_getElem (by simpa using h)]
  simp
theorem byts_bs {l : List Int} (h : Bits l) : Bs (byts l) := fun x hx => by
  obtain ⟨i, _, rfl⟩ := List.mem_map.1 hx
  have h1 := num_bound ((h.drop (8 * i)).take 8)
  have h2 : ((l.drop (8 * i)).take 8).length ≤ 8 := List.length_take_le _ _
  have h3 : (2 : Nat) ^ ((l.drop (8 * i)).take 8).length ≤ 2 ^ 8 := Nat.pow_le_pow_right (by omega) h2
  have h4 : ((2 ^ ((l.drop (8 * i)).take 8).length : Nat) : Int) = (2 : Int) ^ ((l.drop (8 * i)).take 8).length := by norm_cast
  omega
/-- Bits that are free in the last byte. -/
def free (l : List Int) : Int := (8 - (l.length : Int) % 8) % 8
/-- The bytes, with one to put to. -/
def pre (l : List Int) : List Int := if l.length % 8 = 0 then byts l ++ [0] else byts l
theorem pre0 {l : List Int} (h : l.length % 8 = 0) : pre l = byts l ++ [0] := if_pos h
theorem pre1 {l : List Int} (h : l.length % 8 ≠ 0) : pre l = byts l := if_neg h
theorem pre_len (l : List Int) : (pre l).length = l.length / 8 + 1 := by
  unfold pre; split
  · rw [List.length_append, byts_len, List.length_singleton]; omega
  · rw [byts_len]; omega
theorem free_eq (l : List Int) : free l = (8 - (l.length : Int) % 8) % 8 := rfl
/-- The byte that is put to. -/
theorem pre_last {l : List Int} : (pre l).getD ((pre l).length - 1) 0 = num (l.drop (8 * (l.length / 8))) := by
  rw [pre_len, Nat.add_sub_cancel, List.getD_eq_getElem?_getD]
  unfold pre; split
  · rw [List.getElem?_append_right (by rw [byts_len]; omega), byts_len, List.drop_of_length_le (by omega)]
    have : l.length / 8 - (l.length + 7) / 8 = 0 := by omega
    rw [this]; rfl
  · rw [byts_get (by omega), List.take_of_length_le (by rw [List.length_drop]; omega)]; rfl
theorem last_len (l : List Int) : (l.drop (8 * (l.length / 8))).length = l.length % 8 := by rw [List.length_drop]; omega
theorem byts_put {l : List Int} (x : Int) : (pre l).set ((pre l).length - 1) ((pre l).getD ((pre l).length - 1) 0 + x * 2 ^ (l.length % 8)) = byts (l ++ [x]) := by
  rw [pre_last, ← last_len l, ← num_snoc, pre_len, Nat.add_sub_cancel]
  apply List.ext_getElem?
  intro i
  have hL : (l ++ [x]).length = l.length + 1 := by simp
  rw [List.getElem?_set, pre_len]
  by_cases hi : i < l.length / 8 + 1
  · rw [byts_get (by rw [hL]; omega)]
    by_cases h : l.length / 8 = i
    · subst h
      rw [if_pos rfl, if_pos (by omega), List.drop_append_of_le_length (by omega), List.take_of_length_le (by rw [List.length_append, last_len, List.length_singleton]; omega)]
    · rw [if_neg h]
      have hp : (pre l)[i]? = (byts l)[i]? := by
        unfold pre; split
        · rw [List.getElem?_append_left (by rw [byts_len]; omega)]
        · rfl
      rw [hp, byts_get (by omega), List.drop_append_of_le_length (by omega), List.take_append_of_le_length (by rw [List.length_drop]; omega)]
  · rw [if_neg (by omega), List.getElem?_eq_none (by rw [pre_len]; omega), List.getElem?_eq_none (by rw [byts_len, hL]; omega)]
theorem pow7 {r : Nat} (h : r < 8) : (2 : Int) ^ r ≤ 128 ∧ 0 < (2 : Int) ^ r := by
  rcases (by omega : r = 0 ∨ r = 1 ∨ r = 2 ∨ r = 3 ∨ r = 4 ∨ r = 5 ∨ r = 6 ∨ r = 7) with rfl | rfl | rfl | rfl | rfl | rfl | rfl | rfl <;> decide
theorem bit_shl {l : List Int} {x : Int} (hx : x = 0 ∨ x = 1) : IntKind.u8.wrap (x * 2 ^ (min (8 - (8 - (l.length : Int) % 8)).toNat IntKind.u8.bits)) = x * 2 ^ (l.length % 8) := by
  have e : min (8 - (8 - (l.length : Int) % 8)).toNat IntKind.u8.bits = l.length % 8 := by
    show min _ 8 = _
    omega
  rw [e]
  have := pow7 (r := l.length % 8) (by omega)
  rcases hx with rfl | rfl
  · exact wr_u8 (by simp)
  · exact wr_u8 (by omega)
theorem bit_or {l : List Int} {x : Int} (hl : Bits l) (hx : x = 0 ∨ x = 1) : bits .or .u8 ((pre l).getD ((pre l).length - 1) 0) (x * 2 ^ (l.length % 8)) = (pre l).getD ((pre l).length - 1) 0 + x * 2 ^ (l.length % 8) := by
  rw [pre_last]
  have hb := num_bound (hl.drop (8 * (l.length / 8)))
  rw [last_len] at hb
  have hp := pow7 (r := l.length % 8) (by omega)
  generalize num (l.drop (8 * (l.length / 8))) = a at *
  obtain ⟨a, rfl⟩ := Int.eq_ofNat_of_zero_le hb.1
  have hpc : ((2 ^ (l.length % 8) : Nat) : Int) = (2 : Int) ^ (l.length % 8) := by norm_cast
  rcases hx with rfl | rfl
  · rw [Int.zero_mul, Int.add_zero]
    have := bn_or_u8 (a := a) (b := 0) (by omega) (by omega)
    simpa using this
  · rw [Int.one_mul, ← hpc]
    rw [bn_or_u8 (by omega) (by omega), Nat.or_comm, nat_join (l.length % 8) _ _ (Nat.mod_self _) (by omega), Nat.add_comm]
    omega
/-! What is put -/
def cl (n : Int) : Nat := (min (max n 0) 64).toNat
theorem cl_eq (n : Int) : (cl n : Int) = min (max n 0) 64 := by unfold cl; omega
theorem cl_le (n : Int) : cl n ≤ 64 := by unfold cl; omega
def lowb (k : Nat) (x : Int) : List Int := (List.range k).map fun i => x / 2 ^ i % 2
def hib (k j : Nat) (x : Int) : List Int := (List.range j).map fun q => x / 2 ^ (k - 1 - q) % 2
def puts (k : Nat) (xs : List Int) : List Int := xs.flatMap (lowb k)
theorem lowb_len (k : Nat) (x : Int) : (lowb k x).length = k := by simp [lowb]
theorem hib_len (k j : Nat) (x : Int) : (hib k j x).length = j := by simp [hib]
theorem puts_len (k : Nat) (xs : List Int) : (puts k xs).length = k * xs.length := by
  induction xs with
  | nil => simp [puts]
  | cons x xs ih => simp only [puts, List.flatMap_cons, List.length_append, lowb_len, List.length_cons] at *; rw [ih, Nat.mul_add]; omega
theorem mod2 (x : Int) : x % 2 = 0 ∨ x % 2 = 1 := by omega
theorem bits_lowb (k : Nat) (x : Int) : Bits (lowb k x) := fun b hb => by
  obtain ⟨i, _, rfl⟩ := List.mem_map.1 hb; exact mod2 _
theorem bits_hib (k j : Nat) (x : Int) : Bits (hib k j x) := fun b hb => by
  obtain ⟨i, _, rfl⟩ := List.mem_map.1 hb; exact mod2 _
theorem bits_puts (k : Nat) (xs : List Int) : Bits (puts k xs) := fun b hb => by
  obtain ⟨x, _, h⟩ := List.mem_flatMap.1 hb; exact bits_lowb k x b h
theorem lowb_succ (i : Nat) (x : Int) : lowb (i + 1) x = lowb i x ++ [x / 2 ^ i % 2] := by simp [lowb, List.range_succ]
theorem hib_succ (k j : Nat) (x : Int) : hib k (j + 1) x = hib k j x ++ [x / 2 ^ (k - 1 - j) % 2] := by simp [hib, List.range_succ]
theorem low_step (A : List Int) (i : Nat) (x : Int) : A ++ lowb i x ++ [x / 2 ^ i % 2] = A ++ lowb (i + 1) x := by rw [lowb_succ, List.append_assoc]
theorem hib_step (A : List Int) (k j : Nat) (x : Int) : A ++ hib k j x ++ [x / 2 ^ (k - 1 - j) % 2] = A ++ hib k (j + 1) x := by rw [hib_succ, List.append_assoc]
theorem take_snoc {α : Type} (d : α) {xs : List α} {j : Nat} (h : j < xs.length) : xs.take (j + 1) = xs.take j ++ [xs.getD j d] := by
  rw [List.take_add_one, List.getElem?_eq_getElem h, List.getD_eq_getElem?_getD, List.getElem?_eq_getElem h]; rfl
theorem mem_getD {α : Type} {d : α} {xs : List α} {j : Nat} (h : j < xs.length) : xs.getD j d ∈ xs := by
  rw [List.getD_eq_getElem?_getD, List.getElem?_eq_getElem h]; exact List.getElem_mem h
theorem puts_step (A : List Int) (k : Nat) {xs : List Int} {j : Nat} (h : j < xs.length) : A ++ puts k (xs.take j) ++ lowb k (xs.getD j 0) = A ++ puts k (xs.take (j + 1)) := by
  rw [take_snoc 0 h]; simp [puts]
theorem dv_nn {x : Int} (h : 0 ≤ x) (i : Nat) : 0 ≤ x / 2 ^ i ∧ x / 2 ^ i ≤ x := ⟨Int.ediv_nonneg h (Int.le_of_lt (Int.pow_pos (by omega))), Int.ediv_le_self _ h⟩
theorem dv2 (x : Int) (i : Nat) : x / 2 ^ i / 2 = x / 2 ^ (i + 1) := by rw [Int.pow_succ, ← Int.ediv_ediv_of_nonneg (Int.le_of_lt (Int.pow_pos (by omega)))]
theorem shr_u64 {X : Int} {Y : Int} {i : Nat} (hY : Y = i) (h : i ≤ 64) : X / 2 ^ (min Y.toNat IntKind.u64.bits) = X / 2 ^ i := by
  have : min Y.toNat IntKind.u64.bits = i := by show min _ 64 = i; omega
  rw [this]
/-- Filled up to whole bytes. -/
def full (l : List Int) : List Int := l ++ List.replicate ((8 - l.length % 8) % 8) 0
theorem full_len (l : List Int) : (full l).length = (l.length + 7) / 8 * 8 := by simp [full]; omega
theorem bits_full {l : List Int} (h : Bits l) : Bits (full l) := h.append fun b hb => .inl (List.eq_of_mem_replicate hb)
theorem free_full (l : List Int) : free (full l) = 0 := by unfold free; rw [full_len]; omega
theorem num_zeros (l : List Int) (n : Nat) : num (l ++ List.replicate n 0) = num l := by
  induction n with
  | zero => simp
  | succ n ih => rw [List.replicate_succ', ← List.append_assoc, num_snoc, ih]; simp
theorem byts_full (l : List Int) : byts (full l) = byts l := by
  apply List.ext_getElem?
  intro i
  by_cases h : i < (l.length + 7) / 8
  · rw [byts_get h, byts_get (by rw [full_len]; omega)]
    congr 1
    unfold full
    rw [List.drop_append, List.take_append]
    simp only [List.drop_replicate, List.take_replicate]
    exact num_zeros _ _
  · rw [List.getElem?_eq_none (by rw [byts_len, full_len]; omega), List.getElem?_eq_none (by rw [byts_len]; omega)]
def ofb (bs : List Int) : List Int := bs.flatMap (lowb 8)
theorem ofb_len (bs : List Int) : (ofb bs).length = 8 * bs.length := puts_len 8 bs
theorem bits_ofb (bs : List Int) : Bits (ofb bs) := bits_puts 8 bs
theorem num_lowb : ∀ (k : Nat) {x : Int}, 0 ≤ x → num (lowb k x) = x % 2 ^ k
  | 0, x, _ => by simp [lowb, num, Int.emod_one]
  | k + 1, x, h => by
    rw [lowb_succ, num_snoc, num_lowb k h, lowb_len]
    have h3 : (2 : Int) ^ (k + 1) = 2 ^ k * 2 := Int.pow_succ 2 k
    have h4 : x / (2 ^ k * 2) = x / 2 ^ k / 2 := (Int.ediv_ediv_of_nonneg (Int.le_of_lt (Int.pow_pos (by omega)))).symm
    rw [h3, Int.emod_def x (2 ^ k * 2), h4, Int.emod_def x, Int.emod_def (x / 2 ^ k)]
    generalize x / 2 ^ k / 2 = s
    generalize x / 2 ^ k = q
    generalize (2 : Int) ^ k = a
    have e1 : a * 2 * s = 2 * (a * s) := by rw [Int.mul_assoc, Int.mul_left_comm]
    have e2 : (q - 2 * s) * a = a * q - 2 * (a * s) := by rw [Int.sub_mul, Int.mul_comm q a, Int.mul_assoc, Int.mul_comm s a]
    rw [e1, e2]; omega
theorem byts_raw {l : List Int} (h : l.length % 8 = 0) : ∀ {bs : List Int}, Bs bs → byts (l ++ ofb bs) = byts l ++ bs := by
  intro bs hb
  apply List.ext_getElem?
  intro i
  have hL : (l ++ ofb bs).length = l.length + 8 * bs.length := by rw [List.length_append, ofb_len]
  by_cases h1 : i < l.length / 8
  · rw [byts_get (by rw [hL]; omega), List.getElem?_append_left (by rw [byts_len]; omega), byts_get (by omega), List.drop_append_of_le_length (by omega), List.take_append_of_le_length (by rw [List.length_drop]; omega)]
  · rw [List.getElem?_append_right (by rw [byts_len]; omega), byts_len]
    by_cases h2 : i < l.length / 8 + bs.length
    · rw [byts_get (by rw [hL]; omega)]
      have key : ∀ (m : Nat) (bs : List Int), m < bs.length → ((ofb bs).drop (8 * m)).take 8 = lowb 8 (bs.getD m 0) := by
        intro m
        induction m with
        | zero =>
          intro bs hm
          cases bs with
          | nil => simp at hm
          | cons b bs => show ((lowb 8 b ++ ofb bs).drop 0).take 8 = _; rw [List.drop_zero, List.take_append_of_le_length (by rw [lowb_len]; omega), List.take_of_length_le (by rw [lowb_len]; omega)]; rfl
        | succ m ih =>
          intro bs hm
          cases bs with
          | nil => simp at hm
          | cons b bs =>
            show ((lowb 8 b ++ ofb bs).drop (8 * (m + 1))).take 8 = _
            rw [show 8 * (m + 1) = (lowb 8 b).length + 8 * m by rw [lowb_len]; omega, ← List.drop_drop, List.drop_left]
            exact ih bs (by simp at hm; omega)
      rw [show i = l.length / 8 + (i - l.length / 8) by omega]
      rw [show 8 * (l.length / 8 + (i - l.length / 8)) = l.length + 8 * (i - l.length / 8) by omega, ← List.drop_drop, List.drop_left, key _ _ (by omega), num_lowb 8 (hb.getD _).1]
      rw [show l.length / 8 + (i - l.length / 8) - (l.length + 7) / 8 = i - l.length / 8 by omega, getD_get 0 (by omega)]
      congr 1
      have := hb.getD (i - l.length / 8)
      omega
    · rw [List.getElem?_eq_none (by rw [byts_len, hL]; omega), List.getElem?_eq_none (by omega)]
theorem hib_rev (k : Nat) (x : Int) : hib k k x = (lowb k x).reverse := by
  apply List.ext_getElem?
  intro i
  by_cases h : i < k
  · rw [List.getElem?_reverse (by rw [lowb_len]; exact h), lowb_len]
    simp only [hib, lowb, List.getElem?_map]
    rw [List.getElem?_range h, List.getElem?_range (by omega)]
    rfl
  · rw [List.getElem?_eq_none (by rw [hib_len]; omega), List.getElem?_eq_none (by rw [List.length_reverse, lowb_len]; omega)]
theorem lowb_bs (k : Nat) (x : Int) : Bs (lowb k x) := fun b hb => by have := bits_lowb k x b hb; omega
theorem Bits.bs {l : List Int} (h : Bits l) : Bs l := fun b hb => by have := h b hb; omega
theorem Bits.getD {l : List Int} (h : Bits l) (i : Nat) : l.getD i 0 = 0 ∨ l.getD i 0 = 1 := by
  rw [List.getD_eq_getElem?_getD]
  cases hi : l[i]? with
  | none => left; rfl
  | some x => exact h x (List.mem_of_getElem? hi)
theorem bits_rev {l : List Int} (h : Bits l) : Bits l.reverse := fun b hb => h b (List.mem_reverse.1 hb)
theorem num_drop {l : List Int} {i : Nat} (h : i < l.length) : num (l.drop i) = l.getD i 0 + 2 * num (l.drop (i + 1)) := by
  rw [List.drop_eq_getElem_cons h, num, List.getD_eq_getElem?_getD, List.getElem?_eq_getElem h]; rfl
theorem num_bd {l : List Int} (h : Bits l) (hl : l.length ≤ 64) (i : Nat) : 0 ≤ num (l.drop i) ∧ num (l.drop i) < 18446744073709551616 ∧ (0 < i → num (l.drop i) < 9223372036854775808 ∨ l.drop i = []) := by
  have hb := num_bound (h.drop i)
  have hd : (l.drop i).length ≤ 64 - i := by rw [List.length_drop]; omega
  have h2 : (2 : Nat) ^ (l.drop i).length ≤ 2 ^ 64 := Nat.pow_le_pow_right (by omega) (by omega)
  have h3 : ((2 ^ (l.drop i).length : Nat) : Int) = (2 : Int) ^ (l.drop i).length := by norm_cast
  refine ⟨hb.1, by omega, fun hi => .inl ?_⟩
  have h2 : (2 : Nat) ^ (l.drop i).length ≤ 2 ^ 63 := Nat.pow_le_pow_right (by omega) (by omega)
  omega
theorem byts_step {l : List Int} (hL : l.length % 8 = 0) {k : Nat} (h : 8 * k < l.length) : (byts l).take k ++ [num ((l.take (8 * k + 8)).drop (8 * k))] = (byts l).take (k + 1) := by
  have h1 := take_snoc (α := Int) 0 (xs := byts l) (j := k) (by rw [byts_len]; omega)
  rw [h1, List.getD_eq_getElem?_getD, byts_get (by omega)]
  simp only [Option.getD_some]
  rw [List.drop_take]
  congr 4
  omega
theorem hib_low {k j : Nat} {x : Int} (h : j < k) : (lowb k x).getD (k - 1 - j) 0 = x / 2 ^ (k - 1 - j) % 2 := by
  rw [List.getD_eq_getElem?_getD]; unfold lowb
  rw [List.getElem?_map, List.getElem?_range (by omega)]; rfl
theorem num_wr {l : List Int} (h : Bits l) (hl : l.length ≤ 64) {j : Nat} (hj : j < l.length) : 0 ≤ 2 * num (l.drop (l.length - j)) ∧ 2 * num (l.drop (l.length - j)) ≤ 18446744073709551615 := by
  have := num_drop (l := l) (i := l.length - (j + 1)) (by omega)
  rw [show l.length - (j + 1) + 1 = l.length - j by omega] at this
  have h1 := num_bd h hl (l.length - (j + 1))
  have h2 := num_bd h hl (l.length - j)
  have h3 := h.getD (l.length - (j + 1))
  omega
theorem num8 {l : List Int} (h : Bits l) (k : Nat) : 0 ≤ num ((l.take (8 * k + 8)).drop (8 * k)) ∧ num ((l.take (8 * k + 8)).drop (8 * k)) ≤ 255 := by
  have h1 := num_bound ((h.take (8 * k + 8)).drop (8 * k))
  have h2 : ((l.take (8 * k + 8)).drop (8 * k)).length ≤ 8 := by simp; omega
  have h3 : (2 : Nat) ^ ((l.take (8 * k + 8)).drop (8 * k)).length ≤ 2 ^ 8 := Nat.pow_le_pow_right (by omega) h2
  have h4 : ((2 ^ ((l.take (8 * k + 8)).drop (8 * k)).length : Nat) : Int) = (2 : Int) ^ ((l.take (8 * k + 8)).drop (8 * k)).length := by norm_cast
  omega
/-! Reading -/
def okn (bs : List Int) (a : Nat) (n : Int) : Prop := 0 ≤ n ∧ n ≤ 64 ∧ n ≤ 8 * (bs.length : Int) - a
instance (bs : List Int) (a : Nat) (n : Int) : Decidable (okn bs a n) := by unfold okn; infer_instance
def rdv (bs : List Int) (a : Nat) (n : Int) : Int := if okn bs a n then num (((ofb bs).drop a).take n.toNat) else 0
def rda (bs : List Int) (a : Nat) (n : Int) : Nat := if okn bs a n then a + n.toNat else a
def up (a : Nat) : Nat := (a + 7) / 8 * 8
def okr (bs : List Int) (a : Nat) (n : Int) : Prop := 0 ≤ n ∧ n ≤ (8 * (bs.length : Int) - up a) / 8
instance (bs : List Int) (a : Nat) (n : Int) : Decidable (okr bs a n) := by unfold okr; infer_instance
def raws (bs : List Int) (a : Nat) (n : Int) : List Int := if okr bs a n then (bs.drop (up a / 8)).take n.toNat else []
def rdr (bs : List Int) (a : Nat) (n : Int) : Nat := if okr bs a n then up a + 8 * n.toNat else up a
theorem rda_le {bs : List Int} {a : Nat} {n : Int} (h : a ≤ 8 * bs.length) : rda bs a n ≤ 8 * bs.length := by
  unfold rda; split
  · rename_i h1; have := h1.2.2; have := h1.1; omega
  · exact h
theorem up_le {bs : List Int} {a : Nat} (h : a ≤ 8 * bs.length) : up a ≤ 8 * bs.length := by unfold up; omega
theorem rdr_le {bs : List Int} {a : Nat} {n : Int} (h : a ≤ 8 * bs.length) : rdr bs a n ≤ 8 * bs.length := by
  have := up_le h
  unfold rdr; split
  · rename_i h1; have := h1.1; have := h1.2; omega
  · exact this
theorem ofb_get {bs : List Int} (hb : Bs bs) {a : Nat} (h : a < 8 * bs.length) : (ofb bs)[a]? = some (bs.getD (a / 8) 0 / 2 ^ (a % 8) % 2) := by
  have key : ∀ (bs : List Int) (a : Nat), a < 8 * bs.length → (ofb bs)[a]? = some (bs.getD (a / 8) 0 / 2 ^ (a % 8) % 2) := by
    intro bs
    induction bs with
    | nil => intro a h; simp at h
    | cons b bs ih =>
      intro a h
      show (lowb 8 b ++ ofb bs)[a]? = _
      rcases Nat.lt_or_ge a 8 with h8 | h8
      · rw [List.getElem?_append_left (by rw [lowb_len]; exact h8)]
        simp only [lowb, List.getElem?_map]
        rw [List.getElem?_range h8, Nat.div_eq_of_lt h8, Nat.mod_eq_of_lt h8]; rfl
      · rw [List.getElem?_append_right (by rw [lowb_len]; exact h8), lowb_len, ih (a - 8) (by simp at h; omega)]
        obtain ⟨c, rfl⟩ : ∃ c, a = c + 8 := ⟨a - 8, by omega⟩
        rw [Nat.add_sub_cancel, Nat.add_div_right _ (by omega), Nat.add_mod_right]; rfl
  exact key bs a h
theorem rd_step {bs : List Int} (hb : Bs bs) {a i : Nat} (h : a + i < 8 * bs.length) : num (((ofb bs).drop a).take i) + bs.getD ((a + i) / 8) 0 / 2 ^ ((a + i) % 8) % 2 * 2 ^ i = num (((ofb bs).drop a).take (i + 1)) := by
  have hl : i < ((ofb bs).drop a).length := by rw [List.length_drop, ofb_len]; omega
  have hg : ((ofb bs).drop a).getD i 0 = bs.getD ((a + i) / 8) 0 / 2 ^ ((a + i) % 8) % 2 := by
    rw [List.getD_eq_getElem?_getD, List.getElem?_drop, ofb_get hb h]; rfl
  rw [take_snoc 0 hl, num_snoc, hg, List.length_take, Nat.min_eq_left (by omega)]
theorem pow63 {i : Nat} (h : i < 64) : 0 < (2 : Int) ^ i ∧ (2 : Int) ^ i ≤ 9223372036854775808 := by
  have h2 : (2 : Nat) ^ i ≤ 2 ^ 63 := Nat.pow_le_pow_right (by omega) (by omega)
  have h3 : ((2 ^ i : Nat) : Int) = (2 : Int) ^ i := by norm_cast
  exact ⟨Int.pow_pos (by omega), by omega⟩
theorem rd_shl {b : Int} (h : b = 0 ∨ b = 1) {Y : Int} {i : Nat} (hY : Y = i) (hi : i < 64) : IntKind.u64.wrap (b * 2 ^ (min Y.toNat IntKind.u64.bits)) = b * 2 ^ i := by
  have e : min Y.toNat IntKind.u64.bits = i := by show min _ 64 = i; omega
  have := pow63 hi
  rw [e]
  rcases h with rfl | rfl
  · exact wr_u64 (by simp)
  · exact wr_u64 (by omega)
theorem rd_or {l : List Int} (hl : Bits l) {b : Int} (h : b = 0 ∨ b = 1) (hi : l.length < 64) : bits .or .u64 (num l) (b * 2 ^ l.length) = num l + b * 2 ^ l.length := by
  have hb := num_bound hl
  have hp := pow63 hi
  generalize hn : num l = x at *
  obtain ⟨x, rfl⟩ := Int.eq_ofNat_of_zero_le hb.1
  have hpc : ((2 ^ l.length : Nat) : Int) = (2 : Int) ^ l.length := by norm_cast
  rcases h with rfl | rfl
  · rw [Int.zero_mul, Int.add_zero]
    have := bn_or_u64 (a := x) (b := 0) (by omega) (by omega)
    simpa using this
  · rw [Int.one_mul, ← hpc, bn_or_u64 (by omega) (by omega), Nat.or_comm, nat_join l.length _ _ (Nat.mod_self _) (by omega), Nat.add_comm]
    omega
theorem shr_u8 {X : Int} {Y : Int} {i : Nat} (hY : Y = i) (h : i ≤ 8) : X / 2 ^ (min Y.toNat IntKind.u8.bits) = X / 2 ^ i := by
  have : min Y.toNat IntKind.u8.bits = i := by show min _ 8 = i; omega
  rw [this]
/-! What is put, act by act -/
structure Ac where
  d : Int
  n : Int
  x : Int
  bv : Sv
  b : List Int
def Ac.z : Ac := ⟨0, 0, 0, ⟨none, 0, 0⟩, []⟩
def tAct : Fl Ac := ⟨4, fun a => [.int .u8 a.d, .int .i64 a.n, .int .u64 a.x, a.bv.v], fun _ => rfl, fun _ u h => by simp at h; rcases h with rfl | rfl | rfl | rfl <;> rfl, by decide⟩
structure AcOk (f : Hp) (a : Ac) : Prop where
  rd : Rd (tI .u8) f a.bv.v a.b
  bs : Bs a.b
  d : 0 ≤ a.d ∧ a.d < 256
  n : -9223372036854775808 ≤ a.n ∧ a.n < 9223372036854775808
  x : 0 ≤ a.x ∧ a.x < 18446744073709551616
def longB (l : List Ac) : Bool := decide (300 < l.length) || l.any fun a => decide (100 < a.b.length)
theorem longB_false {l : List Ac} (h : longB l = false) : l.length ≤ 300 ∧ ∀ a ∈ l, a.b.length ≤ 100 := by
  simp only [longB, Bool.or_eq_false_iff, decide_eq_false_iff_not, List.any_eq_false, decide_eq_true_eq] at h
  exact ⟨by omega, fun a ha => by have := h.2 a ha; omega⟩
theorem longB_len {l : List Ac} (h : 300 < l.length) : longB l = true := by simp [longB, h]
theorem longB_at {l : List Ac} {a : Ac} (ha : a ∈ l) (h : 100 < a.b.length) : longB l = true := by
  simp only [longB, Bool.or_eq_true, List.any_eq_true, decide_eq_true_eq]; exact .inr ⟨a, ha, h⟩
theorem longB_no {l : List Ac} (h : l.length ≤ 300) (h' : ∀ a ∈ l, a.b.length ≤ 100) : longB l = false := by
  simp only [longB, Bool.or_eq_false_iff, decide_eq_false_iff_not, List.any_eq_false, decide_eq_true_eq]
  exact ⟨by omega, fun a ha => by have := h' a ha; omega⟩
theorem AcOk.mono {f g : Hp} {a : Ac} (h : AcOk f a) (hl : f.le g) : AcOk g a := ⟨h.rd.mono hl, h.bs, h.d, h.n, h.x⟩
theorem long_step {l : List Ac} {i : Nat} (h : ∀ a ∈ l.take i, a.b.length ≤ 100) (hi : i < l.length) (h2 : (l.getD i Ac.z).b.length ≤ 100) : ∀ a ∈ l.take (i + 1), a.b.length ≤ 100 := fun a ha => by
  rw [take_snoc Ac.z hi] at ha
  rcases List.mem_append.1 ha with ha | ha
  · exact h a ha
  · rw [List.mem_singleton.1 ha]; exact h2
/-- All bits turned. -/
def cpl (x : Int) : Int := 18446744073709551615 - x
theorem cpl_xor {x : Int} (h : 0 ≤ x ∧ x < 18446744073709551616) : bits .xor .u64 (if IntKind.u64.signed then -1 else IntKind.u64.max) x = cpl x := by
  obtain ⟨a, rfl⟩ := Int.eq_ofNat_of_zero_le h.1
  show bits .xor .u64 ((18446744073709551615 : Nat) : Int) (a : Int) = _
  rw [bn_xor_u64 (by omega) (by omega)]
  have : 18446744073709551615 ^^^ a = 18446744073709551615 - a := by
    have h1 : (~~~(BitVec.ofNat 64 a)).toNat = (BitVec.allOnes 64 ^^^ BitVec.ofNat 64 a).toNat := by rw [BitVec.not_def]
    rw [BitVec.toNat_not, BitVec.toNat_xor, BitVec.toNat_allOnes, BitVec.toNat_ofNat, Nat.mod_eq_of_lt (by omega)] at h1
    exact h1.symm
  unfold cpl; omega
theorem cpl_range {x : Int} (h : 0 ≤ x ∧ x < 18446744073709551616) : 0 ≤ cpl x ∧ cpl x < 18446744073709551616 := by unfold cpl; omega
theorem cpl_mem {x : Int} (h : 0 ≤ x ∧ x < 18446744073709551616) : ∀ y ∈ [x, cpl x], 0 ≤ y ∧ y < 18446744073709551616 := fun y hy => by
  simp at hy; rcases hy with rfl | rfl
  · exact h
  · exact cpl_range h
def act (L : List Int) (a : Ac) : List Int :=
  if a.d % 4 = 0 then L ++ puts (cl a.n) [a.x, cpl a.x] else if a.d % 4 = 1 then L ++ hib (cl a.n) (cl a.n) a.x else if a.d % 4 = 2 then full L else full L ++ ofb a.b
def acts (l : List Ac) : List Int := l.foldl act []
theorem acts_snoc (l : List Ac) (a : Ac) : acts (l ++ [a]) = act (acts l) a := by simp [acts]
theorem acts_step {l : List Ac} {i : Nat} (h : i < l.length) : acts (l.take (i + 1)) = act (acts (l.take i)) (l.getD i Ac.z) := by rw [take_snoc Ac.z h, acts_snoc]
theorem act_bits {L : List Int} (h : Bits L) (a : Ac) : Bits (act L a) := by
  unfold act; split
  · exact h.append (bits_puts _ _)
  · split
    · exact h.append (bits_hib _ _ _)
    · split
      · exact bits_full h
      · exact (bits_full h).append (bits_ofb _)
theorem acts_bits (l : List Ac) : Bits (acts l) := by
  have : ∀ (l : List Ac) (L : List Int), Bits L → Bits (l.foldl act L) := by
    intro l
    induction l with
    | nil => exact fun _ h => h
    | cons a l ih => exact fun L h => ih _ (act_bits h a)
  exact this l [] Bits.nil
theorem act_len (L : List Int) (a : Ac) (h : a.b.length ≤ 100) : (act L a).length ≤ L.length + 1000 := by
  have := cl_le a.n
  unfold act; split
  · rw [List.length_append, puts_len]; simp; omega
  · split
    · rw [List.length_append, hib_len]; omega
    · split
      · rw [full_len]; omega
      · rw [List.length_append, full_len, ofb_len]; omega
/-! A code is its bits turned about -/
theorem hib_turn (i : Nat) (x : Int) : hib (i + 1) (i + 1) x = x / 2 ^ i % 2 :: hib i i x := by
  apply List.ext_getElem?
  intro q
  cases q with
  | zero => simp [hib]
  | succ q =>
    rw [List.getElem?_cons_succ]
    by_cases h : q < i
    · simp only [hib, List.getElem?_map]
      rw [List.getElem?_range (by omega), List.getElem?_range h]
      simp only [Option.map_some]
      rw [show i + 1 - 1 - (q + 1) = i - 1 - q by omega]
    · rw [List.getElem?_eq_none (by rw [hib_len]; omega), List.getElem?_eq_none (by rw [hib_len]; omega)]
theorem num_turn (i : Nat) (x : Int) : num (hib (i + 1) (i + 1) x) = x / 2 ^ i % 2 + 2 * num (hib i i x) := by rw [hib_turn]; rfl
theorem num_hib {i : Nat} (h : i ≤ 64) (x : Int) : 0 ≤ num (hib i i x) ∧ num (hib i i x) < 18446744073709551616 ∧ (i < 64 → num (hib i i x) < 9223372036854775808) := by
  have h1 := num_bound (bits_hib i i x)
  rw [hib_len] at h1
  have h2 : (2 : Nat) ^ i ≤ 2 ^ 64 := Nat.pow_le_pow_right (by omega) h
  have h3 : ((2 ^ i : Nat) : Int) = (2 : Int) ^ i := by norm_cast
  refine ⟨h1.1, by omega, fun h4 => ?_⟩
  have h2 : (2 : Nat) ^ i ≤ 2 ^ 63 := Nat.pow_le_pow_right (by omega) (by omega)
  omega
theorem lowb_cons (k : Nat) (x : Int) : lowb (k + 1) x = x % 2 :: lowb k (x / 2) := by
  apply List.ext_getElem?
  intro q
  cases q with
  | zero => simp [lowb]
  | succ q =>
    rw [List.getElem?_cons_succ]
    by_cases h : q < k
    · simp only [lowb, List.getElem?_map]
      rw [List.getElem?_range (by omega), List.getElem?_range h]
      simp only [Option.map_some]
      rw [Int.pow_succ, Int.mul_comm, ← Int.ediv_ediv_of_nonneg (by omega)]
    · rw [List.getElem?_eq_none (by rw [lowb_len]; omega), List.getElem?_eq_none (by rw [lowb_len]; omega)]
theorem lowb_num : ∀ {l : List Int}, Bits l → lowb l.length (num l) = l
  | [], _ => rfl
  | b :: l, h => by
    have h1 := h b List.mem_cons_self
    rw [List.length_cons, lowb_cons, num]
    rw [show (b + 2 * num l) % 2 = b by omega, show (b + 2 * num l) / 2 = num l by omega, lowb_num fun c hc => h c (List.mem_cons_of_mem _ hc)]
theorem codes_eq {A : List Int} {k i : Nat} (h : k = i) (x : Int) : A ++ hib k k x = A ++ puts k [num (hib i i x)] := by
  subst h
  have := lowb_num (bits_hib k k x)
  rw [hib_len] at this
  simp [puts, this]
/-! Aligns -/
def al (L : List Int) (a : Ac) : List Int := if a.d % 2 = 0 then full (L ++ puts (cl a.n) [a.x]) else L ++ puts (cl a.n) [a.x]
def als (l : List Ac) : List Int := l.foldl al []
theorem als_step {l : List Ac} {i : Nat} (h : i < l.length) : als (l.take (i + 1)) = al (als (l.take i)) (l.getD i Ac.z) := by rw [take_snoc Ac.z h]; simp [als]
theorem als_bits (l : List Ac) : Bits (als l) := by
  have : ∀ (l : List Ac) (L : List Int), Bits L → Bits (l.foldl al L) := by
    intro l
    induction l with
    | nil => exact fun _ h => h
    | cons a l ih =>
      intro L h
      refine ih _ ?_
      unfold al; split
      · exact bits_full (h.append (bits_puts _ _))
      · exact h.append (bits_puts _ _)
  exact this l [] Bits.nil
theorem al_len (L : List Int) (a : Ac) : (al L a).length ≤ L.length + 1000 := by
  have := cl_le a.n
  unfold al; split
  · rw [full_len, List.length_append, puts_len]; simp; omega
  · rw [List.length_append, puts_len]; simp; omega
end Go.Proofs.Ytphaccaanjmchaa.Bit
