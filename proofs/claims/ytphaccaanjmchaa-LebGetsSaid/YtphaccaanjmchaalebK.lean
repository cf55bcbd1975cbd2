/- Contracts of the program's and the document's number functions, in the words of lists: each answers the bytes of its number, in new memory. -/
import Derived.Test.YtphaccaanjmchaaPLebPutsx1
import Derived.Test.YtphaccaanjmchaaU
import Derived.Test.Ytphaccaanjmchaalebmath
import Derived.Test.YtphaccaanjmchaaReg
namespace Go.Proofs.Ytphaccaanjmchaa.Own
open Go.RowKit Go.Proofs.Ytphaccaanjmchaa.PLebPuts Go.Proofs.YtphaccaanjmchaaW.PrintWords Go.Proofs.YtphaccaanjmchaaW.PrintLast Go.Proofs.YtphaccaanjmchaaW.PrintMore Go.Proofs.Ytphaccaanjmchaa.U Go.Proofs.Ytphaccaanjmchaa.Reg
/-- The program's bytes of a number without a sign. -/
theorem leb_U_l0 (j : Nat) : ∀ (n : Nat) (acc : List Int), n < 128 ^ (j + 1) → acc.length + j < 140737488355328 → Ev (fun k => leb_U.l0 k n acc) (acc ++ uB n) := by
  induction j with
  | zero =>
    intro n acc h ha
    have h1 : n < 128 := by simpa using h
    refine Ev.step (f := fun _ => some (acc ++ [((n : Int)) % 256])) (fun k => ?_) (Ev.some' ?_)
    · simp only [leb_U.l0]; rw [if_neg (by omega), if_pos (by omega)]
    · rw [uB_lo h1, show (n : Int) % 256 = n by omega]
  | succ j ih =>
    intro n acc h ha
    by_cases h1 : n < 128
    · refine Ev.step (f := fun _ => some (acc ++ [((n : Int)) % 256])) (fun k => ?_) (Ev.some' ?_)
      · simp only [leb_U.l0]; rw [if_neg (by omega), if_pos (by omega)]
      · rw [uB_lo h1, show (n : Int) % 256 = n by omega]
    · have e : (n : Int) / 128 = ((n / 128 : Nat) : Int) := by omega
      have := ih (n / 128) (acc ++ [((n % 128 + 128 : Nat) : Int)]) (by rw [Nat.pow_succ] at h; exact Nat.div_lt_of_lt_mul (by omega)) (by simp; omega)
      refine Ev.step (f := fun k => leb_U.l0 k ((n / 128 : Nat) : Int) (acc ++ [((n % 128 + 128 : Nat) : Int)])) (fun k => ?_) (Ev.to this ?_)
      · simp only [leb_U.l0]; rw [if_pos (by omega), if_pos (by omega), or128 _ (by omega) (by omega), e, show (n : Int) % 256 % 128 + 128 = ((n % 128 + 128 : Nat) : Int) by omega]
      · rw [uB_hi h1, List.append_assoc]; rfl
theorem leb_U_ev {n : Nat} (h : n < 18446744073709551616) : Ev (fun k => leb_U.f k n) (uB n) := by
  have := leb_U_l0 9 n [] (by omega) (by simp)
  exact Ev.congr (fun k => rfl) this
/-- The program's bytes of a number with a sign. -/
theorem leb_S_l0 (j : Nat) : ∀ (n : Int) (acc : List Int), -(64 * 128 ^ j : Int) ≤ n → n < 64 * 128 ^ j → acc.length + j < 140737488355328 → Ev (fun k => leb_S.l0 k n acc) (acc ++ sB n) := by
  have lo : ∀ (n : Int) (acc : List Int), (-64 ≤ n ∧ n ≤ 63) → acc.length < 140737488355328 → Ev (fun k => leb_S.l0 k n acc) (acc ++ sB n) := by
    intro n acc h1 ha
    refine Ev.step (f := fun _ => some (acc ++ [n % 128])) (fun k => ?_) (Ev.some' ?_)
    · simp only [leb_S.l0]; rw [if_neg (by omega), if_neg (by omega), if_pos (by omega), and127 _ (by omega) (by omega), show n % 256 % 128 = n % 128 by omega]
    · rw [sB_lo h1]
  induction j with
  | zero => intro n acc h0 h1 ha; exact lo n acc (by simp at h0 h1; omega) (by omega)
  | succ j ih =>
    intro n acc h0 h1 ha
    by_cases h : -64 ≤ n ∧ n ≤ 63
    · exact lo n acc h (by omega)
    · have hp : (64 * 128 ^ (j + 1) : Int) = 128 * (64 * 128 ^ j) := by rw [Int.pow_succ]; omega
      rw [hp] at h0 h1
      have := ih (n / 128) (acc ++ [n % 128 + 128]) (by omega) (by omega) (by simp; omega)
      refine Ev.step (f := fun k => leb_S.l0 k (n / 128) (acc ++ [n % 128 + 128])) (fun k => ?_) (Ev.to this ?_)
      · simp only [leb_S.l0]
        rw [or128 _ (by omega) (by omega), show n % 256 % 128 + 128 = n % 128 + 128 by omega]
        by_cases h2 : n < -64
        · rw [if_pos h2, if_pos (by omega)]
        · rw [if_neg h2, if_pos (by omega), if_pos (by omega)]
      · rw [sB_hi h, List.append_assoc]; rfl
theorem leb_S_ev {n : Int} (h0 : -9223372036854775808 ≤ n) (h1 : n < 9223372036854775808) : Ev (fun k => leb_S.f k n) (sB n) := by
  have := leb_S_l0 9 n [] (by omega) (by omega) (by simp)
  exact Ev.congr (fun k => rfl) this
theorem awake_ev : Ev (fun k => inkwelllaw02_awake.f k) true := Ev.of inkwelllaw02_awake.mono (k := 5) (by decide +kernel)
/-- The document's bytes of a number without a sign. -/
theorem ref02_U_ev (j : Nat) : ∀ n : Nat, n < 128 ^ (j + 1) → n < 18446744073709551616 → j < 1000 → Ev (fun k => inkwellref02_U.f k n) (uB n) := by
  have lo : ∀ n : Nat, n < 128 → Ev (fun k => inkwellref02_U.f k n) (uB n) := by
    intro n h
    refine Ev.step (f := fun _ => some [(n : Int) % 256]) (fun k => by simp only [inkwellref02_U.f]; rw [if_pos (by omega)]) (Ev.some' ?_)
    rw [uB_lo h, show (n : Int) % 256 = n by omega]
  induction j with
  | zero => intro n h _ _; exact lo n (by simpa using h)
  | succ j ih =>
    intro n h hn hj
    by_cases h1 : n < 128
    · exact lo n h1
    · have := ih (n / 128) (by rw [Nat.pow_succ] at h; exact Nat.div_lt_of_lt_mul (by omega)) (by omega) (by omega)
      have hl := uB_len j (n / 128) (by rw [Nat.pow_succ] at h; exact Nat.div_lt_of_lt_mul (by omega))
      refine Ev.step (f := fun k => (inkwellref02_U.f k ((n / 128 : Nat) : Int)).bind fun t128 => (if [((n % 128 + 128 : Nat) : Int)].length + t128.length < 140737488355328 then (some ([((n % 128 + 128 : Nat) : Int)] ++ t128)) else (none))) (fun k => ?_) (Ev.bind this ?_)
      · simp only [inkwellref02_U.f]
        rw [if_neg (by omega), tdivp (by omega), tmodp (by omega), u64w, u64w, show (n : Int) / 128 % 18446744073709551616 = ((n / 128 : Nat) : Int) by omega,
          show (128 + (n : Int) % 128) % 18446744073709551616 % 256 = ((n % 128 + 128 : Nat) : Int) by omega]
        rfl
      · rw [if_pos (by simp only [List.length_cons, List.length_nil]; omega)]
        exact Ev.some' (by rw [uB_hi h1]; rfl)
/-- The document's bytes of a number with a sign. -/
theorem ref02_S_ev (j : Nat) : ∀ n : Int, -(64 * 128 ^ j : Int) ≤ n → n < 64 * 128 ^ j → -9223372036854775808 ≤ n → n < 9223372036854775808 → j < 1000 → Ev (fun k => inkwellref02_S.f k n) (sB n) := by
  have head : ∀ (n : Int) (r : List Int), -9223372036854775808 ≤ n → n < 9223372036854775808 → Ev (fun k => inkwellref02_S.j1 k n (n % 128) (decide (-64 ≤ n ∧ n ≤ 63))) r → Ev (fun k => inkwellref02_S.f k n) r := by
    intro n r h0 h1 h
    have h' : Ev (fun k => inkwellref02_S.j0 k n (n % 128)) r := by
      refine Ev.step (fun k => ?_) h
      simp only [inkwellref02_S.j0]
      by_cases e : n ≥ -64
      · rw [if_pos e, show decide (-64 ≤ n ∧ n ≤ 63) = decide (n ≤ 63) from decide_eq_decide.2 ⟨fun x => x.2, fun x => ⟨e, x⟩⟩]
      · rw [if_neg e, show decide (-64 ≤ n ∧ n ≤ 63) = false from decide_eq_false (by omega)]
    refine Ev.step (fun k => ?_) h'
    simp only [inkwellref02_S.f]
    by_cases e : Int.tmod n 128 < 0
    · have hn : n ≤ 0 := by
        rcases Int.le_total n 0 with h | h
        · exact h
        · rw [tmodp h] at e; omega
      rw [if_pos e]
      rw [tmodn hn] at e ⊢
      rw [w64 (by omega) (by omega), show -(-n % 128) + 128 = n % 128 by omega]
    · rw [if_neg e]
      by_cases hn : n ≤ 0
      · rw [tmodn hn] at e ⊢
        rw [show -(-n % 128) = n % 128 by omega]
      · rw [tmodp (by omega)]
  have lo : ∀ n : Int, (-64 ≤ n ∧ n ≤ 63) → Ev (fun k => inkwellref02_S.f k n) (sB n) := by
    intro n h
    refine head n _ (by omega) (by omega) ?_
    rw [decide_eq_true h]
    refine Ev.step (f := fun _ => some [n % 128 % 256]) (fun k => by simp only [inkwellref02_S.j1]; rfl) (Ev.some' ?_)
    rw [sB_lo h, show n % 128 % 256 = n % 128 by omega]
  induction j with
  | zero => intro n h0 h1 _ _ _; exact lo n (by simp at h0 h1; omega)
  | succ j ih =>
    intro n h0 h1 g0 g1 hj
    by_cases h : -64 ≤ n ∧ n ≤ 63
    · exact lo n h
    · have hp : (64 * 128 ^ (j + 1) : Int) = 128 * (64 * 128 ^ j) := by rw [Int.pow_succ]; omega
      rw [hp] at h0 h1
      have := ih (n / 128) (by omega) (by omega) (by omega) (by omega) (by omega)
      have hl := sB_len j (n / 128) (by omega) (by omega)
      refine head n _ g0 g1 ?_
      rw [decide_eq_false h]
      have e1 : wrap64 (128 + n % 128) % 256 = n % 128 + 128 := by rw [w64 (by omega) (by omega)]; omega
      refine Ev.step (f := fun k => (inkwellref02_S.f k (n / 128)).bind fun t128 => (if [n % 128 + 128].length + t128.length < 140737488355328 then (some ([n % 128 + 128] ++ t128)) else (none))) (fun k => ?_) (Ev.bind this ?_)
      · simp only [inkwellref02_S.j1]
        rw [if_neg (by simp), e1]
        by_cases hn : n < 0
        · rw [if_pos hn, tmodn (by omega), tdivn (by omega)]
          by_cases hm : -(-n % 128) = 0
          · rw [if_pos hm, w64 (by omega) (by omega), show -(-n / 128) = n / 128 by omega]; rfl
          · rw [if_neg hm, w64 (n := -(-n / 128)) (by omega) (by omega), w64 (by omega) (by omega), show -(-n / 128) - 1 = n / 128 by omega]; rfl
        · rw [if_neg hn, tdivp (by omega), w64 (by omega) (by omega)]; rfl
      · rw [if_pos (by simp only [List.length_cons, List.length_nil]; omega)]
        exact Ev.some' (by rw [sB_hi h]; rfl)
/-- The bytes of numbers, one behind the other. -/
theorem leb_All_l0 (l : List Int) (hw : ∀ x ∈ l, 0 ≤ x ∧ x < 18446744073709551616) (hl : l.length < 1000000000) (d : Nat) : ∀ (i : Nat), l.length - i = d → i ≤ l.length →
    Ev (fun k => leb_All.l0 k (uBs (l.take i)) l (l.length : Int) (i : Int)) (uBs l) := by
  induction d with
  | zero =>
    intro i hd hi
    refine Ev.step (f := fun _ => some (uBs (l.take i))) (fun k => by simp only [leb_All.l0]; rw [if_neg (by omega)]) (Ev.some' ?_)
    rw [List.take_of_length_le (by omega)]
  | succ d ih =>
    intro i hd hi
    have hi' : i < l.length := by omega
    have hx := hw l[i] (List.getElem_mem hi')
    obtain ⟨n, hn⟩ := Int.eq_ofNat_of_zero_le hx.1
    have := ih (i + 1) (by omega) (by omega)
    rw [take_snoc l i hi', uBs_append, hn] at this
    have h1 := uBs_len (l.take i) (fun x hx => hw x (List.mem_of_mem_take hx))
    have h2 := uB_len10 (n := n) (by omega)
    have h3 : (l.take i).length ≤ l.length := List.length_take_le' _ _
    refine Ev.step (f := fun k => (leb_U.f k (n : Int)).bind fun t165 => (if (uBs (l.take i)).length + t165.length < 140737488355328 then (leb_All.l0 k (uBs (l.take i) ++ t165) l (l.length : Int) ((i + 1 : Nat) : Int)) else (none))) (fun k => ?_) (Ev.bind (leb_U_ev (by omega)) (Ev.pos (by omega) ?_))
    · simp only [leb_All.l0]
      rw [if_pos (by omega), if_pos (by omega), if_pos (by omega), rd_nat l i hi', hn, w64 (by omega) (by omega)]
      rfl
    · rw [uBs_one] at this
      exact this
theorem leb_All_ev (l : List Int) (hw : ∀ x ∈ l, 0 ≤ x ∧ x < 18446744073709551616) (hl : l.length < 1000000000) : Ev (fun k => leb_All.f k l) (uBs l) :=
  Ev.congr (fun _ => rfl) (leb_All_l0 l hw hl _ 0 rfl (Nat.zero_le _))
theorem awake_any (w : World) : Calls Try.prog 13 #[] w (Ret (Is (.bool true)) w) := by
  obtain ⟨k, h⟩ := awake_ev.rounds
  exact (inkwelllaw02_awake.calls k true w h).mono fun _ _ ⟨he, hb⟩ => ⟨_, he, rfl, hb⟩
theorem leb_U_any (n : Nat) (hn : n < 18446744073709551616) (w : World) : Calls Try.prog 14 #[.int .u64 n] w (Ret (Sl (uB n)) w) := by
  obtain ⟨k, h⟩ := (leb_U_ev hn).rounds
  exact (leb_U.calls k n _ w h).mono fun _ _ => ret_sl
theorem leb_S_any (n : Int) (h : -9223372036854775808 ≤ n ∧ n < 9223372036854775808) (w : World) : Calls Try.prog 15 #[.int .i64 n] w (Ret (Sl (sB n)) w) := by
  obtain ⟨k, h⟩ := (leb_S_ev h.1 h.2).rounds
  exact (leb_S.calls k n _ w h).mono fun _ _ => ret_sl
theorem ref_U_any (n : Nat) (hn : n < 18446744073709551616) (w : World) : Calls Try.prog 21 #[.int .u64 n] w (Ret (Sl (uB n)) w) := by
  obtain ⟨k, h⟩ := (ref02_U_ev 9 n (by omega) hn (by omega)).rounds
  exact (inkwellref02_U.calls k n _ w h).mono fun _ _ => ret_sl
theorem ref_S_any (n : Int) (h : -9223372036854775808 ≤ n ∧ n < 9223372036854775808) (w : World) : Calls Try.prog 22 #[.int .i64 n] w (Ret (Sl (sB n)) w) := by
  obtain ⟨k, h⟩ := (ref02_S_ev 9 n (by omega) (by omega) h.1 h.2 (by omega)).rounds
  exact (inkwellref02_S.calls k n _ w h).mono fun _ _ => ret_sl
theorem leb_All_any (A : Option Addr) (c : Nat) (l : List Int) (w : World) (hC : Kd.C (Kd.int .u64) w A l.length l) (hc : l.length ≤ c) (hw : ∀ x ∈ l, 0 ≤ x ∧ x < 18446744073709551616) (hl : l.length < 1000000000) :
    Calls Try.prog 23 #[.slice A l.length c] w (Ret (Sl (uBs l)) w) := by
  obtain ⟨k, h⟩ := (leb_All_ev l hw hl).rounds
  exact (leb_All.calls k A c l _ w hC hc h).mono fun _ _ => ret_sl
end Go.Proofs.Ytphaccaanjmchaa.Own
