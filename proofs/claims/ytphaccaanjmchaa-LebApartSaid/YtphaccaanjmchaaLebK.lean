/- Contracts of the program's number functions in the words of lists: each answers the bytes of its number, in new memory. -/
import Derived.Test.YtphaccaanjmchaaPLebPutsx1
import Derived.Test.YtphaccaanjmchaaU
import Derived.Test.Ytphaccaanjmchaalebmath
namespace Go.Proofs.Ytphaccaanjmchaa.Own
open Go.RowKit Go.Proofs.Ytphaccaanjmchaa.PLebPuts Go.Proofs.YtphaccaanjmchaaW.PrintWords Go.Proofs.YtphaccaanjmchaaW.PrintLast Go.Proofs.YtphaccaanjmchaaW.PrintMore Go.Proofs.Ytphaccaanjmchaa.U
/-- The program's bytes of a number without a sign. -/
theorem leb_U_l0 (j : Nat) : ∀ (n : Nat) (acc : List Int), n < 128 ^ (j + 1) → acc.length + j < 140737488355328 → Ev (fun k => leb_U.l0 k n acc) (acc ++ uB n) := by
  induction j with
  | zero =>
    intro n acc h ha
    have h1 : n < 128 := by simpa using h
    refine Ev.step (f := fun _ => some (acc ++ [((n : Int)) % 256])) (fun k => ?_) (Ev.some' ?_)
    · simp only [leb_U.l0]; rw [if_neg (by omega), if_pos (by omega)]
    · rw [uB_lo h1, show (n : Int) % 256 = n by omega]
  | succ j ih =>
    intro n acc h ha
    by_cases h1 : n < 128
    · refine Ev.step (f := fun _ => some (acc ++ [((n : Int)) % 256])) (fun k => ?_) (Ev.some' ?_)
      · simp only [leb_U.l0]; rw [if_neg (by omega), if_pos (by omega)]
      · rw [uB_lo h1, show (n : Int) % 256 = n by omega]
    · have e : (n : Int) / 128 = ((n / 128 : Nat) : Int) := by omega
      have := ih (n / 128) (acc ++ [((n % 128 + 128 : Nat) : Int)]) (by rw [Nat.pow_succ] at h; exact Nat.div_lt_of_lt_mul (by omega)) (by simp; omega)
      refine Ev.step (f := fun k => leb_U.l0 k ((n / 128 : Nat) : Int) (acc ++ [((n % 128 + 128 : Nat) : Int)])) (fun k => ?_) (Ev.to this ?_)
      · simp only [leb_U.l0]; rw [if_pos (by omega), if_pos (by omega), or128 _ (by omega) (by omega), e, show (n : Int) % 256 % 128 + 128 = ((n % 128 + 128 : Nat) : Int) by omega]
      · rw [uB_hi h1, List.append_assoc]; rfl
theorem leb_U_ev {n : Nat} (h : n < 18446744073709551616) : Ev (fun k => leb_U.f k n) (uB n) := by
  have := leb_U_l0 9 n [] (by omega) (by simp)
  exact Ev.congr (fun k => rfl) this
/-- The program's bytes of a number with a sign. -/
theorem leb_S_l0 (j : Nat) : ∀ (n : Int) (acc : List Int), -(64 * 128 ^ j : Int) ≤ n → n < 64 * 128 ^ j → acc.length + j < 140737488355328 → Ev (fun k => leb_S.l0 k n acc) (acc ++ sB n) := by
  have lo : ∀ (n : Int) (acc : List Int), (-64 ≤ n ∧ n ≤ 63) → acc.length < 140737488355328 → Ev (fun k => leb_S.l0 k n acc) (acc ++ sB n) := by
    intro n acc h1 ha
    refine Ev.step (f := fun _ => some (acc ++ [n % 128])) (fun k => ?_) (Ev.some' ?_)
    · simp only [leb_S.l0]; rw [if_neg (by omega), if_neg (by omega), if_pos (by omega), and127 _ (by omega) (by omega), show n % 256 % 128 = n % 128 by omega]
    · rw [sB_lo h1]
  induction j with
  | zero => intro n acc h0 h1 ha; exact lo n acc (by simp at h0 h1; omega) (by omega)
  | succ j ih =>
    intro n acc h0 h1 ha
    by_cases h : -64 ≤ n ∧ n ≤ 63
    · exact lo n acc h (by omega)
    · have hp : (64 * 128 ^ (j + 1) : Int) = 128 * (64 * 128 ^ j) := by rw [Int.pow_succ]; omega
      rw [hp] at h0 h1
      have := ih (n / 128) (acc ++ [n % 128 + 128]) (by omega) (by omega) (by simp; omega)
      refine Ev.step (f := fun k => leb_S.l0 k (n / 128) (acc ++ [n % 128 + 128])) (fun k => ?_) (Ev.to this ?_)
      · simp only [leb_S.l0]
        rw [or128 _ (by omega) (by omega), show n % 256 % 128 + 128 = n % 128 + 128 by omega]
        by_cases h2 : n < -64
        · rw [if_pos h2, if_pos (by omega)]
        · rw [if_neg h2, if_pos (by omega), if_pos (by omega)]
      · rw [sB_hi h, List.append_assoc]; rfl
theorem leb_S_ev {n : Int} (h0 : -9223372036854775808 ≤ n) (h1 : n < 9223372036854775808) : Ev (fun k => leb_S.f k n) (sB n) := by
  have := leb_S_l0 9 n [] (by omega) (by omega) (by simp)
  exact Ev.congr (fun k => rfl) this
theorem awake_ev : Ev (fun k => inkwelllaw02_awake.f k) true := Ev.of inkwelllaw02_awake.mono (k := 5) (by decide +kernel)
/-- A slice of bytes in new memory, read. -/
def GotB (l : List Int) (w : World) (e : Ending) (w' : World) : Prop := ∃ A c, e = .returned (.slice A l.length c) ∧ l.length ≤ c ∧ Kd.C (Kd.int .u8) w' A l.length l ∧ Below w.heap.size w w'
theorem awake_any (w : World) : Calls Try.prog 13 #[] w fun e w' => e = .returned (.bool true) ∧ Below w.heap.size w w' := by
  obtain ⟨k, h⟩ := awake_ev.rounds
  exact inkwelllaw02_awake.calls k true w h
theorem leb_U_any (n : Nat) (hn : n < 18446744073709551616) (w : World) : Calls Try.prog 14 #[.int .u64 n] w (GotB (uB n) w) := by
  obtain ⟨k, h⟩ := (leb_U_ev hn).rounds
  refine (leb_U.calls k n _ w h).mono ?_
  rintro e w' ⟨v, rfl, ho, hb⟩
  obtain ⟨A, c, rfl, hc, hC⟩ := Kd.R_reads ho
  exact ⟨A, c, rfl, hc, hC, hb⟩
theorem leb_S_any (n : Int) (h0 : -9223372036854775808 ≤ n) (h1 : n < 9223372036854775808) (w : World) : Calls Try.prog 15 #[.int .i64 n] w (GotB (sB n) w) := by
  obtain ⟨k, h⟩ := (leb_S_ev h0 h1).rounds
  refine (leb_S.calls k n _ w h).mono ?_
  rintro e w' ⟨v, rfl, ho, hb⟩
  obtain ⟨A, c, rfl, hc, hC⟩ := Kd.R_reads ho
  exact ⟨A, c, rfl, hc, hC, hb⟩
end Go.Proofs.Ytphaccaanjmchaa.Own
