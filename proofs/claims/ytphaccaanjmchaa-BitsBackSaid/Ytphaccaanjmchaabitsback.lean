/- What is put is read as it was: the mathematics. -/
import Derived.Test.Ytphaccaanjmchaabitsmath
namespace Go.Proofs.Ytphaccaanjmchaa.Bit
open Go.RowKit Go.Proofs.Ytphaccaanjmchaa.Sl
set_option linter.unusedVariables false
set_option linter.unusedSimpArgs false
def nbI (a : Ac) : Int := (a.n.tmod 65 + 64) % 65
theorem nbI_bd (a : Ac) : 0 ≤ nbI a ∧ nbI a ≤ 64 := by unfold nbI; omega
theorem tmod65 (x : Int) : -64 ≤ x.tmod 65 ∧ x.tmod 65 ≤ 64 := by
  have h1 := Int.tmod_lt_of_pos x (b := 65) (by omega)
  have h2 := Int.lt_tmod_of_pos x (b := 65) (by omega)
  omega
theorem cl_nb (a : Ac) : cl (nbI a) = (nbI a).toNat := by have := nbI_bd a; unfold cl; omega
def bk (L : List Int) (a : Ac) : List Int := if a.d % 4 = 3 then full (L ++ puts (cl (nbI a)) [a.x]) ++ ofb a.b else L ++ puts (cl (nbI a)) [a.x]
def bks (l : List Ac) : List Int := l.foldl bk []
theorem bks_step {l : List Ac} {i : Nat} (h : i < l.length) : bks (l.take (i + 1)) = bk (bks (l.take i)) (l.getD i Ac.z) := by rw [take_snoc Ac.z h]; simp [bks]
theorem bk_bits {L : List Int} (h : Bits L) (a : Ac) : Bits (bk L a) := by
  unfold bk; split
  · exact (bits_full (h.append (bits_puts _ _))).append (bits_ofb _)
  · exact h.append (bits_puts _ _)
theorem bks_bits (l : List Ac) : Bits (bks l) := by
  have : ∀ (l : List Ac) (L : List Int), Bits L → Bits (l.foldl bk L) := by
    intro l
    induction l with
    | nil => exact fun _ h => h
    | cons a l ih => exact fun L h => ih _ (bk_bits h a)
  exact this l [] Bits.nil
theorem bk_len (L : List Int) (a : Ac) (h : a.b.length ≤ 100) : (bk L a).length ≤ L.length + 1000 := by
  have := cl_le (nbI a)
  unfold bk; split
  · rw [List.length_append, full_len, List.length_append, puts_len, ofb_len]; simp; omega
  · rw [List.length_append, puts_len]; simp; omega
theorem bk_pre (L : List Int) (a : Ac) : ∃ R, bk L a = L ++ R := by
  unfold bk; split
  · unfold full; exact ⟨puts (cl (nbI a)) [a.x] ++ (List.replicate ((8 - (L ++ puts (cl (nbI a)) [a.x]).length % 8) % 8) 0 ++ ofb a.b), by simp only [List.append_assoc]⟩
  · exact ⟨_, rfl⟩
theorem bks_pre (l : List Ac) (j : Nat) : ∃ R, bks l = bks (l.take j) ++ R := by
  have : ∀ (m : List Ac) (L : List Int), ∃ R, m.foldl bk L = L ++ R := by
    intro m
    induction m with
    | nil => exact fun L => ⟨[], by simp⟩
    | cons a m ih =>
      intro L
      obtain ⟨R, hR⟩ := bk_pre L a
      obtain ⟨S, hS⟩ := ih (bk L a)
      exact ⟨R ++ S, by rw [List.foldl_cons, hS, hR, List.append_assoc]⟩
  obtain ⟨R, hR⟩ := this (l.drop j) (bks (l.take j))
  refine ⟨R, ?_⟩
  rw [← hR]
  unfold bks
  rw [← List.foldl_append, List.take_append_drop]
theorem byts_app {L R : List Int} (h : L.length % 8 = 0) : byts (L ++ R) = byts L ++ byts R := by
  apply List.ext_getElem?
  intro i
  have hL : (L ++ R).length = L.length + R.length := List.length_append
  by_cases h1 : i < L.length / 8
  · rw [byts_get (by rw [hL]; omega), List.getElem?_append_left (by rw [byts_len]; omega), byts_get (by omega), List.drop_append_of_le_length (by omega), List.take_append_of_le_length (by rw [List.length_drop]; omega)]
  · rw [List.getElem?_append_right (by rw [byts_len]; omega), byts_len]
    by_cases h2 : i < L.length / 8 + (R.length + 7) / 8
    · rw [byts_get (by rw [hL]; omega), byts_get (by omega)]
      rw [show 8 * i = L.length + 8 * (i - (L.length + 7) / 8) by omega, ← List.drop_drop, List.drop_left]
    · rw [List.getElem?_eq_none (by rw [byts_len, hL]; omega), List.getElem?_eq_none (by rw [byts_len]; omega)]
theorem ofb_byts : ∀ (n : Nat) {L : List Int}, L.length ≤ n → Bits L → ofb (byts L) = full L := by
  intro n
  induction n with
  | zero => intro L hn h; obtain rfl : L = [] := List.eq_nil_of_length_eq_zero (by omega); rfl
  | succ n ih =>
    intro L hn h
    cases L with
    | nil => rfl
    | cons x L' =>
      generalize hL : x :: L' = L at *
      have hpos : 0 < L.length := by rw [← hL]; simp
      rcases Nat.lt_or_ge L.length 8 with h8 | h8
      · have hb : byts L = [num L] := by
          apply List.ext_getElem?
          intro i
          cases i with
          | zero => rw [byts_get (by omega)]; simp; rw [List.take_of_length_le (by omega)]
          | succ i => rw [List.getElem?_eq_none (by rw [byts_len]; omega)]; rfl
        rw [hb]
        show lowb 8 (num L) ++ [] = _
        rw [List.append_nil, ← num_zeros L (8 - L.length)]
        have hz : Bits (L ++ List.replicate (8 - L.length) 0) := h.append fun b hb => .inl (List.eq_of_mem_replicate hb)
        have := lowb_num hz
        have hl8 : (L ++ List.replicate (8 - L.length) (0 : Int)).length = 8 := by simp; omega
        rw [hl8] at this
        rw [this]; unfold full
        rw [show (8 - L.length % 8) % 8 = 8 - L.length by omega]
      · have hsp : L = L.take 8 ++ L.drop 8 := (List.take_append_drop 8 L).symm
        have h8l : (L.take 8).length = 8 := by rw [List.length_take]; omega
        have hb8 : byts (L.take 8) = [num (L.take 8)] := by
          apply List.ext_getElem?
          intro i
          cases i with
          | zero => rw [byts_get (by omega)]; show some (num (((L.take 8).drop 0).take 8)) = _; rw [List.drop_zero, List.take_of_length_le (by omega)]; rfl
          | succ i => rw [List.getElem?_eq_none (by rw [byts_len]; omega)]; rfl
        have e1 : byts L = [num (L.take 8)] ++ byts (L.drop 8) := by
          conv => lhs; rw [hsp]
          rw [byts_app (by omega), hb8]
        rw [e1]
        show lowb 8 (num (L.take 8)) ++ ofb (byts (L.drop 8)) = _
        have h1 := lowb_num (h.take 8)
        rw [h8l] at h1
        rw [h1, ih (by rw [List.length_drop]; omega) (h.drop 8)]
        unfold full
        rw [← List.append_assoc, List.take_append_drop, List.length_drop]
        rw [show (8 - (L.length - 8) % 8) % 8 = (8 - L.length % 8) % 8 by omega]
/-- The place in the bits behind j acts. -/
def BkAt (l : List Ac) (j a : Nat) : Prop := a = (bks (l.take j)).length
theorem bk_at0 (l : List Ac) : BkAt l 0 0 := rfl
structure BkF (l : List Ac) (j a : Nat) (X : Ac) : Prop where
  ok : okn (byts (bks l)) a (nbI X)
  v : rdv (byts (bks l)) a (nbI X) = num (lowb (nbI X).toNat X.x)
  a1 : X.d % 4 ≠ 3 → BkAt l (j + 1) (rda (byts (bks l)) a (nbI X))
  rok : X.d % 4 = 3 → okr (byts (bks l)) (rda (byts (bks l)) a (nbI X)) (X.b.length : Nat)
  rv : X.d % 4 = 3 → raws (byts (bks l)) (rda (byts (bks l)) a (nbI X)) (X.b.length : Nat) = X.b
  a2 : X.d % 4 = 3 → BkAt l (j + 1) (rdr (byts (bks l)) (rda (byts (bks l)) a (nbI X)) (X.b.length : Nat))
  le : a ≤ 8 * (byts (bks l)).length
theorem bk_facts {l : List Ac} {j a : Nat} (hj : j < l.length) (ha : BkAt l j a) (hbs : Bs (l.getD j Ac.z).b) : BkF l j a (l.getD j Ac.z) := by
  unfold BkAt at ha
  have hbits := bks_bits l
  have hof := ofb_byts (bks l).length (Nat.le_refl _) hbits
  have hbl := byts_len (bks l)
  obtain ⟨R, hR⟩ := bks_pre l (j + 1)
  have hst := bks_step hj
  generalize hX : l.getD j Ac.z = X at *
  generalize hL : bks (l.take j) = L at *
  have hn := nbI_bd X
  have hcl := cl_nb X
  have hp : puts (cl (nbI X)) [X.x] = lowb (nbI X).toNat X.x := by rw [hcl]; simp [puts]
  -- all that is told begins so
  obtain ⟨S, hS⟩ : ∃ S, bks l = L ++ lowb (nbI X).toNat X.x ++ S := by
    rw [hR, hst]; unfold bk
    split
    · unfold full; rw [hp]; exact ⟨_, by simp only [List.append_assoc]; rfl⟩
    · rw [hp]; exact ⟨_, rfl⟩
  have hlen : (bks l).length = L.length + (nbI X).toNat + S.length := by rw [hS, List.length_append, List.length_append, lowb_len]
  have hok : okn (byts (bks l)) a (nbI X) := ⟨hn.1, hn.2, by omega⟩
  have hrda : rda (byts (bks l)) a (nbI X) = L.length + (nbI X).toNat := by rw [rda, if_pos hok, ha]
  refine ⟨hok, ?_, fun hd => ?_, fun hd => ?_, fun hd => ?_, fun hd => ?_, by omega⟩
  · rw [rdv, if_pos hok, hof]
    congr 1
    unfold full
    rw [hS, ha, List.append_assoc, List.append_assoc, List.drop_left, List.take_append_of_le_length (by rw [lowb_len]; exact Nat.le_refl _), List.take_of_length_le (by rw [lowb_len]; exact Nat.le_refl _)]
  · unfold BkAt
    rw [hrda, hst]; unfold bk
    rw [if_neg hd, hp, List.length_append, lowb_len]
  all_goals
    have hb1 : bks l = full (L ++ lowb (nbI X).toNat X.x) ++ ofb X.b ++ R := by rw [hR, hst]; unfold bk; rw [if_pos hd, hp]
    have hfl := full_len (L ++ lowb (nbI X).toNat X.x)
    rw [List.length_append, lowb_len] at hfl
    have hup : up (L.length + (nbI X).toNat) = (full (L ++ lowb (nbI X).toNat X.x)).length := by rw [hfl]; rfl
    have hlen2 : (bks l).length = (full (L ++ lowb (nbI X).toNat X.x)).length + 8 * X.b.length + R.length := by rw [hb1, List.length_append, List.length_append, ofb_len]
    have hokr : okr (byts (bks l)) (L.length + (nbI X).toNat) (X.b.length : Nat) := ⟨by omega, by rw [hup]; omega⟩
  · rw [hrda]; exact hokr
  · rw [hrda, raws, if_pos hokr, hup, hb1, List.append_assoc, byts_app (by omega), byts_app (by rw [ofb_len]; omega)]
    have h1 : (byts (full (L ++ lowb (nbI X).toNat X.x))).length = (full (L ++ lowb (nbI X).toNat X.x)).length / 8 := by rw [byts_len]; omega
    rw [← h1, List.drop_left]
    have h2 : byts (ofb X.b) = X.b := by
      have := byts_raw (l := []) rfl hbs
      simpa [byts] using this
    rw [h2]
    exact List.take_left
  · unfold BkAt
    rw [hrda, rdr, if_pos hokr, hup, hst]; unfold bk
    rw [if_pos hd, hp, List.length_append, ofb_len]; rfl
theorem bk_low {n : Nat} {x : Int} (h : n ≤ 64) : lowb n (num (lowb n x)) = lowb n x := by
  have := lowb_num (bits_lowb n x)
  rwa [lowb_len] at this
theorem bk_top {n : Nat} {x : Int} : num (lowb n x) / 2 ^ n = 0 := by
  have := num_bound (bits_lowb n x)
  rw [lowb_len] at this
  exact Int.ediv_eq_zero_of_lt this.1 this.2
theorem bk_range {n : Nat} {x : Int} (h : n ≤ 64) : 0 ≤ num (lowb n x) ∧ num (lowb n x) < 18446744073709551616 := by
  have h1 := num_bound (bits_lowb n x)
  rw [lowb_len] at h1
  have h2 : (2 : Nat) ^ n ≤ 2 ^ 64 := Nat.pow_le_pow_right (by omega) h
  have h3 : ((2 ^ n : Nat) : Int) = (2 : Int) ^ n := by norm_cast
  omega
/-- At the end. -/
theorem bk_end {l : List Ac} {j a : Nat} (hj : l.length ≤ j) (ha : BkAt l j a) : num (((ofb (byts (bks l))).drop a).take (up a - a)) = 0 ∧ up a = 8 * (byts (bks l)).length ∧ a ≤ 8 * (byts (bks l)).length := by
  unfold BkAt at ha
  rw [List.take_of_length_le hj] at ha
  have hof := ofb_byts (bks l).length (Nat.le_refl _) (bks_bits l)
  have hbl := byts_len (bks l)
  refine ⟨?_, by unfold up; omega, by omega⟩
  rw [hof, ha]
  unfold full
  rw [List.drop_left, List.take_replicate]
  have := num_zeros [] (min (up (bks l).length - (bks l).length) ((8 - (bks l).length % 8) % 8))
  simpa [num] using this
end Go.Proofs.Ytphaccaanjmchaa.Bit
