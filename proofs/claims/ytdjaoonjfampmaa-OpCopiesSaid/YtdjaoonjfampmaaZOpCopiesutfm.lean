/- Characters at the beginning of a list of bytes, and as far as a list is made of them; no program in it. -/
import Derived.Test.YtdjaoonjfampmaaZOpCopieslebn
namespace Go.Proofs.Ytdjaoonjfampmaa.Utf
open Go.RowKit Go.Proofs.Ytdjaoonjfampmaa.Sl
open Go.Proofs.Ytdjaoonjfampmaa.Leb (rd)
set_option linter.unusedVariables false
set_option linter.unusedSimpArgs false
theorem Bs.cons {x : Int} {l : List Int} (h0 : 0 ≤ x) (h1 : x < 256) (h : Bs l) : Bs (x :: l) := Leb.Bs.cons h0 h1 h
/-- How many bytes a character has that begins with this one. -/
def sz (b : Int) : Nat := if b < 128 then 1 else if 194 ≤ b ∧ b < 224 then 2 else if 224 ≤ b ∧ b < 240 then 3 else if 240 ≤ b ∧ b < 245 then 4 else 0
/-- The least and the greatest second byte. -/
def sec (b : Int) : Int × Int := if b = 224 then (160, 191) else if b = 237 then (128, 159) else if b = 240 then (144, 191) else if b = 244 then (128, 143) else (128, 191)
/-- May byte number i stand behind a first byte? -/
def okAt (l : List Int) (i : Nat) : Prop := if i = 1 then (sec (rd l 0)).1 ≤ rd l 1 ∧ rd l 1 ≤ (sec (rd l 0)).2 else 128 ≤ rd l i ∧ rd l i ≤ 191
instance (l : List Int) (i : Nat) : Decidable (okAt l i) := by unfold okAt; infer_instance
/-- How many bytes the character has that a list begins with; 0: none. -/
def nx (l : List Int) : Nat :=
  if l = [] then 0 else if sz (rd l 0) = 0 ∨ l.length < sz (rd l 0) then 0
  else if 1 < sz (rd l 0) ∧ ¬ okAt l 1 then 0 else if 2 < sz (rd l 0) ∧ ¬ okAt l 2 then 0 else if 3 < sz (rd l 0) ∧ ¬ okAt l 3 then 0 else sz (rd l 0)
theorem sz_le (b : Int) : sz b ≤ 4 := by unfold sz; split; omega; split; omega; split; omega; split <;> omega
/-- It begins with a character of n bytes. -/
def Begins (l : List Int) (n : Nat) : Prop := l ≠ [] ∧ 0 < n ∧ sz (rd l 0) = n ∧ n ≤ l.length ∧ (1 < n → okAt l 1) ∧ (2 < n → okAt l 2) ∧ (3 < n → okAt l 3)
theorem nx_begins {l : List Int} {n : Nat} (hn : 0 < n) : nx l = n ↔ Begins l n := by
  unfold nx Begins
  constructor
  · intro h
    split at h
    · omega
    · rename_i h0
      split at h
      · omega
      · rename_i h1
        split at h
        · omega
        · rename_i h2
          split at h
          · omega
          · rename_i h3
            split at h
            · omega
            · rename_i h4
              subst h
              refine ⟨h0, hn, rfl, by omega, fun h => ?_, fun h => ?_, fun h => ?_⟩
              · exact Classical.not_not.1 fun h' => h2 ⟨h, h'⟩
              · exact Classical.not_not.1 fun h' => h3 ⟨h, h'⟩
              · exact Classical.not_not.1 fun h' => h4 ⟨h, h'⟩
  · rintro ⟨h0, _, rfl, hl, a, b, c⟩
    rw [if_neg h0, if_neg (by omega), if_neg (fun h => h.2 (a h.1)), if_neg (fun h => h.2 (b h.1)), if_neg (fun h => h.2 (c h.1))]
theorem nx_le (l : List Int) : nx l ≤ l.length := by
  rcases Nat.eq_zero_or_pos (nx l) with h | h
  · omega
  · exact ((nx_begins h).1 rfl).2.2.2.1
theorem okAt_congr {l l' : List Int} {i : Nat} (h0 : rd l 0 = rd l' 0) (h : rd l (i : Int) = rd l' i) : okAt l i ↔ okAt l' i := by
  unfold okAt
  split
  · rename_i e; subst e
    rw [h0, show rd l 1 = rd l' 1 from h]
  · rw [h]
theorem Begins.congr {l l' : List Int} {n : Nat} (h : Begins l n) (hl : n ≤ l'.length) (he : ∀ i : Nat, i < n → rd l' i = rd l i) : Begins l' n := by
  obtain ⟨h0, hn, hs, hln, a, b, c⟩ := h
  have e0 : rd l' 0 = rd l 0 := he 0 hn
  refine ⟨fun e => ?_, hn, by rw [e0]; exact hs, hl, fun h => ?_, fun h => ?_, fun h => ?_⟩
  · subst e; simp at hl; omega
  · exact (okAt_congr e0 (he 1 h)).2 (a h)
  · exact (okAt_congr e0 (he 2 h)).2 (b h)
  · exact (okAt_congr e0 (he 3 h)).2 (c h)
/-- Where a list stops being made of characters. -/
def wh (l : List Int) : Nat := if h : nx l = 0 then 0 else nx l + wh (l.drop (nx l))
termination_by l.length
decreasing_by rw [List.length_drop]; have := nx_le l; omega
theorem wh_stop {l : List Int} (h : nx l = 0) : wh l = 0 := by rw [wh, dif_pos h]
theorem wh_go {l : List Int} (h : 0 < nx l) : wh l = nx l + wh (l.drop (nx l)) := by rw [wh, dif_neg (by omega)]
theorem wh_nil : wh [] = 0 := wh_stop rfl


/-- The document's bytes of a number that is a character. -/
def pt (k : Int) : List Int :=
  if k < 128 then [k] else if k < 2048 then [192 + k / 64, 128 + k % 64] else if k < 65536 then [224 + k / 4096, 128 + k / 64 % 64, 128 + k % 64] else [240 + k / 262144, 128 + k / 4096 % 64, 128 + k / 64 % 64, 128 + k % 64]
/-- The document's bytes of any number; none, if it is no character's. -/
def pv (n : Int) : List Int := if 0 ≤ n ∧ n ≤ 1114111 ∧ ¬ (55296 ≤ n ∧ n ≤ 57343) then pt n else []
/-- The number that the first i bytes would tell. -/
def num (l : List Int) (i : Nat) : Int :=
  if i = 1 then rd l 0 else if i = 2 then (rd l 0 - 192) * 64 + rd l 1 - 128
  else if i = 3 then ((rd l 0 - 224) * 64 + rd l 1 - 128) * 64 + rd l 2 - 128
  else (((rd l 0 - 240) * 64 + rd l 1 - 128) * 64 + rd l 2 - 128) * 64 + rd l 3 - 128
/-- The number so far: of i bytes' first, and the next ones. -/
def acc (l : List Int) (i j : Nat) : Int := match j with
  | 0 => 0
  | 1 => if i = 2 then rd l 0 - 192 else if i = 3 then rd l 0 - 224 else if i = 4 then rd l 0 - 240 else rd l 0
  | j + 1 => acc l i j * 64 + rd l j - 128
/-- UTF-8 all through. -/
def good (s : ByteArray) : Bool := decide (wh (ss s) = s.size)
theorem good_iff (s : ByteArray) : good s = true ↔ wh (ss s) = s.size := by unfold good; exact decide_eq_true_iff
theorem rd_0 (l : List Int) : rd l 0 = l.getD 0 0 := rfl
theorem nx_bad {l : List Int} {i : Nat} (h1 : 1 ≤ i) (h : i < sz (l.getD 0 0)) (ho : ¬ okAt l i) : nx l = 0 := by
  have hz := sz_le (l.getD 0 0)
  rw [← rd_0] at h hz
  have hi : i = 1 ∨ i = 2 ∨ i = 3 := by omega
  unfold nx
  repeat' split
  all_goals first
    | rfl
    | (exfalso; rcases hi with rfl | rfl | rfl <;> simp_all)
theorem nx_good {l : List Int} (h0 : l ≠ []) (hz : sz (l.getD 0 0) ≠ 0) (hl : sz (l.getD 0 0) ≤ l.length) (h : ∀ i, 1 ≤ i → i < sz (l.getD 0 0) → okAt l i) : nx l = sz (l.getD 0 0) := by
  rw [← rd_0] at *
  exact (nx_begins (by omega)).2 ⟨h0, by omega, rfl, hl, fun h1 => h 1 (by decide) h1, fun h1 => h 2 (by decide) h1, fun h1 => h 3 (by decide) h1⟩
theorem nx_none {l : List Int} (h : l = [] ∨ sz (l.getD 0 0) = 0 ∨ l.length < sz (l.getD 0 0)) : nx l = 0 := by
  unfold nx
  rw [rd_0]
  split
  · rfl
  · rcases h with h | h
    · contradiction
    · rw [if_pos h]
theorem ok_1 {l : List Int} : okAt l 1 ↔ (sec (l.getD 0 0)).1 ≤ l.getD 1 0 ∧ l.getD 1 0 ≤ (sec (l.getD 0 0)).2 := Iff.rfl
theorem ok_n {l : List Int} {i : Nat} (h : i ≠ 1) : okAt l i ↔ 128 ≤ l.getD i 0 ∧ l.getD i 0 ≤ 191 := by unfold okAt; rw [if_neg h]; exact Iff.rfl
end Go.Proofs.Ytdjaoonjfampmaa.Utf
