/- Characters at the beginning of a list of bytes, and as far as a list is made of them; no program in it. -/
import Derived.Test.YtiehijephkagbaaU
namespace Go.Proofs.Ytiehijephkagbaa.U
open Go.RowKit Go.Proofs.YtiehijephkagbaaW.PrintWords
set_option linter.unusedVariables false
set_option linter.unusedSimpArgs false

/-- How many bytes a character has that begins with this one. -/
def sz (b : Int) : Nat := if b < 128 then 1 else if 194 ≤ b ∧ b < 224 then 2 else if 224 ≤ b ∧ b < 240 then 3 else if 240 ≤ b ∧ b < 245 then 4 else 0
/-- The least and the greatest second byte. -/
def sec (b : Int) : Int × Int := if b = 224 then (160, 191) else if b = 237 then (128, 159) else if b = 240 then (144, 191) else if b = 244 then (128, 143) else (128, 191)
/-- May byte number i stand behind a first byte? -/
def okAt (l : List Int) (i : Nat) : Prop := if i = 1 then (sec (rd l 0)).1 ≤ rd l 1 ∧ rd l 1 ≤ (sec (rd l 0)).2 else 128 ≤ rd l i ∧ rd l i ≤ 191
instance (l : List Int) (i : Nat) : Decidable (okAt l i) := by unfold okAt; infer_instance
/-- How many bytes the character has that a list begins with; 0: none. -/
def nx (l : List Int) : Nat :=
  if l = [] then 0 else if sz (rd l 0) = 0 ∨ l.length < sz (rd l 0) then 0
  else if 1 < sz (rd l 0) ∧ ¬ okAt l 1 then 0 else if 2 < sz (rd l 0) ∧ ¬ okAt l 2 then 0 else if 3 < sz (rd l 0) ∧ ¬ okAt l 3 then 0 else sz (rd l 0)
theorem sz_le (b : Int) : sz b ≤ 4 := by unfold sz; split; omega; split; omega; split; omega; split <;> omega
theorem nx_nil : nx [] = 0 := rfl
/-- It begins with a character of n bytes. -/
def Begins (l : List Int) (n : Nat) : Prop := l ≠ [] ∧ 0 < n ∧ sz (rd l 0) = n ∧ n ≤ l.length ∧ (1 < n → okAt l 1) ∧ (2 < n → okAt l 2) ∧ (3 < n → okAt l 3)
theorem nx_begins {l : List Int} {n : Nat} (hn : 0 < n) : nx l = n ↔ Begins l n := by
  unfold nx Begins
  constructor
  · intro h
    split at h
    · omega
    · rename_i h0
      split at h
      · omega
      · rename_i h1
        split at h
        · omega
        · rename_i h2
          split at h
          · omega
          · rename_i h3
            split at h
            · omega
            · rename_i h4
              subst h
              refine ⟨h0, hn, rfl, by omega, fun h => ?_, fun h => ?_, fun h => ?_⟩
              · exact Classical.not_not.1 fun h' => h2 ⟨h, h'⟩
              · exact Classical.not_not.1 fun h' => h3 ⟨h, h'⟩
              · exact Classical.not_not.1 fun h' => h4 ⟨h, h'⟩
  · rintro ⟨h0, _, rfl, hl, a, b, c⟩
    rw [if_neg h0, if_neg (by omega), if_neg (fun h => h.2 (a h.1)), if_neg (fun h => h.2 (b h.1)), if_neg (fun h => h.2 (c h.1))]
theorem nx_le (l : List Int) : nx l ≤ l.length := by
  rcases Nat.eq_zero_or_pos (nx l) with h | h
  · omega
  · exact ((nx_begins h).1 rfl).2.2.2.1
theorem nx_four (l : List Int) : nx l ≤ 4 := by
  rcases Nat.eq_zero_or_pos (nx l) with h | h
  · omega
  · rw [← ((nx_begins h).1 rfl).2.2.1]; exact sz_le _
theorem rd_take {l : List Int} {n i : Nat} (h : i < n) : rd (l.take n) (i : Int) = rd l i := by
  simp [rd, List.getD_eq_getElem?_getD, List.getElem?_take, h]
theorem rd_append {a b : List Int} {i : Nat} (h : i < a.length) : rd (a ++ b) (i : Int) = rd a i := by
  simp [rd, List.getD_eq_getElem?_getD, List.getElem?_append, h]
theorem okAt_congr {l l' : List Int} {i : Nat} (h0 : rd l 0 = rd l' 0) (h : rd l (i : Int) = rd l' i) : okAt l i ↔ okAt l' i := by
  unfold okAt
  split
  · rename_i e; subst e
    rw [h0, show rd l 1 = rd l' 1 from h]
  · rw [h]
theorem Begins.congr {l l' : List Int} {n : Nat} (h : Begins l n) (hl : n ≤ l'.length) (he : ∀ i : Nat, i < n → rd l' i = rd l i) : Begins l' n := by
  obtain ⟨h0, hn, hs, hln, a, b, c⟩ := h
  have e0 : rd l' 0 = rd l 0 := he 0 hn
  refine ⟨fun e => ?_, hn, by rw [e0]; exact hs, hl, fun h => ?_, fun h => ?_, fun h => ?_⟩
  · subst e; simp at hl; omega
  · exact (okAt_congr e0 (he 1 h)).2 (a h)
  · exact (okAt_congr e0 (he 2 h)).2 (b h)
  · exact (okAt_congr e0 (he 3 h)).2 (c h)
theorem nx_append {l r : List Int} (h : 0 < nx l) : nx (l ++ r) = nx l := by
  have hb := (nx_begins h).1 rfl
  refine (nx_begins h).2 (hb.congr (by have := nx_le l; simp; omega) fun i hi => rd_append (by have := nx_le l; omega))
theorem nx_take {l : List Int} (h : 0 < nx l) : nx (l.take (nx l)) = nx l := by
  have hb := (nx_begins h).1 rfl
  have := nx_le l
  exact (nx_begins h).2 (hb.congr (by rw [List.length_take]; omega) fun i hi => rd_take hi)
/-- Where a list stops being made of characters. -/
def wh (l : List Int) : Nat := if h : nx l = 0 then 0 else nx l + wh (l.drop (nx l))
termination_by l.length
decreasing_by rw [List.length_drop]; have := nx_le l; omega
theorem wh_stop {l : List Int} (h : nx l = 0) : wh l = 0 := by rw [wh, dif_pos h]
theorem wh_go {l : List Int} (h : 0 < nx l) : wh l = nx l + wh (l.drop (nx l)) := by rw [wh, dif_neg (by omega)]
theorem wh_nil : wh [] = 0 := wh_stop rfl
theorem wh_le (l : List Int) : wh l ≤ l.length := by
  induction l using wh.induct with
  | case1 l h => rw [wh_stop h]; omega
  | case2 l h ih =>
    rw [wh_go (by omega)]
    rw [List.length_drop] at ih
    have := nx_le l
    omega
/-- What is made of characters goes on as what follows does. -/
theorem wh_join (l : List Int) : ∀ r, wh (l.take (wh l) ++ r) = wh l + wh r := by
  induction l using wh.induct with
  | case1 l h => intro r; rw [wh_stop h]; simp
  | case2 l h ih =>
    intro r
    have hp : 0 < nx l := by omega
    have hl := nx_le l
    have ht : l.take (wh l) ++ r = l.take (nx l) ++ ((l.drop (nx l)).take (wh (l.drop (nx l))) ++ r) := by
      rw [wh_go hp, List.take_add, List.append_assoc]
    have h1 : nx (l.take (wh l) ++ r) = nx l := by
      rw [ht, nx_append (by rw [nx_take hp]; exact hp), nx_take hp]
    rw [wh_go (by rw [h1]; exact hp), h1, ht, List.drop_append, List.drop_of_length_le (by rw [List.length_take]; omega), List.nil_append,
      show nx l - (l.take (nx l)).length = 0 by rw [List.length_take]; omega, List.drop_zero, ih, wh_go hp]
    omega
theorem wh_take (l : List Int) : wh (l.take (wh l)) = wh l := by
  have := wh_join l []
  rw [List.append_nil, wh_nil] at this
  exact this
theorem wh_pos (l : List Int) : 0 < wh l ↔ 0 < nx l := by
  rcases Nat.eq_zero_or_pos (nx l) with h | h
  · rw [wh_stop h]; omega
  · rw [wh_go h]; omega

/-- What lacks its last byte is no character. -/
theorem nx_short {l : List Int} (h : 1 < nx l) : nx (l.take (nx l - 1)) = 0 := by
  have hb := (nx_begins (by omega : 0 < nx l)).1 rfl
  have hl := nx_le l
  obtain ⟨m, hm⟩ : ∃ m, nx l = m := ⟨_, rfl⟩
  rw [hm] at hb hl h ⊢
  have e : rd (l.take (m - 1)) 0 = rd l 0 := rd_take (i := 0) (by omega)
  unfold nx
  split
  · rfl
  · rw [if_pos]
    rw [e, hb.2.2.1, List.length_take]
    right; omega
/-- The first byte begins no character, or the second may not follow. -/
theorem nx_bad0 {l : List Int} (h : sz (rd l 0) = 0) : nx l = 0 := by
  unfold nx; split; rfl; rw [if_pos (.inl h)]
theorem nx_bad1 {l : List Int} (h : 1 < sz (rd l 0)) (h1 : ¬ okAt l 1) : nx l = 0 := by
  unfold nx; split; rfl; split; rfl; rw [if_pos ⟨h, h1⟩]

/-! Strings and their bytes -/
theorem bytesOf_append (s t : ByteArray) : bytesOf (s ++ t) = bytesOf s ++ bytesOf t := by
  simp [bytesOf, ByteArray.data_append]
theorem bytesOf_drop (s : ByteArray) (n : Nat) : bytesOf (s.extract n s.size) = (bytesOf s).drop n := by
  unfold bytesOf
  rw [← List.map_drop]
  congr 1
  simp [ByteArray.data_extract]
  rw [List.take_of_length_le]
  rw [List.length_drop, data_length]
  exact Nat.le_refl _
theorem bytesOf_take (s : ByteArray) (n : Nat) : bytesOf (s.extract 0 n) = (bytesOf s).take n := by
  unfold bytesOf
  rw [← List.map_take]
  congr 1
  simp [ByteArray.data_extract]
theorem bytesOf_bytes (s : ByteArray) : Bs (bytesOf s) := by
  intro x hx
  obtain ⟨b, _, rfl⟩ := List.mem_map.1 hx
  have := b.toNat_lt
  omega
theorem bytesOf_str {l : List Int} (h : Bs l) : bytesOf (strOfNums l) = l := by
  unfold bytesOf strOfNums
  simp only [List.map_map]
  conv => rhs; rw [← List.map_id l]
  apply List.map_congr_left
  intro x hx
  have := h x hx
  simp only [Function.comp, UInt8.toNat_ofNat', id]
  omega
theorem bytesOf_nil {s : ByteArray} : bytesOf s = [] ↔ s.toList = ([] : List UInt8) := by
  rw [ByteArray.toList_eq]; simp [bytesOf]
theorem bt_rd (s : ByteArray) (i : Int) : bt s i = rd (bytesOf s) i := (rd_bytesOf s i).symm
end Go.Proofs.Ytiehijephkagbaa.U
