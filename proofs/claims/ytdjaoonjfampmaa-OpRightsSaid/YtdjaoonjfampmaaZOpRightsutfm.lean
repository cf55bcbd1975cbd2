/- Characters at the beginning of a list of bytes, and as far as a list is made of them; no program in it. -/
import Derived.Test.YtdjaoonjfampmaaZOpRightslebn
namespace Go.Proofs.Ytdjaoonjfampmaa.Utf
open Go.RowKit Go.Proofs.Ytdjaoonjfampmaa.Sl
open Go.Proofs.Ytdjaoonjfampmaa.Leb (rd)
set_option linter.unusedVariables false
set_option linter.unusedSimpArgs false
theorem Bs.cons {x : Int} {l : List Int} (h0 : 0 ≤ x) (h1 : x < 256) (h : Bs l) : Bs (x :: l) := Leb.Bs.cons h0 h1 h
/-- How many bytes a character has that begins with this one. -/
def sz (b : Int) : Nat := if b < 128 then 1 else if 194 ≤ b ∧ b < 224 then 2 else if 224 ≤ b ∧ b < 240 then 3 else if 240 ≤ b ∧ b < 245 then 4 else 0
/-- The least and the greatest second byte. -/
def sec (b : Int) : Int × Int := if b = 224 then (160, 191) else if b = 237 then (128, 159) else if b = 240 then (144, 191) else if b = 244 then (128, 143) else (128, 191)
/-- May byte number i stand behind a first byte? -/
def okAt (l : List Int) (i : Nat) : Prop := if i = 1 then (sec (rd l 0)).1 ≤ rd l 1 ∧ rd l 1 ≤ (sec (rd l 0)).2 else 128 ≤ rd l i ∧ rd l i ≤ 191
instance (l : List Int) (i : Nat) : Decidable (okAt l i) := by unfold okAt; infer_instance
/-- How many bytes the character has that a list begins with; 0: none. -/
def nx (l : List Int) : Nat :=
  if l = [] then 0 else if sz (rd l 0) = 0 ∨ l.length < sz (rd l 0) then 0
  else if 1 < sz (rd l 0) ∧ ¬ okAt l 1 then 0 else if 2 < sz (rd l 0) ∧ ¬ okAt l 2 then 0 else if 3 < sz (rd l 0) ∧ ¬ okAt l 3 then 0 else sz (rd l 0)
theorem sz_le (b : Int) : sz b ≤ 4 := by unfold sz; split; omega; split; omega; split; omega; split <;> omega
/-- It begins with a character of n bytes. -/
def Begins (l : List Int) (n : Nat) : Prop := l ≠ [] ∧ 0 < n ∧ sz (rd l 0) = n ∧ n ≤ l.length ∧ (1 < n → okAt l 1) ∧ (2 < n → okAt l 2) ∧ (3 < n → okAt l 3)
theorem nx_begins {l : List Int} {n : Nat} (hn : 0 < n) : nx l = n ↔ Begins l n := by
  unfold nx Begins
  constructor
  · intro h
    split at h
    · omega
    · rename_i h0
      split at h
      · omega
      · rename_i h1
        split at h
        · omega
        · rename_i h2
          split at h
          · omega
          · rename_i h3
            split at h
            · omega
            · rename_i h4
              subst h
              refine ⟨h0, hn, rfl, by omega, fun h => ?_, fun h => ?_, fun h => ?_⟩
              · exact Classical.not_not.1 fun h' => h2 ⟨h, h'⟩
              · exact Classical.not_not.1 fun h' => h3 ⟨h, h'⟩
              · exact Classical.not_not.1 fun h' => h4 ⟨h, h'⟩
  · rintro ⟨h0, _, rfl, hl, a, b, c⟩
    rw [if_neg h0, if_neg (by omega), if_neg (fun h => h.2 (a h.1)), if_neg (fun h => h.2 (b h.1)), if_neg (fun h => h.2 (c h.1))]
theorem nx_le (l : List Int) : nx l ≤ l.length := by
  rcases Nat.eq_zero_or_pos (nx l) with h | h
  · omega
  · exact ((nx_begins h).1 rfl).2.2.2.1
theorem nx_four (l : List Int) : nx l ≤ 4 := by
  rcases Nat.eq_zero_or_pos (nx l) with h | h
  · omega
  · rw [← ((nx_begins h).1 rfl).2.2.1]; exact sz_le _
theorem rd_append {a b : List Int} {i : Nat} (h : i < a.length) : rd (a ++ b) (i : Int) = rd a i := by
  simp [rd, List.getD_eq_getElem?_getD, List.getElem?_append, h]
theorem okAt_congr {l l' : List Int} {i : Nat} (h0 : rd l 0 = rd l' 0) (h : rd l (i : Int) = rd l' i) : okAt l i ↔ okAt l' i := by
  unfold okAt
  split
  · rename_i e; subst e
    rw [h0, show rd l 1 = rd l' 1 from h]
  · rw [h]
theorem Begins.congr {l l' : List Int} {n : Nat} (h : Begins l n) (hl : n ≤ l'.length) (he : ∀ i : Nat, i < n → rd l' i = rd l i) : Begins l' n := by
  obtain ⟨h0, hn, hs, hln, a, b, c⟩ := h
  have e0 : rd l' 0 = rd l 0 := he 0 hn
  refine ⟨fun e => ?_, hn, by rw [e0]; exact hs, hl, fun h => ?_, fun h => ?_, fun h => ?_⟩
  · subst e; simp at hl; omega
  · exact (okAt_congr e0 (he 1 h)).2 (a h)
  · exact (okAt_congr e0 (he 2 h)).2 (b h)
  · exact (okAt_congr e0 (he 3 h)).2 (c h)
theorem nx_append {l r : List Int} (h : 0 < nx l) : nx (l ++ r) = nx l := by
  have hb := (nx_begins h).1 rfl
  refine (nx_begins h).2 (hb.congr (by have := nx_le l; simp; omega) fun i hi => rd_append (by have := nx_le l; omega))
/-- Where a list stops being made of characters. -/
def wh (l : List Int) : Nat := if h : nx l = 0 then 0 else nx l + wh (l.drop (nx l))
termination_by l.length
decreasing_by rw [List.length_drop]; have := nx_le l; omega
theorem wh_stop {l : List Int} (h : nx l = 0) : wh l = 0 := by rw [wh, dif_pos h]
theorem wh_go {l : List Int} (h : 0 < nx l) : wh l = nx l + wh (l.drop (nx l)) := by rw [wh, dif_neg (by omega)]
theorem wh_nil : wh [] = 0 := wh_stop rfl
theorem wh_le (l : List Int) : wh l ≤ l.length := by
  induction l using wh.induct with
  | case1 l h => rw [wh_stop h]; omega
  | case2 l h ih =>
    rw [wh_go (by omega)]
    rw [List.length_drop] at ih
    have := nx_le l
    omega


/-- The document's bytes of a number that is a character. -/
def pt (k : Int) : List Int :=
  if k < 128 then [k] else if k < 2048 then [192 + k / 64, 128 + k % 64] else if k < 65536 then [224 + k / 4096, 128 + k / 64 % 64, 128 + k % 64] else [240 + k / 262144, 128 + k / 4096 % 64, 128 + k / 64 % 64, 128 + k % 64]
theorem pt_bytes {k : Int} (h0 : 0 ≤ k) (h1 : k ≤ 1114111) : Bs (pt k) := by
  unfold pt
  split
  · exact Utf.Bs.cons (by omega) (by omega) Bs.nil
  · split
    · exact Utf.Bs.cons (by omega) (by omega) (Utf.Bs.cons (by omega) (by omega) Bs.nil)
    · split
      · exact Utf.Bs.cons (by omega) (by omega) (Utf.Bs.cons (by omega) (by omega) (Utf.Bs.cons (by omega) (by omega) Bs.nil))
      · exact Utf.Bs.cons (by omega) (by omega) (Utf.Bs.cons (by omega) (by omega) (Utf.Bs.cons (by omega) (by omega) (Utf.Bs.cons (by omega) (by omega) Bs.nil)))
theorem pt_len (k : Int) : 0 < (pt k).length ∧ (pt k).length ≤ 4 := by
  unfold pt; split; simp; split; simp; split <;> simp
theorem sec_cases (b : Int) : (b = 224 ∧ sec b = (160, 191)) ∨ (b = 237 ∧ sec b = (128, 159)) ∨ (b = 240 ∧ sec b = (144, 191)) ∨ (b = 244 ∧ sec b = (128, 143)) ∨ (b ≠ 224 ∧ b ≠ 237 ∧ b ≠ 240 ∧ b ≠ 244 ∧ sec b = (128, 191)) := by
  unfold sec
  split
  · left; exact ⟨‹_›, rfl⟩
  · split
    · right; left; exact ⟨‹_›, rfl⟩
    · split
      · right; right; left; exact ⟨‹_›, rfl⟩
      · split
        · right; right; right; left; exact ⟨‹_›, rfl⟩
        · right; right; right; right; exact ⟨‹_›, ‹_›, ‹_›, ‹_›, rfl⟩
theorem pt_nx {k : Int} (h0 : 0 ≤ k) (h1 : k ≤ 1114111) (h2 : ¬ (55296 ≤ k ∧ k ≤ 57343)) : nx (pt k) = (pt k).length := by
  refine (nx_begins (pt_len k).1).2 ⟨fun e => by have := (pt_len k).1; rw [e] at this; simp at this, (pt_len k).1, ?_, Nat.le_refl _, ?_, ?_, ?_⟩
  · unfold pt
    split
    · show sz k = 1
      unfold sz; rw [if_pos (by omega)]
    · split
      · show sz (192 + k / 64) = 2
        unfold sz; rw [if_neg (by omega), if_pos (by omega)]
      · split
        · show sz (224 + k / 4096) = 3
          unfold sz; rw [if_neg (by omega), if_neg (by omega), if_pos (by omega)]
        · show sz (240 + k / 262144) = 4
          unfold sz; rw [if_neg (by omega), if_neg (by omega), if_neg (by omega), if_pos (by omega)]
  · unfold okAt
    rw [if_pos rfl]
    unfold pt
    split
    · intro h; simp at h
    · split
      · intro _
        show (sec (192 + k / 64)).1 ≤ 128 + k % 64 ∧ 128 + k % 64 ≤ (sec (192 + k / 64)).2
        rcases sec_cases (192 + k / 64) with ⟨h, e⟩ | ⟨h, e⟩ | ⟨h, e⟩ | ⟨h, e⟩ | ⟨_, _, _, _, e⟩ <;> rw [e] <;> simp only <;> omega
      · split
        · intro _
          show (sec (224 + k / 4096)).1 ≤ 128 + k / 64 % 64 ∧ 128 + k / 64 % 64 ≤ (sec (224 + k / 4096)).2
          rcases sec_cases (224 + k / 4096) with ⟨h, e⟩ | ⟨h, e⟩ | ⟨h, e⟩ | ⟨h, e⟩ | ⟨_, _, _, _, e⟩ <;> rw [e] <;> simp only <;> omega
        · intro _
          show (sec (240 + k / 262144)).1 ≤ 128 + k / 4096 % 64 ∧ 128 + k / 4096 % 64 ≤ (sec (240 + k / 262144)).2
          rcases sec_cases (240 + k / 262144) with ⟨h, e⟩ | ⟨h, e⟩ | ⟨h, e⟩ | ⟨h, e⟩ | ⟨_, _, _, _, e⟩ <;> rw [e] <;> simp only <;> omega
  · unfold okAt
    rw [if_neg (by decide)]
    unfold pt
    split
    · intro h; simp at h
    · split
      · intro h; simp at h
      · split
        · intro _
          show 128 ≤ 128 + k % 64 ∧ 128 + k % 64 ≤ 191
          omega
        · intro _
          show 128 ≤ 128 + k / 64 % 64 ∧ 128 + k / 64 % 64 ≤ 191
          omega
  · unfold okAt
    rw [if_neg (by decide)]
    unfold pt
    split
    · intro h; simp at h
    · split
      · intro h; simp at h
      · split
        · intro h; simp at h
        · intro _
          show 128 ≤ 128 + k % 64 ∧ 128 + k % 64 ≤ 191
          omega
/-- The document's bytes of any number; none, if it is no character's. -/
def pv (n : Int) : List Int := if 0 ≤ n ∧ n ≤ 1114111 ∧ ¬ (55296 ≤ n ∧ n ≤ 57343) then pt n else []
theorem pv_bytes (n : Int) : Bs (pv n) := by
  unfold pv; split
  · rename_i h; exact pt_bytes h.1 h.2.1
  · exact Bs.nil
/-- The number that the first i bytes would tell. -/
def num (l : List Int) (i : Nat) : Int :=
  if i = 1 then rd l 0 else if i = 2 then (rd l 0 - 192) * 64 + rd l 1 - 128
  else if i = 3 then ((rd l 0 - 224) * 64 + rd l 1 - 128) * 64 + rd l 2 - 128
  else (((rd l 0 - 240) * 64 + rd l 1 - 128) * 64 + rd l 2 - 128) * 64 + rd l 3 - 128
theorem sz_inv {b : Int} : (sz b = 1 → b < 128) ∧ (sz b = 2 → 194 ≤ b ∧ b < 224) ∧ (sz b = 3 → 224 ≤ b ∧ b < 240) ∧ (sz b = 4 → 240 ≤ b ∧ b < 245) := by
  unfold sz
  by_cases a1 : b < 128
  · rw [if_pos a1]; exact ⟨fun _ => a1, fun h => by omega, fun h => by omega, fun h => by omega⟩
  · rw [if_neg a1]
    by_cases a2 : 194 ≤ b ∧ b < 224
    · rw [if_pos a2]; exact ⟨fun h => by omega, fun _ => a2, fun h => by omega, fun h => by omega⟩
    · rw [if_neg a2]
      by_cases a3 : 224 ≤ b ∧ b < 240
      · rw [if_pos a3]; exact ⟨fun h => by omega, fun h => by omega, fun _ => a3, fun h => by omega⟩
      · rw [if_neg a3]
        by_cases a4 : 240 ≤ b ∧ b < 245
        · rw [if_pos a4]; exact ⟨fun h => by omega, fun h => by omega, fun h => by omega, fun _ => a4⟩
        · rw [if_neg a4]; exact ⟨fun h => by omega, fun h => by omega, fun h => by omega, fun h => by omega⟩
theorem num_match {l : List Int} {i : Nat} (hb : Bs l) (h1 : 1 ≤ i) (h4 : i ≤ 4) (hl : i ≤ l.length) : pv (num l i) = l.take i ↔ nx l = i := by
  constructor
  · intro h
    have hlen : (l.take i).length = i := by rw [List.length_take]; omega
    have hv : 0 ≤ num l i ∧ num l i ≤ 1114111 ∧ ¬ (55296 ≤ num l i ∧ num l i ≤ 57343) := by
      refine Classical.byContradiction fun hn => ?_
      unfold pv at h
      rw [if_neg hn] at h
      rw [← h] at hlen
      simp at hlen
      omega
    unfold pv at h
    rw [if_pos hv] at h
    have hn := pt_nx hv.1 hv.2.1 hv.2.2
    rw [h, hlen] at hn
    have := nx_append (l := l.take i) (r := l.drop i) (by omega)
    rw [List.take_append_drop] at this
    omega
  · intro h
    obtain ⟨hne, _, hs, _, o1, o2, o3⟩ := (nx_begins (by omega : 0 < i)).1 h
    have hi : i = 1 ∨ i = 2 ∨ i = 3 ∨ i = 4 := by omega
    have hz := @sz_inv (rd l 0)
    rcases hi with rfl | rfl | rfl | rfl
    · match l, hl with
      | x :: r, _ =>
        have hx := hb x (by simp)
        have a := hz.1 hs
        have ex : rd (x :: r) 0 = x := rfl
        rw [ex] at a
        unfold num pv pt
        rw [if_pos rfl, ex, if_pos (by omega), if_pos a]
        rfl
    · match l, hl with
      | x :: y :: r, _ =>
        have a := hz.2.1 hs
        have o := o1 (by omega)
        have ex : rd (x :: y :: r) 0 = x := rfl
        have ey : rd (x :: y :: r) 1 = y := rfl
        unfold okAt at o
        rw [if_pos rfl, ex, ey] at o
        rw [ex] at a
        have e : num (x :: y :: r) 2 = (x - 192) * 64 + y - 128 := rfl
        rw [e]
        have go : 128 ≤ y ∧ y ≤ 191 := by
          rcases sec_cases x with ⟨h, e⟩ | ⟨h, e⟩ | ⟨h, e⟩ | ⟨h, e⟩ | ⟨_, _, _, _, e⟩ <;> rw [e] at o <;> simp only at o <;> omega
        unfold pv pt
        rw [if_pos (by omega), if_neg (by omega), if_pos (by omega), show 192 + ((x - 192) * 64 + y - 128) / 64 = x by omega, show 128 + ((x - 192) * 64 + y - 128) % 64 = y by omega]
        rfl
    · match l, hl with
      | x :: y :: z :: r, _ =>
        have a := hz.2.2.1 hs
        have o := o1 (by omega)
        have p := o2 (by omega)
        have ex : rd (x :: y :: z :: r) 0 = x := rfl
        have ey : rd (x :: y :: z :: r) 1 = y := rfl
        have ez : rd (x :: y :: z :: r) ((2 : Nat) : Int) = z := rfl
        unfold okAt at o p
        rw [if_pos rfl, ex, ey] at o
        rw [if_neg (by decide), ez] at p
        rw [ex] at a
        have e : num (x :: y :: z :: r) 3 = ((x - 224) * 64 + y - 128) * 64 + z - 128 := rfl
        rw [e]
        have go : 2048 ≤ ((x - 224) * 64 + y - 128) * 64 + z - 128 ∧ ((x - 224) * 64 + y - 128) * 64 + z - 128 < 65536 ∧ ¬ (55296 ≤ ((x - 224) * 64 + y - 128) * 64 + z - 128 ∧ ((x - 224) * 64 + y - 128) * 64 + z - 128 ≤ 57343) ∧ 128 ≤ y ∧ y ≤ 191 := by
          rcases sec_cases x with ⟨h, e⟩ | ⟨h, e⟩ | ⟨h, e⟩ | ⟨h, e⟩ | ⟨_, _, _, _, e⟩ <;> rw [e] at o <;> simp only at o <;> omega
        unfold pv pt
        rw [if_pos (by omega), if_neg (by omega), if_neg (by omega), if_pos (by omega), show 224 + (((x - 224) * 64 + y - 128) * 64 + z - 128) / 4096 = x by omega, show 128 + (((x - 224) * 64 + y - 128) * 64 + z - 128) / 64 % 64 = y by omega, show 128 + (((x - 224) * 64 + y - 128) * 64 + z - 128) % 64 = z by omega]
        rfl
    · match l, hl with
      | x :: y :: z :: u :: r, _ =>
        have a := hz.2.2.2 hs
        have o := o1 (by omega)
        have p := o2 (by omega)
        have q := o3 (by omega)
        have ex : rd (x :: y :: z :: u :: r) 0 = x := rfl
        have ey : rd (x :: y :: z :: u :: r) 1 = y := rfl
        have ez : rd (x :: y :: z :: u :: r) ((2 : Nat) : Int) = z := rfl
        have eu : rd (x :: y :: z :: u :: r) ((3 : Nat) : Int) = u := rfl
        unfold okAt at o p q
        rw [if_pos rfl, ex, ey] at o
        rw [if_neg (by decide), ez] at p
        rw [if_neg (by decide), eu] at q
        rw [ex] at a
        have e : num (x :: y :: z :: u :: r) 4 = (((x - 240) * 64 + y - 128) * 64 + z - 128) * 64 + u - 128 := rfl
        rw [e]
        have go : 65536 ≤ (((x - 240) * 64 + y - 128) * 64 + z - 128) * 64 + u - 128 ∧ (((x - 240) * 64 + y - 128) * 64 + z - 128) * 64 + u - 128 ≤ 1114111 ∧ 128 ≤ y ∧ y ≤ 191 := by
          rcases sec_cases x with ⟨h, e⟩ | ⟨h, e⟩ | ⟨h, e⟩ | ⟨h, e⟩ | ⟨_, _, _, _, e⟩ <;> rw [e] at o <;> simp only at o <;> omega
        unfold pv pt
        rw [if_pos (by omega), if_neg (by omega), if_neg (by omega), if_neg (by omega), show 240 + ((((x - 240) * 64 + y - 128) * 64 + z - 128) * 64 + u - 128) / 262144 = x by omega, show 128 + ((((x - 240) * 64 + y - 128) * 64 + z - 128) * 64 + u - 128) / 4096 % 64 = y by omega, show 128 + ((((x - 240) * 64 + y - 128) * 64 + z - 128) * 64 + u - 128) / 64 % 64 = z by omega, show 128 + ((((x - 240) * 64 + y - 128) * 64 + z - 128) * 64 + u - 128) % 64 = u by omega]
        rfl
theorem rd_bound {l : List Int} (hb : Bs l) (i : Int) : 0 ≤ rd l i ∧ rd l i < 256 := by
  unfold rd
  rw [List.getD_eq_getElem?_getD]
  cases h : l[i.toNat]? with
  | none => simp
  | some x => exact hb x (List.mem_of_getElem? h)
/-- The number so far: of i bytes' first, and the next ones. -/
def acc (l : List Int) (i j : Nat) : Int := match j with
  | 0 => 0
  | 1 => if i = 2 then rd l 0 - 192 else if i = 3 then rd l 0 - 224 else if i = 4 then rd l 0 - 240 else rd l 0
  | j + 1 => acc l i j * 64 + rd l j - 128
theorem acc_one (l : List Int) (i : Nat) : acc l i 1 = if i = 2 then rd l 0 - 192 else if i = 3 then rd l 0 - 224 else if i = 4 then rd l 0 - 240 else rd l 0 := rfl
theorem acc_succ (l : List Int) (i : Nat) {j : Nat} (h : 1 ≤ j) : acc l i (j + 1) = acc l i j * 64 + rd l j - 128 := by
  obtain ⟨k, rfl⟩ : ∃ k, j = k + 1 := ⟨j - 1, by omega⟩
  rfl
theorem acc_num (l : List Int) {i : Nat} (h : i = 1 ∨ i = 2 ∨ i = 3 ∨ i = 4) : acc l i i = num l i := by
  rcases h with rfl | rfl | rfl | rfl <;> rfl
theorem acc_rng {l : List Int} (hb : Bs l) (i : Nat) : ∀ j, 1 ≤ j → j ≤ 4 → -100000000 < acc l i j ∧ acc l i j < 100000000 := by
  have b0 := rd_bound hb 0
  have b1 := rd_bound hb ((1 : Nat) : Int)
  have b2 := rd_bound hb ((2 : Nat) : Int)
  have b3 := rd_bound hb ((3 : Nat) : Int)
  have h1 : -240 ≤ acc l i 1 ∧ acc l i 1 < 256 := by rw [acc_one]; repeat' split <;> omega
  have e2 : acc l i 2 = acc l i 1 * 64 + rd l ((1 : Nat) : Int) - 128 := acc_succ l i (j := 1) (by decide)
  have e3 : acc l i 3 = acc l i 2 * 64 + rd l ((2 : Nat) : Int) - 128 := acc_succ l i (j := 2) (by decide)
  have e4 : acc l i 4 = acc l i 3 * 64 + rd l ((3 : Nat) : Int) - 128 := acc_succ l i (j := 3) (by decide)
  intro j h h'
  have : j = 1 ∨ j = 2 ∨ j = 3 ∨ j = 4 := by omega
  rcases this with rfl | rfl | rfl | rfl <;> omega
/-- UTF-8 all through. -/
def good (s : ByteArray) : Bool := decide (wh (ss s) = s.size)
theorem good_iff (s : ByteArray) : good s = true ↔ wh (ss s) = s.size := by unfold good; exact decide_eq_true_iff
theorem rd_ss (l : List Int) (i : Nat) : rd l (i : Int) = l.getD i 0 := rfl
theorem rd_0 (l : List Int) : rd l 0 = l.getD 0 0 := rfl
theorem nx_bad {l : List Int} {i : Nat} (h1 : 1 ≤ i) (h : i < sz (l.getD 0 0)) (ho : ¬ okAt l i) : nx l = 0 := by
  have hz := sz_le (l.getD 0 0)
  rw [← rd_0] at h hz
  have hi : i = 1 ∨ i = 2 ∨ i = 3 := by omega
  unfold nx
  repeat' split
  all_goals first
    | rfl
    | (exfalso; rcases hi with rfl | rfl | rfl <;> simp_all)
theorem nx_good {l : List Int} (h0 : l ≠ []) (hz : sz (l.getD 0 0) ≠ 0) (hl : sz (l.getD 0 0) ≤ l.length) (h : ∀ i, 1 ≤ i → i < sz (l.getD 0 0) → okAt l i) : nx l = sz (l.getD 0 0) := by
  rw [← rd_0] at *
  exact (nx_begins (by omega)).2 ⟨h0, by omega, rfl, hl, fun h1 => h 1 (by decide) h1, fun h1 => h 2 (by decide) h1, fun h1 => h 3 (by decide) h1⟩
theorem nx_none {l : List Int} (h : l = [] ∨ sz (l.getD 0 0) = 0 ∨ l.length < sz (l.getD 0 0)) : nx l = 0 := by
  unfold nx
  rw [rd_0]
  split
  · rfl
  · rcases h with h | h
    · contradiction
    · rw [if_pos h]
theorem ok_1 {l : List Int} : okAt l 1 ↔ (sec (l.getD 0 0)).1 ≤ l.getD 1 0 ∧ l.getD 1 0 ≤ (sec (l.getD 0 0)).2 := Iff.rfl
theorem ok_n {l : List Int} {i : Nat} (h : i ≠ 1) : okAt l i ↔ 128 ≤ l.getD i 0 ∧ l.getD i 0 ≤ 191 := by unfold okAt; rw [if_neg h]; exact Iff.rfl
end Go.Proofs.Ytdjaoonjfampmaa.Utf
