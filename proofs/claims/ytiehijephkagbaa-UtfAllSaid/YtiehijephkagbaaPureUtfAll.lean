/- 'UtfAll': each number's bytes are one character, if the number is one; else nothing that these bytes could be is. No condition. -/
import Derived.Test.YtiehijephkagbaaPUtfAllx2
import Derived.Test.YtiehijephkagbaaU
import Derived.Test.Ytiehijephkagbaautfmath
namespace Go.Proofs.Ytiehijephkagbaa.Pure
open Go.RowKit Go.Proofs.Ytiehijephkagbaa.PUtfAll Go.Proofs.YtiehijephkagbaaW.PrintWords Go.Proofs.YtiehijephkagbaaW.PrintLast Go.Proofs.Ytiehijephkagbaa.U
theorem size_ev (b : Int) (h : 0 ≤ b ∧ b ≤ 255) : Ev (fun k => utf_size.f k b) ((sz b : Nat) : Int) := by
  have j1 : ∀ c : Bool, (c = decide (224 ≤ b ∧ b < 240)) → ¬ (194 ≤ b ∧ b < 224) → ¬ b < 128 → Ev (fun k => utf_size.j1 k b c) ((sz b : Nat) : Int) := by
    intro c hc h2 h1
    refine Ev.step (f := fun _ => some ((sz b : Nat) : Int)) (fun k => ?_) (Ev.now _)
    simp only [utf_size.j1]
    subst hc
    unfold sz
    rw [if_neg h1, if_neg h2]
    by_cases h3 : 224 ≤ b ∧ b < 240
    · rw [if_pos (by simpa using h3), if_pos h3]; rfl
    · rw [if_neg (by simpa using h3), if_neg h3]
      by_cases h4 : 240 ≤ b ∧ b < 245
      · rw [if_pos h4.1, if_pos h4.2, if_pos h4]; rfl
      · rw [if_neg h4]
        by_cases h5 : b ≥ 240
        · rw [if_pos h5, if_neg (by omega)]; rfl
        · rw [if_neg h5]; rfl
  have j0 : ∀ c : Bool, (c = decide (194 ≤ b ∧ b < 224)) → ¬ b < 128 → Ev (fun k => utf_size.j0 k b c) ((sz b : Nat) : Int) := by
    intro c hc h1
    by_cases h2 : 194 ≤ b ∧ b < 224
    · refine Ev.step (f := fun _ => some (2 : Int)) (fun k => ?_) (Ev.some' ?_)
      · simp only [utf_size.j0]; rw [if_pos (by rw [hc]; simpa using h2)]
      · unfold sz; rw [if_neg h1, if_pos h2]; rfl
    · by_cases h3 : b ≥ 224
      · refine Ev.step (fun k => ?_) (j1 (decide (b < 240)) (by simp [h3]) h2 h1)
        simp only [utf_size.j0]; rw [if_neg (by rw [hc]; simpa using h2), if_pos h3]
      · refine Ev.step (fun k => ?_) (j1 false (by simp; omega) h2 h1)
        simp only [utf_size.j0]; rw [if_neg (by rw [hc]; simpa using h2), if_neg h3]
  unfold utf_size.f
  by_cases h1 : b < 128
  · refine Ev.congr (fun k => if_pos h1) (Ev.some' ?_)
    unfold sz; rw [if_pos h1]; rfl
  · refine Ev.neg h1 ?_
    by_cases h2 : b ≥ 194
    · exact Ev.pos h2 (j0 _ (by simp [h2]) h1)
    · exact Ev.neg h2 (j0 _ (by simp; omega) h1)
theorem second_eq (b : Int) : utf_second.f b = some (sec b) := by
  unfold utf_second.f sec
  split; rfl; split; rfl; split; rfl; split <;> rfl
theorem next_l0 (s : ByteArray) (hs : s.size ≤ 9223372036854775807) (n : Nat) (hn : n ≤ s.size) (h4 : n ≤ 4) (d : Nat) : ∀ i : Nat, 1 ≤ i → i ≤ n → n - i = d →
    ∀ r : Int, ((∀ j, i ≤ j → j < n → okAt (bytesOf s) j) → r = n) → (¬ (∀ j, i ≤ j → j < n → okAt (bytesOf s) j) → r = 0) → Ev (fun k => utf_Next.l0 k s (n : Int) (i : Int)) r := by
  induction d with
  | zero =>
    intro i h1 hi hd r hr _
    refine Ev.step (f := fun _ => some (n : Int)) (fun k => by simp only [utf_Next.l0]; rw [if_neg (by omega)]) (Ev.some' ?_)
    exact (hr (fun j h1 h2 => by omega)).symm
  | succ d ih =>
    intro i h1 hi hd r hr hr'
    have hsplit : (∀ j, i ≤ j → j < n → okAt (bytesOf s) j) ↔ okAt (bytesOf s) i ∧ ∀ j, i + 1 ≤ j → j < n → okAt (bytesOf s) j :=
      ⟨fun h => ⟨h i (Nat.le_refl _) (by omega), fun j hj => h j (by omega)⟩, fun h j hj hjn => by
        by_cases e : i = j
        · subst e; exact h.1
        · exact h.2 j (by omega) hjn⟩
    by_cases hok : okAt (bytesOf s) i
    · have := ih (i + 1) (by omega) (by omega) (by omega) r (fun h => hr (hsplit.2 ⟨hok, h⟩)) (fun h => hr' fun h' => h (hsplit.1 h').2)
      refine Ev.step (fun k => ?_) this
      simp only [utf_Next.l0]
      unfold okAt at hok
      rw [if_pos (by omega)]
      by_cases e : i = 1
      · subst e
        rw [if_pos rfl] at hok
        rw [if_pos (by omega), if_pos (by omega), second_eq]
        simp only [Option.bind_some]
        rw [if_pos (by omega), if_pos (by omega), bt_rd, bt_rd, if_neg (by have := hok.1; exact Int.not_lt.2 this), if_neg (by have := hok.2; exact Int.not_lt.2 this)]
        rw [w64 (by omega) (by omega)]; rfl
      · rw [if_neg e] at hok
        rw [if_neg (by omega), if_pos (by omega), if_pos (by omega), bt_rd, if_neg (by omega), if_neg (by omega), w64 (by omega) (by omega)]
        rfl
    · rw [hr' (fun h => hok (hsplit.1 h).1)]
      refine Ev.step (f := fun _ => some 0) (fun k => ?_) (Ev.now _)
      simp only [utf_Next.l0]
      unfold okAt at hok
      rw [if_pos (by omega)]
      by_cases e : i = 1
      · subst e
        rw [if_pos rfl] at hok
        rw [if_pos (by omega), if_pos (by omega), second_eq]
        simp only [Option.bind_some]
        rw [if_pos (by omega), if_pos (by omega), bt_rd, bt_rd]
        by_cases hlo : rd (bytesOf s) ((1 : Nat) : Int) < (sec (rd (bytesOf s) 0)).1
        · rw [if_pos hlo]
        · rw [if_neg hlo, if_pos]
          have : ¬ rd (bytesOf s) 1 ≤ (sec (rd (bytesOf s) 0)).2 := fun h => hok ⟨Int.not_lt.1 hlo, h⟩
          exact Int.not_le.1 this
      · rw [if_neg e] at hok
        rw [if_neg (by omega), if_pos (by omega), if_pos (by omega), bt_rd]
        by_cases hlo : rd (bytesOf s) (i : Int) < 128
        · rw [if_pos hlo]
        · rw [if_neg hlo, if_pos (by omega)]
theorem nx_all {l : List Int} (h0 : l ≠ []) (h1 : ¬ (sz (rd l 0) = 0 ∨ l.length < sz (rd l 0))) : ((∀ j, 1 ≤ j → j < sz (rd l 0) → okAt l j) → ((nx l : Nat) : Int) = ((sz (rd l 0) : Nat) : Int)) ∧ (¬ (∀ j, 1 ≤ j → j < sz (rd l 0) → okAt l j) → ((nx l : Nat) : Int) = 0) := by
  have h4 := sz_le (rd l 0)
  unfold nx
  rw [if_neg h0, if_neg h1]
  refine ⟨fun h => ?_, fun h => ?_⟩
  · rw [if_neg (fun x => x.2 (h 1 (by omega) x.1)), if_neg (fun x => x.2 (h 2 (by omega) x.1)), if_neg (fun x => x.2 (h 3 (by omega) x.1))]
  · by_cases a1 : 1 < sz (rd l 0) ∧ ¬ okAt l 1
    · rw [if_pos a1]; rfl
    · rw [if_neg a1]
      by_cases a2 : 2 < sz (rd l 0) ∧ ¬ okAt l 2
      · rw [if_pos a2]; rfl
      · rw [if_neg a2]
        by_cases a3 : 3 < sz (rd l 0) ∧ ¬ okAt l 3
        · rw [if_pos a3]; rfl
        · exfalso
          refine h fun j hj hjn => ?_
          have : j = 1 ∨ j = 2 ∨ j = 3 := by omega
          rcases this with rfl | rfl | rfl
          · exact Classical.not_not.1 fun x => a1 ⟨hjn, x⟩
          · exact Classical.not_not.1 fun x => a2 ⟨hjn, x⟩
          · exact Classical.not_not.1 fun x => a3 ⟨hjn, x⟩
theorem next_ev (s : ByteArray) (hs : s.size ≤ 9223372036854775807) : Ev (fun k => utf_Next.f k s) ((nx (bytesOf s) : Nat) : Int) := by
  unfold utf_Next.f
  by_cases h0 : bytesOf s = []
  · refine Ev.pos (bytesOf_nil.1 h0) (Ev.some' ?_)
    rw [h0]; rfl
  · have hpos : 0 < s.size := by rw [← bytesOf_length]; exact List.length_pos_iff.2 h0
    refine Ev.neg (fun h => h0 (bytesOf_nil.2 h)) (Ev.pos (by omega) (Ev.bind (size_ev _ (bt_range s 0)) ?_))
    rw [bt_rd]
    by_cases h1 : sz (rd (bytesOf s) 0) = 0
    · refine Ev.pos (by omega) (Ev.step (f := fun _ => some 0) (fun k => by simp only [utf_Next.j0, if_true]) (Ev.some' ?_))
      unfold nx; rw [if_neg h0, if_pos (.inl h1)]; rfl
    · refine Ev.neg (by omega) ?_
      by_cases h2 : (bytesOf s).length < sz (rd (bytesOf s) 0)
      · refine Ev.step (f := fun _ => some 0) (fun k => by simp only [utf_Next.j0]; rw [if_pos (by rw [decide_eq_true_eq]; rw [bytesOf_length] at h2; omega)]) (Ev.some' ?_)
        unfold nx; rw [if_neg h0, if_pos (.inr h2)]; rfl
      · have hall := nx_all h0 (by omega : ¬ (sz (rd (bytesOf s) 0) = 0 ∨ (bytesOf s).length < sz (rd (bytesOf s) 0)))
        rw [bytesOf_length] at h2
        refine Ev.step (fun k => ?_) (next_l0 s hs (sz (rd (bytesOf s) 0)) (by omega) (sz_le _) _ 1 (by omega) (by omega) rfl _ hall.1 hall.2)
        simp only [utf_Next.j0]
        rw [if_neg (by rw [decide_eq_true_eq]; omega)]
        rfl
theorem where_l0 (s : ByteArray) (hs : s.size ≤ 9223372036854775807) (d : Nat) : ∀ i : Nat, i ≤ s.size → s.size - i ≤ d → Ev (fun k => utf_Where.l0 k s (i : Int)) ((i + wh ((bytesOf s).drop i) : Nat) : Int) := by
  induction d with
  | zero =>
    intro i hi hd
    refine Ev.step (f := fun _ => some (i : Int)) (fun k => by simp only [utf_Where.l0]; rw [if_neg (by omega)]) (Ev.some' ?_)
    rw [List.drop_of_length_le (by rw [bytesOf_length]; omega), wh_nil, Nat.add_zero]
  | succ d ih =>
    intro i hi hd
    by_cases hlt : i < s.size
    · have hn := next_ev (s.extract i s.size) (by
        have := bytesOf_length (s.extract i s.size)
        rw [bytesOf_drop, List.length_drop, bytesOf_length] at this
        omega)
      rw [bytesOf_drop] at hn
      have hle := nx_le ((bytesOf s).drop i)
      rw [List.length_drop, bytesOf_length] at hle
      by_cases h0 : nx ((bytesOf s).drop i) = 0
      · refine Ev.step (f := fun k => (utf_Next.f k (s.extract i s.size)).bind fun t104 => (if t104 = 0 then (some (i : Int)) else (utf_Where.l0 k s (wrap64 ((i : Int) + t104))))) (fun k => by simp only [utf_Where.l0]; rw [if_pos (by omega), if_pos (by omega), if_pos (by omega)]; rfl) (Ev.bind hn ?_)
        refine Ev.pos (by omega) (Ev.some' ?_)
        rw [wh_stop h0, Nat.add_zero]
      · refine Ev.step (f := fun k => (utf_Next.f k (s.extract i s.size)).bind fun t104 => (if t104 = 0 then (some (i : Int)) else (utf_Where.l0 k s (wrap64 ((i : Int) + t104))))) (fun k => by simp only [utf_Where.l0]; rw [if_pos (by omega), if_pos (by omega), if_pos (by omega)]; rfl) (Ev.bind hn ?_)
        refine Ev.neg (by omega) ?_
        have := ih (i + nx ((bytesOf s).drop i)) (by omega) (by omega)
        rw [w64 (by omega) (by omega), wh_go (by omega), List.drop_drop, ← Nat.add_assoc]
        exact this
    · refine Ev.step (f := fun _ => some (i : Int)) (fun k => by simp only [utf_Where.l0]; rw [if_neg (by omega)]) (Ev.some' ?_)
      rw [List.drop_of_length_le (by rw [bytesOf_length]; omega), wh_nil, Nat.add_zero]
theorem where_ev (s : ByteArray) (hs : s.size ≤ 9223372036854775807) : Ev (fun k => utf_Where.f k s) ((wh (bytesOf s) : Nat) : Int) := by
  have := where_l0 s hs s.size 0 (Nat.zero_le _) (by omega)
  rw [List.drop_zero, Nat.zero_add] at this
  exact this
/-- Is a text UTF-8, all of it? -/
def good (s : ByteArray) : Bool := decide (wh (bytesOf s) = (bytesOf s).length)
theorem valid_l0 (l : List ByteArray) (hl : l.length ≤ 1000000000) (hs : ∀ s ∈ l, s.size ≤ 9223372036854775807) (d : Nat) : ∀ i : Nat, i ≤ l.length → l.length - i = d → Ev (fun k => utf_Valid.l0 k l (l.length : Int) (i : Int)) ((l.drop i).all good) := by
  induction d with
  | zero =>
    intro i hi hd
    refine Ev.step (f := fun _ => some true) (fun k => by simp only [utf_Valid.l0]; rw [if_neg (by omega)]) (Ev.some' ?_)
    rw [List.drop_of_length_le (by omega)]; rfl
  | succ d ih =>
    intro i hi hd
    have hi' : i < l.length := by omega
    have hr : rdOf ByteArray.empty l (i : Int) = l[i] := by simp [rdOf, List.getD_eq_getElem?_getD, List.getElem?_eq_getElem hi']
    have hw := where_ev l[i] (hs _ (List.getElem_mem hi'))
    have := ih (i + 1) (by omega) (by omega)
    refine Ev.step (f := fun k => (utf_Where.f k l[i]).bind fun t106 => (if t106 = (l[i].size : Int) then (utf_Valid.l0 k l (l.length : Int) ((i + 1 : Nat) : Int)) else (some false))) (fun k => by
      simp only [utf_Valid.l0]; rw [if_pos (by omega), if_pos (by omega), if_pos (by omega), hr, w64 (by omega) (by omega)]; rfl) (Ev.bind hw ?_)
    rw [List.drop_eq_getElem_cons hi', List.all_cons]
    by_cases hg : wh (bytesOf l[i]) = (bytesOf l[i]).length
    · rw [show good l[i] = true from decide_eq_true hg, Bool.true_and]
      exact Ev.pos (by rw [hg, bytesOf_length]) this
    · rw [show good l[i] = false from decide_eq_false hg, Bool.false_and]
      exact Ev.neg (by rw [← bytesOf_length]; omega) (Ev.now _)
theorem valid_ev (l : List ByteArray) (hl : l.length ≤ 1000000000) (hs : ∀ s ∈ l, s.size ≤ 9223372036854775807) : Ev (fun k => utf_Valid.f k l) (l.all good) := by
  have := valid_l0 l hl hs l.length 0 (Nat.zero_le _) (by omega)
  rw [List.drop_zero] at this
  exact this
theorem awake_ev : Ev (fun k => inkwelllaw03_awake.f k) true := Ev.of inkwelllaw03_awake.mono (k := 10) (by decide +kernel)
/-- The document's bytes of a number that is a character. -/
def pt (k : Int) : List Int :=
  if k < 128 then [k] else if k < 2048 then [192 + k / 64, 128 + k % 64] else if k < 65536 then [224 + k / 4096, 128 + k / 64 % 64, 128 + k % 64] else [240 + k / 262144, 128 + k / 4096 % 64, 128 + k / 64 % 64, 128 + k % 64]
theorem pt_bytes {k : Int} (h0 : 0 ≤ k) (h1 : k ≤ 1114111) : Bs (pt k) := by
  unfold pt
  split
  · exact Bs.cons (by omega) (by omega) Bs.nil
  · split
    · exact Bs.cons (by omega) (by omega) (Bs.cons (by omega) (by omega) Bs.nil)
    · split
      · exact Bs.cons (by omega) (by omega) (Bs.cons (by omega) (by omega) (Bs.cons (by omega) (by omega) Bs.nil))
      · exact Bs.cons (by omega) (by omega) (Bs.cons (by omega) (by omega) (Bs.cons (by omega) (by omega) (Bs.cons (by omega) (by omega) Bs.nil)))
theorem pt_len (k : Int) : 0 < (pt k).length ∧ (pt k).length ≤ 4 := by
  unfold pt; split; simp; split; simp; split <;> simp
theorem sec_cases (b : Int) : (b = 224 ∧ sec b = (160, 191)) ∨ (b = 237 ∧ sec b = (128, 159)) ∨ (b = 240 ∧ sec b = (144, 191)) ∨ (b = 244 ∧ sec b = (128, 143)) ∨ (b ≠ 224 ∧ b ≠ 237 ∧ b ≠ 240 ∧ b ≠ 244 ∧ sec b = (128, 191)) := by
  unfold sec
  split
  · left; exact ⟨‹_›, rfl⟩
  · split
    · right; left; exact ⟨‹_›, rfl⟩
    · split
      · right; right; left; exact ⟨‹_›, rfl⟩
      · split
        · right; right; right; left; exact ⟨‹_›, rfl⟩
        · right; right; right; right; exact ⟨‹_›, ‹_›, ‹_›, ‹_›, rfl⟩
theorem pt_nx {k : Int} (h0 : 0 ≤ k) (h1 : k ≤ 1114111) (h2 : ¬ (55296 ≤ k ∧ k ≤ 57343)) : nx (pt k) = (pt k).length := by
  refine (nx_begins (pt_len k).1).2 ⟨fun e => by have := (pt_len k).1; rw [e] at this; simp at this, (pt_len k).1, ?_, Nat.le_refl _, ?_, ?_, ?_⟩
  · unfold pt
    split
    · show sz k = 1
      unfold sz; rw [if_pos (by omega)]
    · split
      · show sz (192 + k / 64) = 2
        unfold sz; rw [if_neg (by omega), if_pos (by omega)]
      · split
        · show sz (224 + k / 4096) = 3
          unfold sz; rw [if_neg (by omega), if_neg (by omega), if_pos (by omega)]
        · show sz (240 + k / 262144) = 4
          unfold sz; rw [if_neg (by omega), if_neg (by omega), if_neg (by omega), if_pos (by omega)]
  · unfold okAt
    rw [if_pos rfl]
    unfold pt
    split
    · intro h; simp at h
    · split
      · intro _
        show (sec (192 + k / 64)).1 ≤ 128 + k % 64 ∧ 128 + k % 64 ≤ (sec (192 + k / 64)).2
        rcases sec_cases (192 + k / 64) with ⟨h, e⟩ | ⟨h, e⟩ | ⟨h, e⟩ | ⟨h, e⟩ | ⟨_, _, _, _, e⟩ <;> rw [e] <;> simp only <;> omega
      · split
        · intro _
          show (sec (224 + k / 4096)).1 ≤ 128 + k / 64 % 64 ∧ 128 + k / 64 % 64 ≤ (sec (224 + k / 4096)).2
          rcases sec_cases (224 + k / 4096) with ⟨h, e⟩ | ⟨h, e⟩ | ⟨h, e⟩ | ⟨h, e⟩ | ⟨_, _, _, _, e⟩ <;> rw [e] <;> simp only <;> omega
        · intro _
          show (sec (240 + k / 262144)).1 ≤ 128 + k / 4096 % 64 ∧ 128 + k / 4096 % 64 ≤ (sec (240 + k / 262144)).2
          rcases sec_cases (240 + k / 262144) with ⟨h, e⟩ | ⟨h, e⟩ | ⟨h, e⟩ | ⟨h, e⟩ | ⟨_, _, _, _, e⟩ <;> rw [e] <;> simp only <;> omega
  · unfold okAt
    rw [if_neg (by decide)]
    unfold pt
    split
    · intro h; simp at h
    · split
      · intro h; simp at h
      · split
        · intro _
          show 128 ≤ 128 + k % 64 ∧ 128 + k % 64 ≤ 191
          omega
        · intro _
          show 128 ≤ 128 + k / 64 % 64 ∧ 128 + k / 64 % 64 ≤ 191
          omega
  · unfold okAt
    rw [if_neg (by decide)]
    unfold pt
    split
    · intro h; simp at h
    · split
      · intro h; simp at h
      · split
        · intro h; simp at h
        · intro _
          show 128 ≤ 128 + k % 64 ∧ 128 + k % 64 ≤ 191
          omega
theorem put_ev {k : Int} (h0 : 0 ≤ k) (h1 : k < 1200000) : Ev (fun r => inkwellref03_Put.f r k) (if k ≤ 1114111 ∧ ¬ (55296 ≤ k ∧ k ≤ 57343) then strOfNums (pt k) else strOfNums []) := by
  have j : ∀ c : Bool, c = decide (¬ (k ≤ 1114111 ∧ ¬ (55296 ≤ k ∧ k ≤ 57343))) → Ev (fun r => inkwellref03_Put.j0 r k c) (if k ≤ 1114111 ∧ ¬ (55296 ≤ k ∧ k ≤ 57343) then strOfNums (pt k) else strOfNums []) := by
    intro c hc
    by_cases hb : k ≤ 1114111 ∧ ¬ (55296 ≤ k ∧ k ≤ 57343)
    · rw [if_pos hb]
      rw [decide_eq_false (by simpa using hb)] at hc
      subst hc
      refine Ev.step (f := fun _ => some (strOfNums (pt k))) (fun r => ?_) (Ev.now _)
      simp only [inkwellref03_Put.j0]
      rw [if_neg (by simp)]
      unfold pt
      split
      · rw [Int.emod_eq_of_lt (by omega) (by omega)]
      · split
        · rw [tdivp h0, tmodp h0, w64 (n := k / 64) (by omega) (by omega), w64 (by omega) (by omega), w64 (by omega) (by omega), Int.emod_eq_of_lt (by omega) (by omega), Int.emod_eq_of_lt (by omega) (by omega)]
        · split
          · rw [tdivp h0, tdivp h0, tmodp h0, w64 (n := k / 4096) (by omega) (by omega), w64 (n := k / 64) (by omega) (by omega), tmodp (by omega), w64 (n := 224 + k / 4096) (by omega) (by omega), w64 (n := 128 + k / 64 % 64) (by omega) (by omega), w64 (n := 128 + k % 64) (by omega) (by omega), Int.emod_eq_of_lt (a := 224 + k / 4096) (by omega) (by omega), Int.emod_eq_of_lt (a := 128 + k / 64 % 64) (by omega) (by omega), Int.emod_eq_of_lt (a := 128 + k % 64) (by omega) (by omega)]
          · rw [tdivp h0, tdivp h0, tdivp h0, tmodp h0, w64 (n := k / 262144) (by omega) (by omega), w64 (n := k / 4096) (by omega) (by omega), w64 (n := k / 64) (by omega) (by omega), tmodp (x := k / 4096) (by omega), tmodp (x := k / 64) (by omega),
              w64 (n := 240 + k / 262144) (by omega) (by omega), w64 (n := 128 + k / 4096 % 64) (by omega) (by omega), w64 (n := 128 + k / 64 % 64) (by omega) (by omega), w64 (n := 128 + k % 64) (by omega) (by omega),
              Int.emod_eq_of_lt (a := 240 + k / 262144) (by omega) (by omega), Int.emod_eq_of_lt (a := 128 + k / 4096 % 64) (by omega) (by omega), Int.emod_eq_of_lt (a := 128 + k / 64 % 64) (by omega) (by omega), Int.emod_eq_of_lt (a := 128 + k % 64) (by omega) (by omega)]
    · rw [if_neg hb]
      rw [decide_eq_true hb] at hc
      subst hc
      exact Ev.step (f := fun _ => some (strOfNums [])) (fun r => by simp only [inkwellref03_Put.j0, if_true]; rfl) (Ev.now _)
  unfold inkwellref03_Put.f
  refine Ev.neg (by omega) ?_
  by_cases a : k > 1114111
  · exact Ev.pos a (j true (by rw [eq_comm, decide_eq_true_eq]; omega))
  · refine Ev.neg a ?_
    by_cases b : k ≥ 55296
    · exact Ev.pos b (j _ (by rw [decide_eq_decide]; omega))
    · exact Ev.neg b (j false (by rw [eq_comm, decide_eq_false_iff_not]; omega))
theorem UtfAll : inkwelllaw03_UtfAll.Pure := by
  intro n hn
  rw [wf_u32] at hn
  refine Ev.rounds ?_
  unfold inkwelllaw03_UtfAll.f
  rw [w64 (n := n) (by omega) (by omega), tmodp (d := 1200000) hn.1]
  obtain ⟨k, hk⟩ : ∃ k, k = n % 1200000 := ⟨_, rfl⟩
  rw [← hk]
  have h0 : 0 ≤ k := by omega
  have h1 : k < 1200000 := by omega
  clear hk hn
  refine Ev.bind awake_ev (Ev.pos rfl (Ev.bind (put_ev h0 h1) ?_))
  have bad : ∀ l : List Int, Bs l → 0 < l.length → l.length ≤ 4 → nx l = 0 → Ev (fun r => (utf_Next.f r (strOfNums l)).bind fun t133 => (if t133 = 0 then ((utf_Valid.f r (([strOfNums l] : List ByteArray))).bind fun t137 => (some (!t137))) else (some false))) true := by
    intro l hb hp hl hz
    have := next_ev (strOfNums l) (by rw [str_size]; omega)
    rw [bytesOf_str hb, hz] at this
    refine Ev.bind this (Ev.pos rfl (Ev.bind (valid_ev _ (by simp) (fun x hx => by rw [List.mem_singleton.1 hx, str_size]; omega)) (Ev.some' ?_)))
    rw [List.all_cons, List.all_nil, Bool.and_true]
    rw [show good (strOfNums l) = false from decide_eq_false (by rw [bytesOf_str hb, wh_stop hz]; omega)]
    rfl
  by_cases hb : k ≤ 1114111 ∧ ¬ (55296 ≤ k ∧ k ≤ 57343)
  · rw [if_pos hb]
    have hB := pt_bytes h0 hb.1
    have hN := pt_nx h0 hb.1 hb.2
    have hL := pt_len k
    have hS := str_size (pt k)
    refine Ev.neg (fun h => by rw [← bytesOf_nil, bytesOf_str hB] at h; rw [h] at hL; simp at hL) ?_
    have a1 := next_ev (strOfNums (pt k)) (by omega)
    rw [bytesOf_str hB, hN] at a1
    refine Ev.bind a1 (Ev.pos (by omega) (Ev.pos (by omega) ?_))
    rw [show (⟨#[120]⟩ : ByteArray) = strOfNums [120] from rfl, str_append]
    have a2 := next_ev (strOfNums (pt k ++ [120])) (by rw [str_size]; simp; omega)
    rw [bytesOf_str (Bs.append hB (Bs.cons (by omega) (by omega) Bs.nil)), nx_append (by omega), hN] at a2
    refine Ev.bind a2 (Ev.pos (by omega) (Ev.bind (valid_ev _ (by simp) (fun x hx => by rw [List.mem_singleton.1 hx]; omega)) ?_))
    have hg : ([strOfNums (pt k)].all good) = true := by
      rw [List.all_cons, List.all_nil, Bool.and_true]
      refine decide_eq_true ?_
      rw [bytesOf_str hB, wh_go (by omega), hN, List.drop_length, wh_nil]; rfl
    rw [hg]
    refine Ev.pos rfl ?_
    by_cases h1' : (pt k).length = 1
    · exact Ev.pos (by omega) (Ev.now true)
    · refine Ev.neg (by omega) ?_
      rw [w64 (by omega) (by omega)]
      refine Ev.pos (by omega) (Ev.pos (by omega) ?_)
      have a3 := next_ev ((strOfNums (pt k)).extract 0 (((strOfNums (pt k)).size : Int) - 1).toNat) (by
        have := bytesOf_length ((strOfNums (pt k)).extract 0 (((strOfNums (pt k)).size : Int) - 1).toNat)
        rw [bytesOf_take, bytesOf_str hB, List.length_take] at this
        omega)
      rw [bytesOf_take, bytesOf_str hB, show (((strOfNums (pt k)).size : Int) - 1).toNat = nx (pt k) - 1 by omega, nx_short (by omega)] at a3
      rw [show (((strOfNums (pt k)).size : Int) - 1).toNat = nx (pt k) - 1 by omega]
      exact Ev.bind a3 (Ev.now true)
  · rw [if_neg hb]
    refine Ev.pos (bytesOf_nil.1 rfl) ?_
    rw [tdivp h0, tdivp h0, tdivp h0, tmodp h0, w64 (n := k / 262144) (by omega) (by omega), w64 (n := k / 4096) (by omega) (by omega), w64 (n := k / 64) (by omega) (by omega), tmodp (x := k / 4096) (d := 16) (by omega), tmodp (x := k / 4096) (d := 64) (by omega), tmodp (x := k / 64) (by omega),
      w64 (n := 224 + k / 4096 % 16) (by omega) (by omega), w64 (n := 240 + k / 262144) (by omega) (by omega), w64 (n := 128 + k / 4096 % 64) (by omega) (by omega), w64 (n := 128 + k / 64 % 64) (by omega) (by omega), w64 (n := 128 + k % 64) (by omega) (by omega),
      Int.emod_eq_of_lt (a := 224 + k / 4096 % 16) (by omega) (by omega), Int.emod_eq_of_lt (a := 240 + k / 262144) (by omega) (by omega), Int.emod_eq_of_lt (a := 128 + k / 4096 % 64) (by omega) (by omega), Int.emod_eq_of_lt (a := 128 + k / 64 % 64) (by omega) (by omega), Int.emod_eq_of_lt (a := 128 + k % 64) (by omega) (by omega)]
    simp only [Option.bind_some]
    by_cases hbig : k > 65535
    · refine Ev.pos hbig (bad _ ?_ (by simp) (by simp) (nx_bad1 ?_ ?_))
      · exact Bs.cons (by omega) (by omega) (Bs.cons (by omega) (by omega) (Bs.cons (by omega) (by omega) (Bs.cons (by omega) (by omega) Bs.nil)))
      · show 1 < sz (240 + k / 262144)
        rw [show 240 + k / 262144 = 244 by omega]; decide
      · unfold okAt
        rw [if_pos rfl]
        show ¬ (_ ∧ 128 + k / 4096 % 64 ≤ (sec (240 + k / 262144)).2)
        rw [show 240 + k / 262144 = 244 by omega, show (sec 244).2 = 143 from rfl]
        omega
    · refine Ev.neg hbig (bad _ ?_ (by simp) (by simp) (nx_bad1 ?_ ?_))
      · exact Bs.cons (by omega) (by omega) (Bs.cons (by omega) (by omega) (Bs.cons (by omega) (by omega) Bs.nil))
      · show 1 < sz (224 + k / 4096 % 16)
        rw [show 224 + k / 4096 % 16 = 237 by omega]; decide
      · unfold okAt
        rw [if_pos rfl]
        show ¬ (_ ∧ 128 + k / 64 % 64 ≤ (sec (224 + k / 4096 % 16)).2)
        rw [show 224 + k / 4096 % 16 = 237 by omega, show (sec 237).2 = 159 from rfl]
        omega
end Go.Proofs.Ytiehijephkagbaa.Pure
