/- 'UtfPlays': the program's and the document's functions on texts, by contract, and the walk of the statement's own function. -/
import Derived.Test.YtiehijephkagbaaPUtfPlaysx3
import Derived.Test.YtiehijephkagbaaU
import Derived.Test.Ytiehijephkagbaautfmath
import Derived.Test.YtiehijephkagbaaReg
namespace Go.Proofs.Ytiehijephkagbaa.Own
open Go.RowKit Go.Proofs.Ytiehijephkagbaa.PUtfPlays Go.Proofs.YtiehijephkagbaaW.PrintWords Go.Proofs.YtiehijephkagbaaW.PrintLast Go.Proofs.YtiehijephkagbaaW.PrintMore Go.Proofs.Ytiehijephkagbaa.U Go.Proofs.Ytiehijephkagbaa.Reg
set_option linter.unusedVariables false
set_option linter.unusedSimpArgs false
theorem size_ev (b : Int) (h : 0 ≤ b ∧ b ≤ 255) : Ev (fun k => utf_size.f k b) ((sz b : Nat) : Int) := by
  have j1 : ∀ c : Bool, (c = decide (224 ≤ b ∧ b < 240)) → ¬ (194 ≤ b ∧ b < 224) → ¬ b < 128 → Ev (fun k => utf_size.j1 k b c) ((sz b : Nat) : Int) := by
    intro c hc h2 h1
    refine Ev.step (f := fun _ => some ((sz b : Nat) : Int)) (fun k => ?_) (Ev.now _)
    simp only [utf_size.j1]
    subst hc
    unfold sz
    rw [if_neg h1, if_neg h2]
    by_cases h3 : 224 ≤ b ∧ b < 240
    · rw [if_pos (by simpa using h3), if_pos h3]; rfl
    · rw [if_neg (by simpa using h3), if_neg h3]
      by_cases h4 : 240 ≤ b ∧ b < 245
      · rw [if_pos h4.1, if_pos h4.2, if_pos h4]; rfl
      · rw [if_neg h4]
        by_cases h5 : b ≥ 240
        · rw [if_pos h5, if_neg (by omega)]; rfl
        · rw [if_neg h5]; rfl
  have j0 : ∀ c : Bool, (c = decide (194 ≤ b ∧ b < 224)) → ¬ b < 128 → Ev (fun k => utf_size.j0 k b c) ((sz b : Nat) : Int) := by
    intro c hc h1
    by_cases h2 : 194 ≤ b ∧ b < 224
    · refine Ev.step (f := fun _ => some (2 : Int)) (fun k => ?_) (Ev.some' ?_)
      · simp only [utf_size.j0]; rw [if_pos (by rw [hc]; simpa using h2)]
      · unfold sz; rw [if_neg h1, if_pos h2]; rfl
    · by_cases h3 : b ≥ 224
      · refine Ev.step (fun k => ?_) (j1 (decide (b < 240)) (by simp [h3]) h2 h1)
        simp only [utf_size.j0]; rw [if_neg (by rw [hc]; simpa using h2), if_pos h3]
      · refine Ev.step (fun k => ?_) (j1 false (by simp; omega) h2 h1)
        simp only [utf_size.j0]; rw [if_neg (by rw [hc]; simpa using h2), if_neg h3]
  unfold utf_size.f
  by_cases h1 : b < 128
  · refine Ev.congr (fun k => if_pos h1) (Ev.some' ?_)
    unfold sz; rw [if_pos h1]; rfl
  · refine Ev.neg h1 ?_
    by_cases h2 : b ≥ 194
    · exact Ev.pos h2 (j0 _ (by simp [h2]) h1)
    · exact Ev.neg h2 (j0 _ (by simp; omega) h1)
theorem second_eq (b : Int) : utf_second.f b = some (sec b) := by
  unfold utf_second.f sec
  split; rfl; split; rfl; split; rfl; split <;> rfl
theorem next_l0 (s : ByteArray) (hs : s.size ≤ 9223372036854775807) (n : Nat) (hn : n ≤ s.size) (h4 : n ≤ 4) (d : Nat) : ∀ i : Nat, 1 ≤ i → i ≤ n → n - i = d →
    ∀ r : Int, ((∀ j, i ≤ j → j < n → okAt (bytesOf s) j) → r = n) → (¬ (∀ j, i ≤ j → j < n → okAt (bytesOf s) j) → r = 0) → Ev (fun k => utf_Next.l0 k s (n : Int) (i : Int)) r := by
  induction d with
  | zero =>
    intro i h1 hi hd r hr _
    refine Ev.step (f := fun _ => some (n : Int)) (fun k => by simp only [utf_Next.l0]; rw [if_neg (by omega)]) (Ev.some' ?_)
    exact (hr (fun j h1 h2 => by omega)).symm
  | succ d ih =>
    intro i h1 hi hd r hr hr'
    have hsplit : (∀ j, i ≤ j → j < n → okAt (bytesOf s) j) ↔ okAt (bytesOf s) i ∧ ∀ j, i + 1 ≤ j → j < n → okAt (bytesOf s) j :=
      ⟨fun h => ⟨h i (Nat.le_refl _) (by omega), fun j hj => h j (by omega)⟩, fun h j hj hjn => by
        by_cases e : i = j
        · subst e; exact h.1
        · exact h.2 j (by omega) hjn⟩
    by_cases hok : okAt (bytesOf s) i
    · have := ih (i + 1) (by omega) (by omega) (by omega) r (fun h => hr (hsplit.2 ⟨hok, h⟩)) (fun h => hr' fun h' => h (hsplit.1 h').2)
      refine Ev.step (fun k => ?_) this
      simp only [utf_Next.l0]
      unfold okAt at hok
      rw [if_pos (by omega)]
      by_cases e : i = 1
      · subst e
        rw [if_pos rfl] at hok
        rw [if_pos (by omega), if_pos (by omega), second_eq]
        simp only [Option.bind_some]
        rw [if_pos (by omega), if_pos (by omega), bt_rd, bt_rd, if_neg (by have := hok.1; exact Int.not_lt.2 this), if_neg (by have := hok.2; exact Int.not_lt.2 this)]
        rw [w64 (by omega) (by omega)]; rfl
      · rw [if_neg e] at hok
        rw [if_neg (by omega), if_pos (by omega), if_pos (by omega), bt_rd, if_neg (by omega), if_neg (by omega), w64 (by omega) (by omega)]
        rfl
    · rw [hr' (fun h => hok (hsplit.1 h).1)]
      refine Ev.step (f := fun _ => some 0) (fun k => ?_) (Ev.now _)
      simp only [utf_Next.l0]
      unfold okAt at hok
      rw [if_pos (by omega)]
      by_cases e : i = 1
      · subst e
        rw [if_pos rfl] at hok
        rw [if_pos (by omega), if_pos (by omega), second_eq]
        simp only [Option.bind_some]
        rw [if_pos (by omega), if_pos (by omega), bt_rd, bt_rd]
        by_cases hlo : rd (bytesOf s) ((1 : Nat) : Int) < (sec (rd (bytesOf s) 0)).1
        · rw [if_pos hlo]
        · rw [if_neg hlo, if_pos]
          have : ¬ rd (bytesOf s) 1 ≤ (sec (rd (bytesOf s) 0)).2 := fun h => hok ⟨Int.not_lt.1 hlo, h⟩
          exact Int.not_le.1 this
      · rw [if_neg e] at hok
        rw [if_neg (by omega), if_pos (by omega), if_pos (by omega), bt_rd]
        by_cases hlo : rd (bytesOf s) (i : Int) < 128
        · rw [if_pos hlo]
        · rw [if_neg hlo, if_pos (by omega)]
theorem nx_all {l : List Int} (h0 : l ≠ []) (h1 : ¬ (sz (rd l 0) = 0 ∨ l.length < sz (rd l 0))) : ((∀ j, 1 ≤ j → j < sz (rd l 0) → okAt l j) → ((nx l : Nat) : Int) = ((sz (rd l 0) : Nat) : Int)) ∧ (¬ (∀ j, 1 ≤ j → j < sz (rd l 0) → okAt l j) → ((nx l : Nat) : Int) = 0) := by
  have h4 := sz_le (rd l 0)
  unfold nx
  rw [if_neg h0, if_neg h1]
  refine ⟨fun h => ?_, fun h => ?_⟩
  · rw [if_neg (fun x => x.2 (h 1 (by omega) x.1)), if_neg (fun x => x.2 (h 2 (by omega) x.1)), if_neg (fun x => x.2 (h 3 (by omega) x.1))]
  · by_cases a1 : 1 < sz (rd l 0) ∧ ¬ okAt l 1
    · rw [if_pos a1]; rfl
    · rw [if_neg a1]
      by_cases a2 : 2 < sz (rd l 0) ∧ ¬ okAt l 2
      · rw [if_pos a2]; rfl
      · rw [if_neg a2]
        by_cases a3 : 3 < sz (rd l 0) ∧ ¬ okAt l 3
        · rw [if_pos a3]; rfl
        · exfalso
          refine h fun j hj hjn => ?_
          have : j = 1 ∨ j = 2 ∨ j = 3 := by omega
          rcases this with rfl | rfl | rfl
          · exact Classical.not_not.1 fun x => a1 ⟨hjn, x⟩
          · exact Classical.not_not.1 fun x => a2 ⟨hjn, x⟩
          · exact Classical.not_not.1 fun x => a3 ⟨hjn, x⟩
theorem next_ev (s : ByteArray) (hs : s.size ≤ 9223372036854775807) : Ev (fun k => utf_Next.f k s) ((nx (bytesOf s) : Nat) : Int) := by
  unfold utf_Next.f
  by_cases h0 : bytesOf s = []
  · refine Ev.pos (bytesOf_nil.1 h0) (Ev.some' ?_)
    rw [h0]; rfl
  · have hpos : 0 < s.size := by rw [← bytesOf_length]; exact List.length_pos_iff.2 h0
    refine Ev.neg (fun h => h0 (bytesOf_nil.2 h)) (Ev.pos (by omega) (Ev.bind (size_ev _ (bt_range s 0)) ?_))
    rw [bt_rd]
    by_cases h1 : sz (rd (bytesOf s) 0) = 0
    · refine Ev.pos (by omega) (Ev.step (f := fun _ => some 0) (fun k => by simp only [utf_Next.j0, if_true]) (Ev.some' ?_))
      unfold nx; rw [if_neg h0, if_pos (.inl h1)]; rfl
    · refine Ev.neg (by omega) ?_
      by_cases h2 : (bytesOf s).length < sz (rd (bytesOf s) 0)
      · refine Ev.step (f := fun _ => some 0) (fun k => by simp only [utf_Next.j0]; rw [if_pos (by rw [decide_eq_true_eq]; rw [bytesOf_length] at h2; omega)]) (Ev.some' ?_)
        unfold nx; rw [if_neg h0, if_pos (.inr h2)]; rfl
      · have hall := nx_all h0 (by omega : ¬ (sz (rd (bytesOf s) 0) = 0 ∨ (bytesOf s).length < sz (rd (bytesOf s) 0)))
        rw [bytesOf_length] at h2
        refine Ev.step (fun k => ?_) (next_l0 s hs (sz (rd (bytesOf s) 0)) (by omega) (sz_le _) _ 1 (by omega) (by omega) rfl _ hall.1 hall.2)
        simp only [utf_Next.j0]
        rw [if_neg (by rw [decide_eq_true_eq]; omega)]
        rfl
theorem where_l0 (s : ByteArray) (hs : s.size ≤ 9223372036854775807) (d : Nat) : ∀ i : Nat, i ≤ s.size → s.size - i ≤ d → Ev (fun k => utf_Where.l0 k s (i : Int)) ((i + wh ((bytesOf s).drop i) : Nat) : Int) := by
  induction d with
  | zero =>
    intro i hi hd
    refine Ev.step (f := fun _ => some (i : Int)) (fun k => by simp only [utf_Where.l0]; rw [if_neg (by omega)]) (Ev.some' ?_)
    rw [List.drop_of_length_le (by rw [bytesOf_length]; omega), wh_nil, Nat.add_zero]
  | succ d ih =>
    intro i hi hd
    by_cases hlt : i < s.size
    · have hn := next_ev (s.extract i s.size) (by
        have := bytesOf_length (s.extract i s.size)
        rw [bytesOf_drop, List.length_drop, bytesOf_length] at this
        omega)
      rw [bytesOf_drop] at hn
      have hle := nx_le ((bytesOf s).drop i)
      rw [List.length_drop, bytesOf_length] at hle
      by_cases h0 : nx ((bytesOf s).drop i) = 0
      · refine Ev.step (f := fun k => (utf_Next.f k (s.extract i s.size)).bind fun t104 => (if t104 = 0 then (some (i : Int)) else (utf_Where.l0 k s (wrap64 ((i : Int) + t104))))) (fun k => by simp only [utf_Where.l0]; rw [if_pos (by omega), if_pos (by omega), if_pos (by omega)]; rfl) (Ev.bind hn ?_)
        refine Ev.pos (by omega) (Ev.some' ?_)
        rw [wh_stop h0, Nat.add_zero]
      · refine Ev.step (f := fun k => (utf_Next.f k (s.extract i s.size)).bind fun t104 => (if t104 = 0 then (some (i : Int)) else (utf_Where.l0 k s (wrap64 ((i : Int) + t104))))) (fun k => by simp only [utf_Where.l0]; rw [if_pos (by omega), if_pos (by omega), if_pos (by omega)]; rfl) (Ev.bind hn ?_)
        refine Ev.neg (by omega) ?_
        have := ih (i + nx ((bytesOf s).drop i)) (by omega) (by omega)
        rw [w64 (by omega) (by omega), wh_go (by omega), List.drop_drop, ← Nat.add_assoc]
        exact this
    · refine Ev.step (f := fun _ => some (i : Int)) (fun k => by simp only [utf_Where.l0]; rw [if_neg (by omega)]) (Ev.some' ?_)
      rw [List.drop_of_length_le (by rw [bytesOf_length]; omega), wh_nil, Nat.add_zero]
theorem where_ev (s : ByteArray) (hs : s.size ≤ 9223372036854775807) : Ev (fun k => utf_Where.f k s) ((wh (bytesOf s) : Nat) : Int) := by
  have := where_l0 s hs s.size 0 (Nat.zero_le _) (by omega)
  rw [List.drop_zero, Nat.zero_add] at this
  exact this
/-- Is a text UTF-8, all of it? -/
def good (s : ByteArray) : Bool := decide (wh (bytesOf s) = (bytesOf s).length)
theorem valid_l0 (l : List ByteArray) (hl : l.length ≤ 1000000000) (hs : ∀ s ∈ l, s.size ≤ 9223372036854775807) (d : Nat) : ∀ i : Nat, i ≤ l.length → l.length - i = d → Ev (fun k => utf_Valid.l0 k l (l.length : Int) (i : Int)) ((l.drop i).all good) := by
  induction d with
  | zero =>
    intro i hi hd
    refine Ev.step (f := fun _ => some true) (fun k => by simp only [utf_Valid.l0]; rw [if_neg (by omega)]) (Ev.some' ?_)
    rw [List.drop_of_length_le (by omega)]; rfl
  | succ d ih =>
    intro i hi hd
    have hi' : i < l.length := by omega
    have hr : rdOf ByteArray.empty l (i : Int) = l[i] := by simp [rdOf, List.getD_eq_getElem?_getD, List.getElem?_eq_getElem hi']
    have hw := where_ev l[i] (hs _ (List.getElem_mem hi'))
    have := ih (i + 1) (by omega) (by omega)
    refine Ev.step (f := fun k => (utf_Where.f k l[i]).bind fun t106 => (if t106 = (l[i].size : Int) then (utf_Valid.l0 k l (l.length : Int) ((i + 1 : Nat) : Int)) else (some false))) (fun k => by
      simp only [utf_Valid.l0]; rw [if_pos (by omega), if_pos (by omega), if_pos (by omega), hr, w64 (by omega) (by omega)]; rfl) (Ev.bind hw ?_)
    rw [List.drop_eq_getElem_cons hi', List.all_cons]
    by_cases hg : wh (bytesOf l[i]) = (bytesOf l[i]).length
    · rw [show good l[i] = true from decide_eq_true hg, Bool.true_and]
      exact Ev.pos (by rw [hg, bytesOf_length]) this
    · rw [show good l[i] = false from decide_eq_false hg, Bool.false_and]
      exact Ev.neg (by rw [← bytesOf_length]; omega) (Ev.now _)
theorem valid_ev (l : List ByteArray) (hl : l.length ≤ 1000000000) (hs : ∀ s ∈ l, s.size ≤ 9223372036854775807) : Ev (fun k => utf_Valid.f k l) (l.all good) := by
  have := valid_l0 l hl hs l.length 0 (Nat.zero_le _) (by omega)
  rw [List.drop_zero] at this
  exact this
theorem awake_ev : Ev (fun k => inkwelllaw03_awake.f k) true := Ev.of inkwelllaw03_awake.mono (k := 10) (by decide +kernel)
/-- The document's bytes of a number that is a character. -/
def pt (k : Int) : List Int :=
  if k < 128 then [k] else if k < 2048 then [192 + k / 64, 128 + k % 64] else if k < 65536 then [224 + k / 4096, 128 + k / 64 % 64, 128 + k % 64] else [240 + k / 262144, 128 + k / 4096 % 64, 128 + k / 64 % 64, 128 + k % 64]
theorem pt_bytes {k : Int} (h0 : 0 ≤ k) (h1 : k ≤ 1114111) : Bs (pt k) := by
  unfold pt
  split
  · exact Bs.cons (by omega) (by omega) Bs.nil
  · split
    · exact Bs.cons (by omega) (by omega) (Bs.cons (by omega) (by omega) Bs.nil)
    · split
      · exact Bs.cons (by omega) (by omega) (Bs.cons (by omega) (by omega) (Bs.cons (by omega) (by omega) Bs.nil))
      · exact Bs.cons (by omega) (by omega) (Bs.cons (by omega) (by omega) (Bs.cons (by omega) (by omega) (Bs.cons (by omega) (by omega) Bs.nil)))
theorem pt_len (k : Int) : 0 < (pt k).length ∧ (pt k).length ≤ 4 := by
  unfold pt; split; simp; split; simp; split <;> simp
theorem sec_cases (b : Int) : (b = 224 ∧ sec b = (160, 191)) ∨ (b = 237 ∧ sec b = (128, 159)) ∨ (b = 240 ∧ sec b = (144, 191)) ∨ (b = 244 ∧ sec b = (128, 143)) ∨ (b ≠ 224 ∧ b ≠ 237 ∧ b ≠ 240 ∧ b ≠ 244 ∧ sec b = (128, 191)) := by
  unfold sec
  split
  · left; exact ⟨‹_›, rfl⟩
  · split
    · right; left; exact ⟨‹_›, rfl⟩
    · split
      · right; right; left; exact ⟨‹_›, rfl⟩
      · split
        · right; right; right; left; exact ⟨‹_›, rfl⟩
        · right; right; right; right; exact ⟨‹_›, ‹_›, ‹_›, ‹_›, rfl⟩
theorem pt_nx {k : Int} (h0 : 0 ≤ k) (h1 : k ≤ 1114111) (h2 : ¬ (55296 ≤ k ∧ k ≤ 57343)) : nx (pt k) = (pt k).length := by
  refine (nx_begins (pt_len k).1).2 ⟨fun e => by have := (pt_len k).1; rw [e] at this; simp at this, (pt_len k).1, ?_, Nat.le_refl _, ?_, ?_, ?_⟩
  · unfold pt
    split
    · show sz k = 1
      unfold sz; rw [if_pos (by omega)]
    · split
      · show sz (192 + k / 64) = 2
        unfold sz; rw [if_neg (by omega), if_pos (by omega)]
      · split
        · show sz (224 + k / 4096) = 3
          unfold sz; rw [if_neg (by omega), if_neg (by omega), if_pos (by omega)]
        · show sz (240 + k / 262144) = 4
          unfold sz; rw [if_neg (by omega), if_neg (by omega), if_neg (by omega), if_pos (by omega)]
  · unfold okAt
    rw [if_pos rfl]
    unfold pt
    split
    · intro h; simp at h
    · split
      · intro _
        show (sec (192 + k / 64)).1 ≤ 128 + k % 64 ∧ 128 + k % 64 ≤ (sec (192 + k / 64)).2
        rcases sec_cases (192 + k / 64) with ⟨h, e⟩ | ⟨h, e⟩ | ⟨h, e⟩ | ⟨h, e⟩ | ⟨_, _, _, _, e⟩ <;> rw [e] <;> simp only <;> omega
      · split
        · intro _
          show (sec (224 + k / 4096)).1 ≤ 128 + k / 64 % 64 ∧ 128 + k / 64 % 64 ≤ (sec (224 + k / 4096)).2
          rcases sec_cases (224 + k / 4096) with ⟨h, e⟩ | ⟨h, e⟩ | ⟨h, e⟩ | ⟨h, e⟩ | ⟨_, _, _, _, e⟩ <;> rw [e] <;> simp only <;> omega
        · intro _
          show (sec (240 + k / 262144)).1 ≤ 128 + k / 4096 % 64 ∧ 128 + k / 4096 % 64 ≤ (sec (240 + k / 262144)).2
          rcases sec_cases (240 + k / 262144) with ⟨h, e⟩ | ⟨h, e⟩ | ⟨h, e⟩ | ⟨h, e⟩ | ⟨_, _, _, _, e⟩ <;> rw [e] <;> simp only <;> omega
  · unfold okAt
    rw [if_neg (by decide)]
    unfold pt
    split
    · intro h; simp at h
    · split
      · intro h; simp at h
      · split
        · intro _
          show 128 ≤ 128 + k % 64 ∧ 128 + k % 64 ≤ 191
          omega
        · intro _
          show 128 ≤ 128 + k / 64 % 64 ∧ 128 + k / 64 % 64 ≤ 191
          omega
  · unfold okAt
    rw [if_neg (by decide)]
    unfold pt
    split
    · intro h; simp at h
    · split
      · intro h; simp at h
      · split
        · intro h; simp at h
        · intro _
          show 128 ≤ 128 + k % 64 ∧ 128 + k % 64 ≤ 191
          omega
theorem put_ev {k : Int} (h0 : 0 ≤ k) (h1 : k < 1200000) : Ev (fun r => inkwellref03_Put.f r k) (if k ≤ 1114111 ∧ ¬ (55296 ≤ k ∧ k ≤ 57343) then strOfNums (pt k) else strOfNums []) := by
  have j : ∀ c : Bool, c = decide (¬ (k ≤ 1114111 ∧ ¬ (55296 ≤ k ∧ k ≤ 57343))) → Ev (fun r => inkwellref03_Put.j0 r k c) (if k ≤ 1114111 ∧ ¬ (55296 ≤ k ∧ k ≤ 57343) then strOfNums (pt k) else strOfNums []) := by
    intro c hc
    by_cases hb : k ≤ 1114111 ∧ ¬ (55296 ≤ k ∧ k ≤ 57343)
    · rw [if_pos hb]
      rw [decide_eq_false (by simpa using hb)] at hc
      subst hc
      refine Ev.step (f := fun _ => some (strOfNums (pt k))) (fun r => ?_) (Ev.now _)
      simp only [inkwellref03_Put.j0]
      rw [if_neg (by simp)]
      unfold pt
      split
      · rw [Int.emod_eq_of_lt (by omega) (by omega)]
      · split
        · rw [tdivp h0, tmodp h0, w64 (n := k / 64) (by omega) (by omega), w64 (by omega) (by omega), w64 (by omega) (by omega), Int.emod_eq_of_lt (by omega) (by omega), Int.emod_eq_of_lt (by omega) (by omega)]
        · split
          · rw [tdivp h0, tdivp h0, tmodp h0, w64 (n := k / 4096) (by omega) (by omega), w64 (n := k / 64) (by omega) (by omega), tmodp (by omega), w64 (n := 224 + k / 4096) (by omega) (by omega), w64 (n := 128 + k / 64 % 64) (by omega) (by omega), w64 (n := 128 + k % 64) (by omega) (by omega), Int.emod_eq_of_lt (a := 224 + k / 4096) (by omega) (by omega), Int.emod_eq_of_lt (a := 128 + k / 64 % 64) (by omega) (by omega), Int.emod_eq_of_lt (a := 128 + k % 64) (by omega) (by omega)]
          · rw [tdivp h0, tdivp h0, tdivp h0, tmodp h0, w64 (n := k / 262144) (by omega) (by omega), w64 (n := k / 4096) (by omega) (by omega), w64 (n := k / 64) (by omega) (by omega), tmodp (x := k / 4096) (by omega), tmodp (x := k / 64) (by omega),
              w64 (n := 240 + k / 262144) (by omega) (by omega), w64 (n := 128 + k / 4096 % 64) (by omega) (by omega), w64 (n := 128 + k / 64 % 64) (by omega) (by omega), w64 (n := 128 + k % 64) (by omega) (by omega),
              Int.emod_eq_of_lt (a := 240 + k / 262144) (by omega) (by omega), Int.emod_eq_of_lt (a := 128 + k / 4096 % 64) (by omega) (by omega), Int.emod_eq_of_lt (a := 128 + k / 64 % 64) (by omega) (by omega), Int.emod_eq_of_lt (a := 128 + k % 64) (by omega) (by omega)]
    · rw [if_neg hb]
      rw [decide_eq_true hb] at hc
      subst hc
      exact Ev.step (f := fun _ => some (strOfNums [])) (fun r => by simp only [inkwellref03_Put.j0, if_true]; rfl) (Ev.now _)
  unfold inkwellref03_Put.f
  refine Ev.neg (by omega) ?_
  by_cases a : k > 1114111
  · exact Ev.pos a (j true (by rw [eq_comm, decide_eq_true_eq]; omega))
  · refine Ev.neg a ?_
    by_cases b : k ≥ 55296
    · exact Ev.pos b (j _ (by rw [decide_eq_decide]; omega))
    · exact Ev.neg b (j false (by rw [eq_comm, decide_eq_false_iff_not]; omega))
/-- The document's bytes of any number; none, if it is no character's. -/
def pv (n : Int) : List Int := if 0 ≤ n ∧ n ≤ 1114111 ∧ ¬ (55296 ≤ n ∧ n ≤ 57343) then pt n else []
theorem pv_bytes (n : Int) : Bs (pv n) := by
  unfold pv; split
  · rename_i h; exact pt_bytes h.1 h.2.1
  · exact Bs.nil
theorem putv_ev {n : Int} (h0 : -1000000000 < n) (h1 : n < 1000000000) : Ev (fun r => inkwellref03_Put.f r n) (strOfNums (pv n)) := by
  by_cases hr : 0 ≤ n ∧ n < 1200000
  · have := put_ev hr.1 hr.2
    unfold pv
    by_cases hb : n ≤ 1114111 ∧ ¬ (55296 ≤ n ∧ n ≤ 57343)
    · rw [if_pos hb] at this
      rw [if_pos ⟨hr.1, hb⟩]
      exact this
    · rw [if_neg hb] at this
      rw [if_neg (fun h => hb h.2)]
      exact this
  · have hv : pv n = [] := by unfold pv; rw [if_neg (by omega)]
    rw [hv]
    have j : Ev (fun r => inkwellref03_Put.j0 r n true) (strOfNums []) := Ev.step (f := fun _ => some (strOfNums [])) (fun r => by simp only [inkwellref03_Put.j0, if_true]; rfl) (Ev.now _)
    unfold inkwellref03_Put.f
    by_cases hn : n < 0
    · exact Ev.pos hn j
    · exact Ev.neg hn (Ev.pos (by omega) j)
theorem list_bytes {a b : ByteArray} : a.toList = b.toList ↔ bytesOf a = bytesOf b := by
  rw [ByteArray.toList_eq, ByteArray.toList_eq]
  unfold bytesOf
  constructor
  · intro h; rw [h]
  · intro h
    have hinj : Function.Injective (fun b : UInt8 => (b.toNat : Int)) := by
      intro x y e
      have e' : x.toNat = y.toNat := Int.ofNat.inj e
      exact UInt8.toNat_inj.1 e'
    exact (List.map_inj_right hinj).1 h
/-- The number that the first i bytes would tell. -/
def num (l : List Int) (i : Nat) : Int :=
  if i = 1 then rd l 0 else if i = 2 then (rd l 0 - 192) * 64 + rd l 1 - 128
  else if i = 3 then ((rd l 0 - 224) * 64 + rd l 1 - 128) * 64 + rd l 2 - 128
  else (((rd l 0 - 240) * 64 + rd l 1 - 128) * 64 + rd l 2 - 128) * 64 + rd l 3 - 128
theorem sz_inv {b : Int} : (sz b = 1 → b < 128) ∧ (sz b = 2 → 194 ≤ b ∧ b < 224) ∧ (sz b = 3 → 224 ≤ b ∧ b < 240) ∧ (sz b = 4 → 240 ≤ b ∧ b < 245) := by
  unfold sz
  by_cases a1 : b < 128
  · rw [if_pos a1]; exact ⟨fun _ => a1, fun h => by omega, fun h => by omega, fun h => by omega⟩
  · rw [if_neg a1]
    by_cases a2 : 194 ≤ b ∧ b < 224
    · rw [if_pos a2]; exact ⟨fun h => by omega, fun _ => a2, fun h => by omega, fun h => by omega⟩
    · rw [if_neg a2]
      by_cases a3 : 224 ≤ b ∧ b < 240
      · rw [if_pos a3]; exact ⟨fun h => by omega, fun h => by omega, fun _ => a3, fun h => by omega⟩
      · rw [if_neg a3]
        by_cases a4 : 240 ≤ b ∧ b < 245
        · rw [if_pos a4]; exact ⟨fun h => by omega, fun h => by omega, fun h => by omega, fun _ => a4⟩
        · rw [if_neg a4]; exact ⟨fun h => by omega, fun h => by omega, fun h => by omega, fun h => by omega⟩
theorem num_match {l : List Int} {i : Nat} (hb : Bs l) (h1 : 1 ≤ i) (h4 : i ≤ 4) (hl : i ≤ l.length) : pv (num l i) = l.take i ↔ nx l = i := by
  constructor
  · intro h
    have hlen : (l.take i).length = i := by rw [List.length_take]; omega
    have hv : 0 ≤ num l i ∧ num l i ≤ 1114111 ∧ ¬ (55296 ≤ num l i ∧ num l i ≤ 57343) := by
      refine Classical.byContradiction fun hn => ?_
      unfold pv at h
      rw [if_neg hn] at h
      rw [← h] at hlen
      simp at hlen
      omega
    unfold pv at h
    rw [if_pos hv] at h
    have hn := pt_nx hv.1 hv.2.1 hv.2.2
    rw [h, hlen] at hn
    have := nx_append (l := l.take i) (r := l.drop i) (by omega)
    rw [List.take_append_drop] at this
    omega
  · intro h
    obtain ⟨hne, _, hs, _, o1, o2, o3⟩ := (nx_begins (by omega : 0 < i)).1 h
    have hi : i = 1 ∨ i = 2 ∨ i = 3 ∨ i = 4 := by omega
    have hz := @sz_inv (rd l 0)
    rcases hi with rfl | rfl | rfl | rfl
    · match l, hl with
      | x :: r, _ =>
        have hx := hb x (by simp)
        have a := hz.1 hs
        have ex : rd (x :: r) 0 = x := rfl
        rw [ex] at a
        unfold num pv pt
        rw [if_pos rfl, ex, if_pos (by omega), if_pos a]
        rfl
    · match l, hl with
      | x :: y :: r, _ =>
        have a := hz.2.1 hs
        have o := o1 (by omega)
        have ex : rd (x :: y :: r) 0 = x := rfl
        have ey : rd (x :: y :: r) 1 = y := rfl
        unfold okAt at o
        rw [if_pos rfl, ex, ey] at o
        rw [ex] at a
        have e : num (x :: y :: r) 2 = (x - 192) * 64 + y - 128 := rfl
        rw [e]
        have go : 128 ≤ y ∧ y ≤ 191 := by
          rcases sec_cases x with ⟨h, e⟩ | ⟨h, e⟩ | ⟨h, e⟩ | ⟨h, e⟩ | ⟨_, _, _, _, e⟩ <;> rw [e] at o <;> simp only at o <;> omega
        unfold pv pt
        rw [if_pos (by omega), if_neg (by omega), if_pos (by omega), show 192 + ((x - 192) * 64 + y - 128) / 64 = x by omega, show 128 + ((x - 192) * 64 + y - 128) % 64 = y by omega]
        rfl
    · match l, hl with
      | x :: y :: z :: r, _ =>
        have a := hz.2.2.1 hs
        have o := o1 (by omega)
        have p := o2 (by omega)
        have ex : rd (x :: y :: z :: r) 0 = x := rfl
        have ey : rd (x :: y :: z :: r) 1 = y := rfl
        have ez : rd (x :: y :: z :: r) ((2 : Nat) : Int) = z := rfl
        unfold okAt at o p
        rw [if_pos rfl, ex, ey] at o
        rw [if_neg (by decide), ez] at p
        rw [ex] at a
        have e : num (x :: y :: z :: r) 3 = ((x - 224) * 64 + y - 128) * 64 + z - 128 := rfl
        rw [e]
        have go : 2048 ≤ ((x - 224) * 64 + y - 128) * 64 + z - 128 ∧ ((x - 224) * 64 + y - 128) * 64 + z - 128 < 65536 ∧ ¬ (55296 ≤ ((x - 224) * 64 + y - 128) * 64 + z - 128 ∧ ((x - 224) * 64 + y - 128) * 64 + z - 128 ≤ 57343) ∧ 128 ≤ y ∧ y ≤ 191 := by
          rcases sec_cases x with ⟨h, e⟩ | ⟨h, e⟩ | ⟨h, e⟩ | ⟨h, e⟩ | ⟨_, _, _, _, e⟩ <;> rw [e] at o <;> simp only at o <;> omega
        unfold pv pt
        rw [if_pos (by omega), if_neg (by omega), if_neg (by omega), if_pos (by omega), show 224 + (((x - 224) * 64 + y - 128) * 64 + z - 128) / 4096 = x by omega, show 128 + (((x - 224) * 64 + y - 128) * 64 + z - 128) / 64 % 64 = y by omega, show 128 + (((x - 224) * 64 + y - 128) * 64 + z - 128) % 64 = z by omega]
        rfl
    · match l, hl with
      | x :: y :: z :: u :: r, _ =>
        have a := hz.2.2.2 hs
        have o := o1 (by omega)
        have p := o2 (by omega)
        have q := o3 (by omega)
        have ex : rd (x :: y :: z :: u :: r) 0 = x := rfl
        have ey : rd (x :: y :: z :: u :: r) 1 = y := rfl
        have ez : rd (x :: y :: z :: u :: r) ((2 : Nat) : Int) = z := rfl
        have eu : rd (x :: y :: z :: u :: r) ((3 : Nat) : Int) = u := rfl
        unfold okAt at o p q
        rw [if_pos rfl, ex, ey] at o
        rw [if_neg (by decide), ez] at p
        rw [if_neg (by decide), eu] at q
        rw [ex] at a
        have e : num (x :: y :: z :: u :: r) 4 = (((x - 240) * 64 + y - 128) * 64 + z - 128) * 64 + u - 128 := rfl
        rw [e]
        have go : 65536 ≤ (((x - 240) * 64 + y - 128) * 64 + z - 128) * 64 + u - 128 ∧ (((x - 240) * 64 + y - 128) * 64 + z - 128) * 64 + u - 128 ≤ 1114111 ∧ 128 ≤ y ∧ y ≤ 191 := by
          rcases sec_cases x with ⟨h, e⟩ | ⟨h, e⟩ | ⟨h, e⟩ | ⟨h, e⟩ | ⟨_, _, _, _, e⟩ <;> rw [e] at o <;> simp only at o <;> omega
        unfold pv pt
        rw [if_pos (by omega), if_neg (by omega), if_neg (by omega), if_neg (by omega), show 240 + ((((x - 240) * 64 + y - 128) * 64 + z - 128) * 64 + u - 128) / 262144 = x by omega, show 128 + ((((x - 240) * 64 + y - 128) * 64 + z - 128) * 64 + u - 128) / 4096 % 64 = y by omega, show 128 + ((((x - 240) * 64 + y - 128) * 64 + z - 128) * 64 + u - 128) / 64 % 64 = z by omega, show 128 + ((((x - 240) * 64 + y - 128) * 64 + z - 128) * 64 + u - 128) % 64 = u by omega]
        rfl
theorem rd_bound {l : List Int} (hb : Bs l) (i : Int) : 0 ≤ rd l i ∧ rd l i < 256 := by
  unfold rd
  rw [List.getD_eq_getElem?_getD]
  cases h : l[i.toNat]? with
  | none => simp
  | some x => exact hb x (List.mem_of_getElem? h)
/-- Behind the number's last byte: it is put, and compared. -/
theorem next_l1_end (s : ByteArray) (i : Nat) (hi : 1 ≤ i) (hs : i ≤ s.size) (hS : s.size ≤ 9223372036854775806) (v r : Int) (hv : -1000000000 < v ∧ v < 1000000000) (h : (pv v = (bytesOf s).take i ∧ r = (i : Int)) ∨ (¬ pv v = (bytesOf s).take i ∧ Ev (fun k => inkwellref03_Next.l0 k s ((i + 1 : Nat) : Int)) r)) :
    Ev (fun k => inkwellref03_Next.l1 k s (i : Int) v (i : Int)) r := by
  have e1 := bytesOf_take s i
  refine Ev.step (fun k => by simp only [inkwellref03_Next.l1]; rw [if_neg (by omega)]) (Ev.bind (putv_ev hv.1 hv.2) ?_)
  rw [Int.toNat_natCast]
  refine Ev.pos (by omega) (Ev.pos (by omega) ?_)
  rcases h with ⟨hm, hr⟩ | ⟨hm, hr⟩
  · exact Ev.pos (list_bytes.2 (by rw [bytesOf_str (pv_bytes v), e1, hm])) (Ev.pos (by omega) (Ev.some' hr.symm))
  · refine Ev.neg (fun x => hm (by rw [← bytesOf_str (pv_bytes v), list_bytes.1 x, e1])) ?_
    rw [w64 (by omega) (by omega)]
    exact hr
theorem next_l1_step (s : ByteArray) (hS : s.size ≤ 9223372036854775806) (i j : Nat) (hj : j < i) (hi : i ≤ s.size) (v : Int) (hv : -100000000 < v ∧ v < 100000000) (r : Int) (h : Ev (fun k => inkwellref03_Next.l1 k s (i : Int) (v * 64 + rd (bytesOf s) j - 128) ((j + 1 : Nat) : Int)) r) :
    Ev (fun k => inkwellref03_Next.l1 k s (i : Int) v (j : Int)) r := by
  have hb := rd_bound (bytesOf_bytes s) (j : Int)
  refine Ev.step (fun k => ?_) h
  simp only [inkwellref03_Next.l1]
  rw [if_pos (by omega), if_pos (by omega), if_pos (by omega), bt_rd, w64 (n := v * 64) (by omega) (by omega), w64 (n := rd (bytesOf s) (j : Int)) (by omega) (by omega), w64 (n := v * 64 + rd (bytesOf s) (j : Int)) (by omega) (by omega), w64 (by omega) (by omega), w64 (by omega) (by omega)]
  rfl
theorem next_j (s : ByteArray) (hS : s.size ≤ 9223372036854775806) (i : Nat) (h1 : 1 ≤ i) (h4 : i ≤ 4) (hl : i ≤ s.size) (r : Int) (h : (pv (num (bytesOf s) i) = (bytesOf s).take i ∧ r = (i : Int)) ∨ (¬ pv (num (bytesOf s) i) = (bytesOf s).take i ∧ Ev (fun k => inkwellref03_Next.l0 k s ((i + 1 : Nat) : Int)) r)) :
    Ev (fun k => inkwellref03_Next.l0 k s (i : Int)) r := by
  have b0 := rd_bound (bytesOf_bytes s) 0
  have b1 := rd_bound (bytesOf_bytes s) 1
  have b2 := rd_bound (bytesOf_bytes s) 2
  have b3 := rd_bound (bytesOf_bytes s) 3
  have start : ∀ v : Int, (if i = 2 then rd (bytesOf s) 0 - 192 else if i = 3 then rd (bytesOf s) 0 - 224 else if i = 4 then rd (bytesOf s) 0 - 240 else rd (bytesOf s) 0) = v → Ev (fun k => inkwellref03_Next.l1 k s (i : Int) v ((1 : Nat) : Int)) r → Ev (fun k => inkwellref03_Next.l0 k s (i : Int)) r := by
    intro v hv h
    refine Ev.step (fun k => by simp only [inkwellref03_Next.l0]; rw [if_pos (by omega), decide_eq_true (by omega : (i : Int) ≤ (s.size : Int))]) ?_
    have e0 : wrap64 (bt s 0) = rd (bytesOf s) 0 := by rw [bt_rd, w64 (by omega) (by omega)]
    have j4 : ∀ v : Int, Ev (fun k => inkwellref03_Next.l1 k s (i : Int) v ((1 : Nat) : Int)) r → Ev (fun k => inkwellref03_Next.j4 k s (i : Int) v) r := fun v h => Ev.step (fun k => by simp only [inkwellref03_Next.j4]; rfl) h
    by_cases c2 : i = 2
    · rw [if_pos c2] at hv
      refine Ev.step (fun k => by simp only [inkwellref03_Next.j1]; rw [if_pos trivial, if_pos (by omega), if_pos (by omega), e0, w64 (by omega) (by omega)]) ?_
      refine Ev.step (fun k => by simp only [inkwellref03_Next.j2]; rw [if_neg (by omega)]) ?_
      refine Ev.step (fun k => by simp only [inkwellref03_Next.j3]; rw [if_neg (by omega)]) (j4 _ ?_)
      rw [hv]; exact h
    · rw [if_neg c2] at hv
      refine Ev.step (fun k => by simp only [inkwellref03_Next.j1]; rw [if_pos trivial, if_pos (by omega), if_neg (by omega), e0]) ?_
      by_cases c3 : i = 3
      · rw [if_pos c3] at hv
        refine Ev.step (fun k => by simp only [inkwellref03_Next.j2]; rw [if_pos (by omega), w64 (by omega) (by omega)]) ?_
        refine Ev.step (fun k => by simp only [inkwellref03_Next.j3]; rw [if_neg (by omega)]) (j4 _ ?_)
        rw [hv]; exact h
      · rw [if_neg c3] at hv
        refine Ev.step (fun k => by simp only [inkwellref03_Next.j2]; rw [if_neg (by omega)]) ?_
        by_cases c4 : i = 4
        · rw [if_pos c4] at hv
          refine Ev.step (fun k => by simp only [inkwellref03_Next.j3]; rw [if_pos (by omega), w64 (by omega) (by omega)]) (j4 _ ?_)
          rw [hv]; exact h
        · rw [if_neg c4] at hv
          refine Ev.step (fun k => by simp only [inkwellref03_Next.j3]; rw [if_neg (by omega)]) (j4 _ ?_)
          rw [hv]; exact h
  have hi : i = 1 ∨ i = 2 ∨ i = 3 ∨ i = 4 := by omega
  rcases hi with rfl | rfl | rfl | rfl
  · refine start (rd (bytesOf s) 0) rfl (next_l1_end s 1 h1 hl hS _ r (by omega) h)
  · refine start (rd (bytesOf s) 0 - 192) rfl (next_l1_step s hS 2 1 (by omega) hl _ (by omega) r ?_)
    exact next_l1_end s 2 h1 hl hS _ r (by have : rd (bytesOf s) ((1 : Nat) : Int) = rd (bytesOf s) 1 := rfl; omega) h
  · refine start (rd (bytesOf s) 0 - 224) rfl (next_l1_step s hS 3 1 (by omega) hl _ (by omega) r (next_l1_step s hS 3 2 (by omega) hl _ (by have : rd (bytesOf s) ((1 : Nat) : Int) = rd (bytesOf s) 1 := rfl; omega) r ?_))
    exact next_l1_end s 3 h1 hl hS _ r (by have : rd (bytesOf s) ((1 : Nat) : Int) = rd (bytesOf s) 1 := rfl; have : rd (bytesOf s) ((2 : Nat) : Int) = rd (bytesOf s) 2 := rfl; omega) h
  · refine start (rd (bytesOf s) 0 - 240) rfl (next_l1_step s hS 4 1 (by omega) hl _ (by omega) r (next_l1_step s hS 4 2 (by omega) hl _ (by have : rd (bytesOf s) ((1 : Nat) : Int) = rd (bytesOf s) 1 := rfl; omega) r (next_l1_step s hS 4 3 (by omega) hl _ (by have : rd (bytesOf s) ((1 : Nat) : Int) = rd (bytesOf s) 1 := rfl; have : rd (bytesOf s) ((2 : Nat) : Int) = rd (bytesOf s) 2 := rfl; omega) r ?_)))
    exact next_l1_end s 4 h1 hl hS _ r (by have : rd (bytesOf s) ((1 : Nat) : Int) = rd (bytesOf s) 1 := rfl; have : rd (bytesOf s) ((2 : Nat) : Int) = rd (bytesOf s) 2 := rfl; have : rd (bytesOf s) ((3 : Nat) : Int) = rd (bytesOf s) 3 := rfl; omega) h
theorem refnext_l0 (s : ByteArray) (hS : s.size ≤ 9223372036854775806) (d : Nat) : ∀ i : Nat, 1 ≤ i → i ≤ 5 → 5 - i = d → (nx (bytesOf s) = 0 ∨ i ≤ nx (bytesOf s)) → Ev (fun k => inkwellref03_Next.l0 k s (i : Int)) ((nx (bytesOf s) : Nat) : Int) := by
  have hn4 := nx_four (bytesOf s)
  have hnl := nx_le (bytesOf s)
  rw [bytesOf_length] at hnl
  have stop : ∀ i : Nat, ¬ ((i : Int) ≤ 4 ∧ (i : Int) ≤ (s.size : Int)) → nx (bytesOf s) = 0 → Ev (fun k => inkwellref03_Next.l0 k s (i : Int)) ((nx (bytesOf s) : Nat) : Int) := by
    intro i hi h0
    rw [h0]
    have j : Ev (fun k => inkwellref03_Next.j1 k s (i : Int) false) 0 := Ev.step (f := fun _ => some 0) (fun k => by simp only [inkwellref03_Next.j1]; rw [if_neg (by simp)]) (Ev.now _)
    refine Ev.step (fun k => ?_) j
    simp only [inkwellref03_Next.l0]
    by_cases c : (i : Int) ≤ 4
    · rw [if_pos c, decide_eq_false (fun h => hi ⟨c, h⟩)]
    · rw [if_neg c]
  induction d with
  | zero =>
    intro i h1 h5 hd hn
    exact stop i (by omega) (by omega)
  | succ d ih =>
    intro i h1 h5 hd hn
    by_cases hl : i ≤ s.size
    · refine next_j s hS i h1 (by omega) hl _ ?_
      have hm := num_match (bytesOf_bytes s) h1 (by omega) (by rw [bytesOf_length]; exact hl)
      by_cases hx : nx (bytesOf s) = i
      · exact .inl ⟨hm.2 hx, by rw [hx]⟩
      · exact .inr ⟨fun h => hx (hm.1 h), ih (i + 1) (by omega) (by omega) (by omega) (by omega)⟩
    · exact stop i (by omega) (by omega)
theorem refnext_ev (s : ByteArray) (hS : s.size ≤ 9223372036854775806) : Ev (fun k => inkwellref03_Next.f k s) ((nx (bytesOf s) : Nat) : Int) :=
  Ev.congr (fun _ => rfl) (refnext_l0 s hS 4 1 (by omega) (by omega) rfl (by omega))
theorem awake_any (w : World) : Calls Try.prog 8 #[] w (Ret (Is (.bool true)) w) := by
  obtain ⟨k, h⟩ := awake_ev.rounds
  exact (inkwelllaw03_awake.calls k true w h).mono fun _ _ ⟨he, hb⟩ => ⟨_, he, rfl, hb⟩
theorem next_any (s : ByteArray) (hs : s.size ≤ 9223372036854775806) (w : World) : Calls Try.prog 10 #[.string s] w (Ret (Is (.int .i64 ((nx (bytesOf s) : Nat) : Int))) w) := by
  obtain ⟨k, h⟩ := (next_ev s (by omega)).rounds
  exact (utf_Next.calls k s _ w h).mono fun _ _ ⟨he, hd⟩ => ⟨_, he, rfl, hd.below⟩
theorem where_any (s : ByteArray) (hs : s.size ≤ 9223372036854775806) (w : World) : Calls Try.prog 12 #[.string s] w (Ret (Is (.int .i64 ((wh (bytesOf s) : Nat) : Int))) w) := by
  obtain ⟨k, h⟩ := (where_ev s (by omega)).rounds
  exact (utf_Where.calls k s _ w h).mono fun _ _ ⟨he, hd⟩ => ⟨_, he, rfl, hd.below⟩
theorem valid_any (A : Option Addr) (c : Nat) (l : List ByteArray) (w : World) (hC : Kd.C Kd.string w A l.length l) (hc : l.length ≤ c) (hl : l.length ≤ 1000000000) (hs : ∀ s ∈ l, s.size ≤ 9223372036854775806) : Calls Try.prog 13 #[.slice A l.length c] w (Ret (Is (.bool (l.all good))) w) := by
  obtain ⟨k, h⟩ := (valid_ev l hl (fun s h => by have := hs s h; omega)).rounds
  exact (utf_Valid.calls k A c l _ w hC hc h).mono fun _ _ ⟨he, hd⟩ => ⟨_, he, rfl, hd.below⟩
theorem refnext_any (s : ByteArray) (hs : s.size ≤ 9223372036854775806) (w : World) : Calls Try.prog 11 #[.string s] w (Ret (Is (.int .i64 ((nx (bytesOf s) : Nat) : Int))) w) := by
  obtain ⟨k, h⟩ := (refnext_ev s hs).rounds
  exact (inkwellref03_Next.calls k s _ w h).mono fun _ _ ⟨he, hb⟩ => ⟨_, he, rfl, hb⟩
theorem extract_size (s : ByteArray) (i : Nat) : (s.extract i s.size).size ≤ s.size := by
  have := bytesOf_length (s.extract i s.size)
  rw [bytesOf_drop, List.length_drop, bytesOf_length] at this
  omega
set_option maxHeartbeats 4000000 in
set_option maxRecDepth 100000 in
theorem refwhere_any (s : ByteArray) (hs : s.size ≤ 140737488355328) (w : World) : Calls Try.prog 9 #[.string s] w fun e w' => e = .returned (.int .i64 ((wh (bytesOf s) : Nat) : Int)) ∧ Below w.heap.size w w' := by
  go_enter Try.func9, Try.ntmps9
  go_wp2_with (fail)
  go_loopg [3] s.size (fun kq v3 w' => ∃ i : Nat, v3 = .int .i64 i ∧ i ≤ s.size ∧ Aside0 (s.size ≤ kq + i) ∧ Aside0 (wh (bytesOf s) = i + wh ((bytesOf s).drop i)) ∧ Aside0 (Below w.heap.size w w'))
  case atStart => exact ⟨0, rfl, Nat.zero_le _, ⟨by omega⟩, ⟨by rw [List.drop_zero, Nat.zero_add]⟩, ⟨Below.refl _ _⟩⟩
  case round =>
    obtain ⟨i, rfl, hi, hki, hwh, B1⟩ := hrel
    by_cases hlt : i < s.size
    · have hxs := Aside0.mk (extract_size s i)
      have hnle := nx_le ((bytesOf s).drop i)
      rw [List.length_drop, bytesOf_length] at hnle
      have hnx : nx (bytesOf (s.extract i s.size)) = nx ((bytesOf s).drop i) := by rw [bytesOf_drop]
      have HNX := Aside0.mk hnx
      have HGo := Aside0.mk (@wh_go ((bytesOf s).drop i))
      have HSt := Aside0.mk (@wh_stop ((bytesOf s).drop i))
      have HDD := Aside0.mk (show ∀ j, ((bytesOf s).drop i).drop j = (bytesOf s).drop (i + j) from fun j => List.drop_drop ..)
      generalize hn : nx ((bytesOf s).drop i) = n at *
      clear hnx
      by_cases h0 : n = 0
      · have HW := Aside0.mk (show wh (bytesOf s) = i by rw [hwh.out, HSt.out (by omega)]; rfl)
        go_wp2_with (fail)
        go_at_call 11; refine (refnext_any (s.extract i s.size) (by have := hxs.out; omega) _).mono ?_; rintro e w1 ⟨v, rfl, rfl, hb1⟩
        rw [HNX.out]
        have B2 := Aside0.mk (below_step B1.out hb1); clear hb1
        have hd : decide (0 < (n : Int)) = false := decide_eq_false (by omega)
        go_wp2_with (fail)
        rw [HW.out]
        go_ret
        exact ⟨rfl, B2.out⟩
      · have HW := Aside0.mk (show wh (bytesOf s) = (i + n) + wh ((bytesOf s).drop (i + n)) by rw [hwh.out, HGo.out (by omega), HDD.out]; omega)
        have hd : decide (0 < (n : Int)) = true := decide_eq_true (by omega)
        go_wp2_with (fail)
        go_at_call 11; refine (refnext_any (s.extract i s.size) (by have := hxs.out; omega) _).mono ?_; rintro e w1 ⟨v, rfl, rfl, hb1⟩
        rw [HNX.out]
        have B2 := Aside0.mk (below_step B1.out hb1); clear hb1
        go_wp2_with (fail)
        go_at_call 11; refine (refnext_any (s.extract i s.size) (by have := hxs.out; omega) _).mono ?_; rintro e w2 ⟨v, rfl, rfl, hb2⟩
        rw [HNX.out]
        have B3 := Aside0.mk (below_step B2.out hb2); clear hb2
        go_wp2_with (fail)
        go_roundg (gk - 1)
        case measure => have := hki.out; omega
        case rel => exact ⟨i + n, by go_num, by omega, ⟨by have := hki.out; omega⟩, HW, B3⟩
    · have HW := Aside0.mk (show wh (bytesOf s) = i by rw [hwh.out, List.drop_of_length_le (by rw [bytesOf_length]; omega), wh_nil]; rfl)
      go_wp2_with (fail)
      rw [HW.out]
      go_ret
      exact ⟨rfl, B1.out⟩
theorem refwhere_ret (s : ByteArray) (hs : s.size ≤ 140737488355328) (w : World) : Calls Try.prog 9 #[.string s] w (Ret (Is (.int .i64 ((wh (bytesOf s) : Nat) : Int))) w) :=
  (refwhere_any s hs w).mono fun _ _ ⟨he, hb⟩ => ⟨_, he, rfl, hb⟩
set_option maxHeartbeats 8000000 in
set_option maxRecDepth 100000 in
theorem UtfPlays_long (s t : ByteArray) (hs : s.size ≤ 140737488351232) (ht : t.size ≤ 140737488351232) (w : World) (h : 2000 < s.size ∨ 2000 < t.size) :
    Calls Try.prog 3 #[.string s, .string t] w fun e w' => e = .returned (.bool true) ∧ Below w.heap.size w w' := by
  by_cases h1 : 2000 < s.size
  · have h1' : decide (2000 < (s.size : Int)) = true := decide_eq_true (by omega)
    clear h
    go_enter Try.func3, Try.ntmps3
    go_wp2_with (fail)
    go_at_call 8; refine (awake_any _).mono ?_; rintro e w1 ⟨v, rfl, rfl, hb1⟩
    have B1 := Aside0.mk hb1; clear hb1
    go_wp2_with (fail)
    go_at_call 8; refine (awake_any _).mono ?_; rintro e w2 ⟨v, rfl, rfl, hb2⟩
    have B2 := Aside0.mk (below_step B1.out hb2); clear hb2
    go_wp2_with (fail)
    go_ret
    exact ⟨rfl, B2.out⟩
  · have h1' : decide (2000 < (s.size : Int)) = false := decide_eq_false (by omega)
    have h2' : decide (2000 < (t.size : Int)) = true := decide_eq_true (by omega)
    clear h
    go_enter Try.func3, Try.ntmps3
    go_wp2_with (fail)
    go_at_call 8; refine (awake_any _).mono ?_; rintro e w1 ⟨v, rfl, rfl, hb1⟩
    have B1 := Aside0.mk hb1; clear hb1
    go_wp2_with (fail)
    go_at_call 8; refine (awake_any _).mono ?_; rintro e w2 ⟨v, rfl, rfl, hb2⟩
    have B2 := Aside0.mk (below_step B1.out hb2); clear hb2
    go_wp2_with (fail)
    go_ret
    exact ⟨rfl, B2.out⟩
set_option maxHeartbeats 8000000 in
set_option maxRecDepth 100000 in
theorem UtfPlays_short (s t : ByteArray) (hs : s.size ≤ 2000) (ht : t.size ≤ 2000) (w : World) :
    Calls Try.prog 3 #[.string s, .string t] w fun e w' => e = .returned (.bool true) ∧ Below w.heap.size w w' := by
  have h1' : decide (2000 < (s.size : Int)) = false := decide_eq_false (by omega)
  have h2' : decide (2000 < (t.size : Int)) = false := decide_eq_false (by omega)
  have HS := Aside0.mk hs
  have HT := Aside0.mk ht
  obtain ⟨ga, hga⟩ : ∃ b, good s = b := ⟨_, rfl⟩
  obtain ⟨gb, hgb⟩ : ∃ b, good t = b := ⟨_, rfl⟩
  have ea : (((wh (bytesOf s) : Nat) : Int) == (s.size : Int)) = ga := by
    rw [← hga]; unfold good; rw [bytesOf_length, Bool.eq_iff_iff]; simp; omega
  have eb : (((wh (bytesOf t) : Nat) : Int) == (t.size : Int)) = gb := by
    rw [← hgb]; unfold good; rw [bytesOf_length, Bool.eq_iff_iff]; simp; omega
  have pa : ((((wh (bytesOf s) : Nat) : Int) = (s.size : Int))) = (ga = true) := by rw [← ea]; simp
  have pb : ((((wh (bytesOf t) : Nat) : Int) = (t.size : Int))) = (gb = true) := by rw [← eb]; simp
  have V1 := Aside0.mk (show [s].all good = ga by simp [hga])
  have V2 := Aside0.mk (show [s, t].all good = (ga && gb) by simp [hga, hgb])
  have Wa := Aside0.mk (wh_le (bytesOf s))
  have Wb := Aside0.mk (wh_le (bytesOf t))
  obtain ⟨a, ha⟩ : ∃ a, wh (bytesOf s) = a := ⟨_, rfl⟩
  obtain ⟨b, hb⟩ : ∃ b, wh (bytesOf t) = b := ⟨_, rfl⟩
  obtain ⟨n, hn⟩ : ∃ n, nx (bytesOf s) = n := ⟨_, rfl⟩
  have HA := Aside0.mk ha
  have HB := Aside0.mk hb
  have HN := Aside0.mk hn
  rw [ha] at ea pa
  rw [hb] at eb pb
  clear hs ht hga hgb ha hb hn
  cases ga <;> cases gb
  all_goals
    simp only [Bool.false_eq_true, eq_iff_iff, iff_false, iff_true] at pa pb
    go_enter Try.func3, Try.ntmps3
    go_wp2_with (fail)
    go_at_call 8; refine (awake_any _).mono ?_; rintro e w1 ⟨v, rfl, rfl, hb1⟩
    have B1 := Aside0.mk hb1; clear hb1
    go_wp2_with (fail)
    go_at_call 9; refine (refwhere_ret s (by have := HS.out; omega) _).mono ?_; rintro e w2 ⟨v, rfl, rfl, hb2⟩
    rw [HA.out]
    have B2 := Aside0.mk (below_step B1.out hb2); clear hb2
    go_wp2_with (fail)
    go_at_call 9; refine (refwhere_ret t (by have := HT.out; omega) _).mono ?_; rintro e w3 ⟨v, rfl, rfl, hb3⟩
    rw [HB.out]
    have B3 := Aside0.mk (below_step B2.out hb3); clear hb3
    go_wp2_with (fail)
    go_at_call 10; refine (next_any s (by have := HS.out; omega) _).mono ?_; rintro e w4 ⟨v, rfl, rfl, hb4⟩
    rw [HN.out]
    have B4 := Aside0.mk (below_step B3.out hb4); clear hb4
    go_wp2_with (fail)
    go_at_call 11; refine (refnext_any s (by have := HS.out; omega) _).mono ?_; rintro e w5 ⟨v, rfl, rfl, hb5⟩
    rw [HN.out]
    have B5 := Aside0.mk (below_step B4.out hb5); clear hb5
    clear B1 B2 B3 B4
    go_wp2_with (fail)
    go_at_call 12; refine (where_any s (by have := HS.out; omega) _).mono ?_; rintro e w6 ⟨v, rfl, rfl, hb6⟩
    rw [HA.out]
    have B6 := Aside0.mk (below_step B5.out hb6); clear hb6
    go_wp2_with (fail)
    go_at_call 13; refine (valid_any _ _ [s] _ (C_new Value.string (h1 := fun _ => rfl) w6 9 [s] (by simp)) (Nat.le_refl _) (by simp) (by have := HS.out; simp; omega)).mono ?_; rintro e w7 ⟨v, rfl, rfl, hb7⟩
    rw [V1.out]
    have B7 := Aside0.mk (below_step (below_alloc B6.out _) hb7); clear hb7
    go_wp2_with (fail)
    go_at_call 13; refine (valid_any _ _ [s, t] _ (C_new Value.string (h1 := fun _ => rfl) w7 9 [s, t] (by simp)) (Nat.le_refl _) (by simp) (by have := HS.out; have := HT.out; simp; omega)).mono ?_; rintro e w8 ⟨v, rfl, rfl, hb8⟩
    rw [V2.out]
    have B8 := Aside0.mk (below_step (below_alloc B7.out _) hb8); clear hb8
    go_wp2_with (fail)
    go_at_call 13; refine (valid_any none 0 [] _ (Kd.C_nil _ _) (Nat.le_refl _) (by simp) (by simp)).mono ?_; rintro e w9 ⟨v, rfl, rfl, hb9⟩
    have B9 := Aside0.mk (below_step B8.out hb9); clear hb9
    go_wp2_with (fail)
    go_ret
    exact ⟨by simp, B9.out⟩
theorem UtfPlays_any (s t : ByteArray) (w : World) (hs : s.size ≤ 140737488351232) (ht : t.size ≤ 140737488351232) :
    Calls Try.prog 3 #[.string s, .string t] w fun e w' => e = .returned (.bool true) ∧ Below w.heap.size w w' := by
  by_cases h : 2000 < s.size ∨ 2000 < t.size
  · exact UtfPlays_long s t hs ht w h
  · exact UtfPlays_short s t (by omega) (by omega) w
end Go.Proofs.Ytiehijephkagbaa.Own
