/- 'UtfFirst': a text begins with a character just if some of it is UTF-8; and so goes on behind it (a text of at most 2000 bytes, beyond which the statement asks nothing but the document's example). No condition. -/
import Derived.Test.YtiehijephkagbaaPUtfFirstx2
import Derived.Test.YtiehijephkagbaaU
import Derived.Test.Ytiehijephkagbaautfmath
namespace Go.Proofs.Ytiehijephkagbaa.Pure
open Go.RowKit Go.Proofs.Ytiehijephkagbaa.PUtfFirst Go.Proofs.YtiehijephkagbaaW.PrintWords Go.Proofs.YtiehijephkagbaaW.PrintLast Go.Proofs.Ytiehijephkagbaa.U
theorem size_ev (b : Int) (h : 0 ≤ b ∧ b ≤ 255) : Ev (fun k => utf_size.f k b) ((sz b : Nat) : Int) := by
  have j1 : ∀ c : Bool, (c = decide (224 ≤ b ∧ b < 240)) → ¬ (194 ≤ b ∧ b < 224) → ¬ b < 128 → Ev (fun k => utf_size.j1 k b c) ((sz b : Nat) : Int) := by
    intro c hc h2 h1
    refine Ev.step (f := fun _ => some ((sz b : Nat) : Int)) (fun k => ?_) (Ev.now _)
    simp only [utf_size.j1]
    subst hc
    unfold sz
    rw [if_neg h1, if_neg h2]
    by_cases h3 : 224 ≤ b ∧ b < 240
    · rw [if_pos (by simpa using h3), if_pos h3]; rfl
    · rw [if_neg (by simpa using h3), if_neg h3]
      by_cases h4 : 240 ≤ b ∧ b < 245
      · rw [if_pos h4.1, if_pos h4.2, if_pos h4]; rfl
      · rw [if_neg h4]
        by_cases h5 : b ≥ 240
        · rw [if_pos h5, if_neg (by omega)]; rfl
        · rw [if_neg h5]; rfl
  have j0 : ∀ c : Bool, (c = decide (194 ≤ b ∧ b < 224)) → ¬ b < 128 → Ev (fun k => utf_size.j0 k b c) ((sz b : Nat) : Int) := by
    intro c hc h1
    by_cases h2 : 194 ≤ b ∧ b < 224
    · refine Ev.step (f := fun _ => some (2 : Int)) (fun k => ?_) (Ev.some' ?_)
      · simp only [utf_size.j0]; rw [if_pos (by rw [hc]; simpa using h2)]
      · unfold sz; rw [if_neg h1, if_pos h2]; rfl
    · by_cases h3 : b ≥ 224
      · refine Ev.step (fun k => ?_) (j1 (decide (b < 240)) (by simp [h3]) h2 h1)
        simp only [utf_size.j0]; rw [if_neg (by rw [hc]; simpa using h2), if_pos h3]
      · refine Ev.step (fun k => ?_) (j1 false (by simp; omega) h2 h1)
        simp only [utf_size.j0]; rw [if_neg (by rw [hc]; simpa using h2), if_neg h3]
  unfold utf_size.f
  by_cases h1 : b < 128
  · refine Ev.congr (fun k => if_pos h1) (Ev.some' ?_)
    unfold sz; rw [if_pos h1]; rfl
  · refine Ev.neg h1 ?_
    by_cases h2 : b ≥ 194
    · exact Ev.pos h2 (j0 _ (by simp [h2]) h1)
    · exact Ev.neg h2 (j0 _ (by simp; omega) h1)
theorem second_eq (b : Int) : utf_second.f b = some (sec b) := by
  unfold utf_second.f sec
  split; rfl; split; rfl; split; rfl; split <;> rfl
theorem next_l0 (s : ByteArray) (hs : s.size ≤ 9223372036854775807) (n : Nat) (hn : n ≤ s.size) (h4 : n ≤ 4) (d : Nat) : ∀ i : Nat, 1 ≤ i → i ≤ n → n - i = d →
    ∀ r : Int, ((∀ j, i ≤ j → j < n → okAt (bytesOf s) j) → r = n) → (¬ (∀ j, i ≤ j → j < n → okAt (bytesOf s) j) → r = 0) → Ev (fun k => utf_Next.l0 k s (n : Int) (i : Int)) r := by
  induction d with
  | zero =>
    intro i h1 hi hd r hr _
    refine Ev.step (f := fun _ => some (n : Int)) (fun k => by simp only [utf_Next.l0]; rw [if_neg (by omega)]) (Ev.some' ?_)
    exact (hr (fun j h1 h2 => by omega)).symm
  | succ d ih =>
    intro i h1 hi hd r hr hr'
    have hsplit : (∀ j, i ≤ j → j < n → okAt (bytesOf s) j) ↔ okAt (bytesOf s) i ∧ ∀ j, i + 1 ≤ j → j < n → okAt (bytesOf s) j :=
      ⟨fun h => ⟨h i (Nat.le_refl _) (by omega), fun j hj => h j (by omega)⟩, fun h j hj hjn => by
        by_cases e : i = j
        · subst e; exact h.1
        · exact h.2 j (by omega) hjn⟩
    by_cases hok : okAt (bytesOf s) i
    · have := ih (i + 1) (by omega) (by omega) (by omega) r (fun h => hr (hsplit.2 ⟨hok, h⟩)) (fun h => hr' fun h' => h (hsplit.1 h').2)
      refine Ev.step (fun k => ?_) this
      simp only [utf_Next.l0]
      unfold okAt at hok
      rw [if_pos (by omega)]
      by_cases e : i = 1
      · subst e
        rw [if_pos rfl] at hok
        rw [if_pos (by omega), if_pos (by omega), second_eq]
        simp only [Option.bind_some]
        rw [if_pos (by omega), if_pos (by omega), bt_rd, bt_rd, if_neg (by have := hok.1; exact Int.not_lt.2 this), if_neg (by have := hok.2; exact Int.not_lt.2 this)]
        rw [w64 (by omega) (by omega)]; rfl
      · rw [if_neg e] at hok
        rw [if_neg (by omega), if_pos (by omega), if_pos (by omega), bt_rd, if_neg (by omega), if_neg (by omega), w64 (by omega) (by omega)]
        rfl
    · rw [hr' (fun h => hok (hsplit.1 h).1)]
      refine Ev.step (f := fun _ => some 0) (fun k => ?_) (Ev.now _)
      simp only [utf_Next.l0]
      unfold okAt at hok
      rw [if_pos (by omega)]
      by_cases e : i = 1
      · subst e
        rw [if_pos rfl] at hok
        rw [if_pos (by omega), if_pos (by omega), second_eq]
        simp only [Option.bind_some]
        rw [if_pos (by omega), if_pos (by omega), bt_rd, bt_rd]
        by_cases hlo : rd (bytesOf s) ((1 : Nat) : Int) < (sec (rd (bytesOf s) 0)).1
        · rw [if_pos hlo]
        · rw [if_neg hlo, if_pos]
          have : ¬ rd (bytesOf s) 1 ≤ (sec (rd (bytesOf s) 0)).2 := fun h => hok ⟨Int.not_lt.1 hlo, h⟩
          exact Int.not_le.1 this
      · rw [if_neg e] at hok
        rw [if_neg (by omega), if_pos (by omega), if_pos (by omega), bt_rd]
        by_cases hlo : rd (bytesOf s) (i : Int) < 128
        · rw [if_pos hlo]
        · rw [if_neg hlo, if_pos (by omega)]
theorem nx_all {l : List Int} (h0 : l ≠ []) (h1 : ¬ (sz (rd l 0) = 0 ∨ l.length < sz (rd l 0))) : ((∀ j, 1 ≤ j → j < sz (rd l 0) → okAt l j) → ((nx l : Nat) : Int) = ((sz (rd l 0) : Nat) : Int)) ∧ (¬ (∀ j, 1 ≤ j → j < sz (rd l 0) → okAt l j) → ((nx l : Nat) : Int) = 0) := by
  have h4 := sz_le (rd l 0)
  unfold nx
  rw [if_neg h0, if_neg h1]
  refine ⟨fun h => ?_, fun h => ?_⟩
  · rw [if_neg (fun x => x.2 (h 1 (by omega) x.1)), if_neg (fun x => x.2 (h 2 (by omega) x.1)), if_neg (fun x => x.2 (h 3 (by omega) x.1))]
  · by_cases a1 : 1 < sz (rd l 0) ∧ ¬ okAt l 1
    · rw [if_pos a1]; rfl
    · rw [if_neg a1]
      by_cases a2 : 2 < sz (rd l 0) ∧ ¬ okAt l 2
      · rw [if_pos a2]; rfl
      · rw [if_neg a2]
        by_cases a3 : 3 < sz (rd l 0) ∧ ¬ okAt l 3
        · rw [if_pos a3]; rfl
        · exfalso
          refine h fun j hj hjn => ?_
          have : j = 1 ∨ j = 2 ∨ j = 3 := by omega
          rcases this with rfl | rfl | rfl
          · exact Classical.not_not.1 fun x => a1 ⟨hjn, x⟩
          · exact Classical.not_not.1 fun x => a2 ⟨hjn, x⟩
          · exact Classical.not_not.1 fun x => a3 ⟨hjn, x⟩
theorem next_ev (s : ByteArray) (hs : s.size ≤ 9223372036854775807) : Ev (fun k => utf_Next.f k s) ((nx (bytesOf s) : Nat) : Int) := by
  unfold utf_Next.f
  by_cases h0 : bytesOf s = []
  · refine Ev.pos (bytesOf_nil.1 h0) (Ev.some' ?_)
    rw [h0]; rfl
  · have hpos : 0 < s.size := by rw [← bytesOf_length]; exact List.length_pos_iff.2 h0
    refine Ev.neg (fun h => h0 (bytesOf_nil.2 h)) (Ev.pos (by omega) (Ev.bind (size_ev _ (bt_range s 0)) ?_))
    rw [bt_rd]
    by_cases h1 : sz (rd (bytesOf s) 0) = 0
    · refine Ev.pos (by omega) (Ev.step (f := fun _ => some 0) (fun k => by simp only [utf_Next.j0, if_true]) (Ev.some' ?_))
      unfold nx; rw [if_neg h0, if_pos (.inl h1)]; rfl
    · refine Ev.neg (by omega) ?_
      by_cases h2 : (bytesOf s).length < sz (rd (bytesOf s) 0)
      · refine Ev.step (f := fun _ => some 0) (fun k => by simp only [utf_Next.j0]; rw [if_pos (by rw [decide_eq_true_eq]; rw [bytesOf_length] at h2; omega)]) (Ev.some' ?_)
        unfold nx; rw [if_neg h0, if_pos (.inr h2)]; rfl
      · have hall := nx_all h0 (by omega : ¬ (sz (rd (bytesOf s) 0) = 0 ∨ (bytesOf s).length < sz (rd (bytesOf s) 0)))
        rw [bytesOf_length] at h2
        refine Ev.step (fun k => ?_) (next_l0 s hs (sz (rd (bytesOf s) 0)) (by omega) (sz_le _) _ 1 (by omega) (by omega) rfl _ hall.1 hall.2)
        simp only [utf_Next.j0]
        rw [if_neg (by rw [decide_eq_true_eq]; omega)]
        rfl
theorem where_l0 (s : ByteArray) (hs : s.size ≤ 9223372036854775807) (d : Nat) : ∀ i : Nat, i ≤ s.size → s.size - i ≤ d → Ev (fun k => utf_Where.l0 k s (i : Int)) ((i + wh ((bytesOf s).drop i) : Nat) : Int) := by
  induction d with
  | zero =>
    intro i hi hd
    refine Ev.step (f := fun _ => some (i : Int)) (fun k => by simp only [utf_Where.l0]; rw [if_neg (by omega)]) (Ev.some' ?_)
    rw [List.drop_of_length_le (by rw [bytesOf_length]; omega), wh_nil, Nat.add_zero]
  | succ d ih =>
    intro i hi hd
    by_cases hlt : i < s.size
    · have hn := next_ev (s.extract i s.size) (by
        have := bytesOf_length (s.extract i s.size)
        rw [bytesOf_drop, List.length_drop, bytesOf_length] at this
        omega)
      rw [bytesOf_drop] at hn
      have hle := nx_le ((bytesOf s).drop i)
      rw [List.length_drop, bytesOf_length] at hle
      by_cases h0 : nx ((bytesOf s).drop i) = 0
      · refine Ev.step (f := fun k => (utf_Next.f k (s.extract i s.size)).bind fun t104 => (if t104 = 0 then (some (i : Int)) else (utf_Where.l0 k s (wrap64 ((i : Int) + t104))))) (fun k => by simp only [utf_Where.l0]; rw [if_pos (by omega), if_pos (by omega), if_pos (by omega)]; rfl) (Ev.bind hn ?_)
        refine Ev.pos (by omega) (Ev.some' ?_)
        rw [wh_stop h0, Nat.add_zero]
      · refine Ev.step (f := fun k => (utf_Next.f k (s.extract i s.size)).bind fun t104 => (if t104 = 0 then (some (i : Int)) else (utf_Where.l0 k s (wrap64 ((i : Int) + t104))))) (fun k => by simp only [utf_Where.l0]; rw [if_pos (by omega), if_pos (by omega), if_pos (by omega)]; rfl) (Ev.bind hn ?_)
        refine Ev.neg (by omega) ?_
        have := ih (i + nx ((bytesOf s).drop i)) (by omega) (by omega)
        rw [w64 (by omega) (by omega), wh_go (by omega), List.drop_drop, ← Nat.add_assoc]
        exact this
    · refine Ev.step (f := fun _ => some (i : Int)) (fun k => by simp only [utf_Where.l0]; rw [if_neg (by omega)]) (Ev.some' ?_)
      rw [List.drop_of_length_le (by rw [bytesOf_length]; omega), wh_nil, Nat.add_zero]
theorem where_ev (s : ByteArray) (hs : s.size ≤ 9223372036854775807) : Ev (fun k => utf_Where.f k s) ((wh (bytesOf s) : Nat) : Int) := by
  have := where_l0 s hs s.size 0 (Nat.zero_le _) (by omega)
  rw [List.drop_zero, Nat.zero_add] at this
  exact this
/-- Is a text UTF-8, all of it? -/
def good (s : ByteArray) : Bool := decide (wh (bytesOf s) = (bytesOf s).length)
theorem valid_l0 (l : List ByteArray) (hl : l.length ≤ 1000000000) (hs : ∀ s ∈ l, s.size ≤ 9223372036854775807) (d : Nat) : ∀ i : Nat, i ≤ l.length → l.length - i = d → Ev (fun k => utf_Valid.l0 k l (l.length : Int) (i : Int)) ((l.drop i).all good) := by
  induction d with
  | zero =>
    intro i hi hd
    refine Ev.step (f := fun _ => some true) (fun k => by simp only [utf_Valid.l0]; rw [if_neg (by omega)]) (Ev.some' ?_)
    rw [List.drop_of_length_le (by omega)]; rfl
  | succ d ih =>
    intro i hi hd
    have hi' : i < l.length := by omega
    have hr : rdOf ByteArray.empty l (i : Int) = l[i] := by simp [rdOf, List.getD_eq_getElem?_getD, List.getElem?_eq_getElem hi']
    have hw := where_ev l[i] (hs _ (List.getElem_mem hi'))
    have := ih (i + 1) (by omega) (by omega)
    refine Ev.step (f := fun k => (utf_Where.f k l[i]).bind fun t106 => (if t106 = (l[i].size : Int) then (utf_Valid.l0 k l (l.length : Int) ((i + 1 : Nat) : Int)) else (some false))) (fun k => by
      simp only [utf_Valid.l0]; rw [if_pos (by omega), if_pos (by omega), if_pos (by omega), hr, w64 (by omega) (by omega)]; rfl) (Ev.bind hw ?_)
    rw [List.drop_eq_getElem_cons hi', List.all_cons]
    by_cases hg : wh (bytesOf l[i]) = (bytesOf l[i]).length
    · rw [show good l[i] = true from decide_eq_true hg, Bool.true_and]
      exact Ev.pos (by rw [hg, bytesOf_length]) this
    · rw [show good l[i] = false from decide_eq_false hg, Bool.false_and]
      exact Ev.neg (by rw [← bytesOf_length]; omega) (Ev.now _)
theorem valid_ev (l : List ByteArray) (hl : l.length ≤ 1000000000) (hs : ∀ s ∈ l, s.size ≤ 9223372036854775807) : Ev (fun k => utf_Valid.f k l) (l.all good) := by
  have := valid_l0 l hl hs l.length 0 (Nat.zero_le _) (by omega)
  rw [List.drop_zero] at this
  exact this
theorem awake_ev : Ev (fun k => inkwelllaw03_awake.f k) true := Ev.of inkwelllaw03_awake.mono (k := 10) (by decide +kernel)
theorem UtfFirst : inkwelllaw03_UtfFirst.Pure := by
  intro s hs
  refine Ev.rounds ?_
  unfold inkwelllaw03_UtfFirst.f
  refine Ev.bind awake_ev (Ev.pos rfl ?_)
  by_cases h1 : (s.size : Int) > 2000
  · rw [decide_eq_true h1]
    exact Ev.step (f := fun k => (inkwelllaw03_awake.f k).bind fun t114 => (some t114)) (fun k => by simp only [inkwelllaw03_UtfFirst.j0, if_true]) (Ev.bind awake_ev (Ev.now true))
  · rw [decide_eq_false h1]
    have hle := wh_le (bytesOf s)
    have hnl := nx_le (bytesOf s)
    have hn4 := nx_four (bytesOf s)
    have hpos := wh_pos (bytesOf s)
    have hlen := bytesOf_length s
    refine Ev.step (fun k => by simp only [inkwelllaw03_UtfFirst.j0]; rw [if_neg (by simp)]) (Ev.bind (next_ev s (by omega)) (Ev.bind (where_ev s (by omega)) ?_))
    have hd : ((decide (((nx (bytesOf s) : Nat) : Int) > 0)) != (decide (((wh (bytesOf s) : Nat) : Int) > 0))) = false := by
      rw [bne_eq_false_iff_eq, decide_eq_decide]; omega
    rw [hd]
    refine Ev.neg (by simp) (Ev.neg (by omega) (Ev.neg (by omega) ?_))
    rw [decide_eq_false (by omega)]
    by_cases h0 : nx (bytesOf s) = 0
    · refine Ev.step (f := fun _ => some true) (fun k => ?_) (Ev.now true)
      simp only [inkwelllaw03_UtfFirst.j1]
      rw [if_neg (by simp), if_pos (by omega)]
    · have e1 := bytesOf_take s (nx (bytesOf s))
      have hx : (s.extract 0 (nx (bytesOf s))).size = nx (bytesOf s) := by rw [← bytesOf_length, e1, List.length_take]; omega
      have e2 := bytesOf_drop s (nx (bytesOf s))
      have hy : (s.extract (nx (bytesOf s)) s.size).size = s.size - nx (bytesOf s) := by rw [← bytesOf_length, e2, List.length_drop, hlen]
      have hgo := wh_go (l := bytesOf s) (by omega)
      refine Ev.step (fun k => by simp only [inkwelllaw03_UtfFirst.j1]; rw [if_neg (by simp)]) (Ev.neg (by omega) (Ev.bind (where_ev s (by omega)) ?_))
      refine Ev.pos (by omega) (Ev.pos (by omega) ?_)
      rw [Int.toNat_natCast]
      refine Ev.bind (where_ev _ (by omega)) ?_
      rw [e2, w64 (by omega) (by omega)]
      refine Ev.pos (by omega) (Ev.bind (valid_ev _ (by simp) (fun x hx' => by rw [List.mem_singleton.1 hx', hx]; omega)) (Ev.some' ?_))
      rw [List.all_cons, List.all_nil, Bool.and_true]
      refine decide_eq_true ?_
      rw [bytesOf_length, hx, e1, wh_go (by rw [nx_take (by omega)]; omega), nx_take (by omega), List.drop_of_length_le (by rw [List.length_take]; omega), wh_nil]
      rfl
end Go.Proofs.Ytiehijephkagbaa.Pure
