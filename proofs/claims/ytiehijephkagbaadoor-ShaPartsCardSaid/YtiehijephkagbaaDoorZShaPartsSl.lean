/- What a call owns of memory, block by block: resources held apart in one list, all else kept as it was; and the steps of a walk over them. -/
import Derived.WalkKit
import Derived.Orders
import Derived.Below
import Derived.Tactics
import Derived.Laws.Append
import Derived.Laws.CopyRow
namespace Go.Proofs.YtiehijephkagbaaDoor.Sl
open Go.RowKit
set_option linter.unusedVariables false
set_option linter.unusedSimpArgs false
/-! Parts of a heap -/
def Hp : Type := Nat → Option Obj
def Hp.le (f g : Hp) : Prop := ∀ b o, f b = some o → g b = some o
theorem Hp.le.refl (f : Hp) : f.le f := fun _ _ h => h
theorem Hp.le.trans {f g h : Hp} (a : f.le g) (b : g.le h) : f.le h := fun x o e => b x o (a x o e)
def Hp.cell (f : Hp) (a : Addr) : Option Value := match f a.block with
  | some (.cells c _ _) => if a.spot.isSome then none else c[a.off]?
  | _ => none
def hp (w : World) : Hp := fun b => w.heap[b]?
theorem hp_cell (w : World) (a : Addr) : (hp w).cell a = w.cell? a := rfl
theorem Hp.le.cell {f g : Hp} (h : f.le g) {a : Addr} {v : Value} (hc : f.cell a = some v) : g.cell a = some v := by
  unfold Hp.cell at *
  cases hf : f a.block with
  | none => rw [hf] at hc; cases hc
  | some o => rw [hf] at hc; rw [h _ _ hf]; exact hc
/-- What stays as it is: some of the heap, and the streams. -/
structure Fm where
  hp : Hp
  os : Os
  tape : Nat → Question → Nat
  out : Array (Nat × ByteArray)
def Fm.of (w : World) : Fm := ⟨Sl.hp w, w.os, w.tape, w.output⟩
structure Fm.le (f g : Fm) : Prop where
  hp : f.hp.le g.hp
  os : g.os = f.os
  tape : g.tape = f.tape
  out : g.out = f.out
theorem Fm.le.refl (f : Fm) : f.le f := ⟨.refl _, rfl, rfl, rfl⟩
theorem Fm.le.trans {f g h : Fm} (a : f.le g) (b : g.le h) : f.le h := ⟨a.hp.trans b.hp, b.os.trans a.os, b.tape.trans a.tape, b.out.trans a.out⟩
/-- A resource: some blocks, and what holds of them. -/
structure Res where
  dom : Nat → Prop
  ok : Hp → Prop
  loc : ∀ {g h : Hp}, (∀ b, dom b → h b = g b) → ok g → ok h
  live : ∀ {h : Hp} {b : Nat}, ok h → dom b → ∃ o, h b = some o
def Res.emp : Res := ⟨fun _ => False, fun _ => True, fun _ _ => trivial, fun _ h => h.elim⟩
/-- The world as a call sees it: f is kept, the resources are its own, apart from each other and from f. -/
structure Holds (w : World) (f : Fm) (rs : List Res) : Prop where
  os : w.os = f.os
  tape : w.tape = f.tape
  out : w.output = f.out
  kept : f.hp.le (hp w)
  oks : ∀ r ∈ rs, r.ok (hp w)
  free : ∀ r ∈ rs, ∀ b, r.dom b → f.hp b = none
  sep : ∀ (i j : Nat) (r s : Res), i ≠ j → rs[i]? = some r → rs[j]? = some s → ∀ b, r.dom b → ¬ s.dom b
section
variable {w w' : World} {f f1 : Fm} {rs rin rout : List Res} {r r' : Res}
theorem Holds.start (w : World) : Holds w (.of w) [] :=
  ⟨rfl, rfl, rfl, .refl _, fun _ h => (List.not_mem_nil h).elim, fun _ h => (List.not_mem_nil h).elim, fun i j r s _ h => by simp at h⟩
theorem Holds.below (h : Holds w' (.of w) rs) : Below w.heap.size w w' := by
  have hb : ∀ k, k < w.heap.size → w'.heap[k]? = w.heap[k]? := fun k hk => by
    have : w.heap[k]? = some w.heap[k] := by simp [hk]
    rw [this]
    exact h.kept k _ this
  refine ⟨h.os, h.tape, h.out, ?_, hb⟩
  rcases Nat.lt_or_ge w'.heap.size w.heap.size with hl | hl
  · have := hb w'.heap.size hl
    rw [Array.getElem?_eq_none (Nat.le_refl _)] at this
    simp [hl] at this
  · exact hl
theorem Holds.live (h : Holds w f rs) (hr : r ∈ rs) {b : Nat} (hb : r.dom b) : b < w.heap.size := by
  obtain ⟨o, ho⟩ := r.live (h.oks r hr) hb
  exact (Array.getElem?_eq_some_iff.1 ho).1
theorem Holds.frame_lt (h : Holds w f rs) {b : Nat} {o : Obj} (hb : f.hp b = some o) : b < w.heap.size :=
  (Array.getElem?_eq_some_iff.1 (h.kept b o hb)).1
theorem mem_get {rs : List Res} {i : Nat} {r : Res} (h : rs[i]? = some r) : r ∈ rs := List.mem_of_getElem? h
theorem hp_alloc_old (w : World) (o : Obj) {b : Nat} (h : b < w.heap.size) : hp (w.alloc o) b = hp w b := Below.heap_alloc w o b h
/-- A new block. -/
theorem Holds.alloc (h : Holds w f rs) (o : Obj) (r : Res) (hd : ∀ b, r.dom b → b = w.heap.size) (ho : r.ok (hp (w.alloc o))) : Holds (w.alloc o) f (r :: rs) := by
  have hlt : ∀ s ∈ rs, ∀ b, s.dom b → b < w.heap.size := fun s hs b hb => h.live hs hb
  refine ⟨h.os, h.tape, h.out, fun b o' hb => ?_, ?_, ?_, ?_⟩
  · rw [hp_alloc_old w o (h.frame_lt hb)]; exact h.kept b o' hb
  · intro s hs
    rcases List.mem_cons.1 hs with rfl | hs
    · exact ho
    · exact s.loc (fun b hb => hp_alloc_old w o (hlt s hs b hb)) (h.oks s hs)
  · intro s hs b hb
    rcases List.mem_cons.1 hs with rfl | hs
    · cases hfb : f.hp b with
      | none => rfl
      | some o' => have := h.frame_lt hfb; have := hd b hb; omega
    · exact h.free s hs b hb
  · intro i j s t hne hi hj b hs ht
    cases i with
    | zero =>
      cases j with
      | zero => exact hne rfl
      | succ j =>
        simp at hi hj; subst hi
        have := hlt t (mem_get hj) b ht; have := hd b hs; omega
    | succ i =>
      cases j with
      | zero =>
        simp at hi hj; subst hj
        have := hlt s (mem_get hi) b hs; have := hd b ht; omega
      | succ j =>
        simp at hi hj
        exact h.sep i j s t (by omega) hi hj b hs ht
/-- A resource without blocks. -/
theorem Holds.nob (h : Holds w f rs) (r : Res) (hd : ∀ b, ¬ r.dom b) (ho : r.ok (hp w)) : Holds w f (r :: rs) := by
  refine ⟨h.os, h.tape, h.out, h.kept, ?_, ?_, ?_⟩
  · intro s hs
    rcases List.mem_cons.1 hs with rfl | hs
    · exact ho
    · exact h.oks s hs
  · intro s hs b hb
    rcases List.mem_cons.1 hs with rfl | hs
    · exact (hd b hb).elim
    · exact h.free s hs b hb
  · intro i j s t hne hi hj b hs ht
    cases i with
    | zero => simp at hi; subst hi; exact hd b hs
    | succ i =>
      cases j with
      | zero => simp at hj; subst hj; exact hd b ht
      | succ j => simp at hi hj; exact h.sep i j s t (by omega) hi hj b hs ht
/-- Only the heap counts. -/
theorem Holds.same (h : Holds w f rs) (hh : w'.heap = w.heap) (hos : w'.os = w.os) (ht : w'.tape = w.tape) (ho : w'.output = w.output) : Holds w' f rs := by
  have e : hp w' = hp w := by unfold hp; rw [hh]
  exact ⟨hos.trans h.os, ht.trans h.tape, ho.trans h.out, by rw [e]; exact h.kept, by rw [e]; exact h.oks, h.free, h.sep⟩
theorem Holds.drew (h : Holds w f rs) : Holds w.drew f rs := h.same rfl rfl rfl rfl
/-- Those of these places, in this order. -/
theorem Holds.pick (h : Holds w f rs) (is : List Nat) (hn : is.Nodup) : Holds w f (is.map fun i => rs.getD i .emp) := by
  have hm : ∀ r ∈ is.map (fun i => rs.getD i .emp), r = .emp ∨ r ∈ rs := fun r hr => by
    obtain ⟨i, _, rfl⟩ := List.mem_map.1 hr
    rw [List.getD_eq_getElem?_getD]
    cases hi : rs[i]? with
    | none => exact .inl rfl
    | some s => exact .inr (mem_get hi)
  refine ⟨h.os, h.tape, h.out, h.kept, ?_, ?_, ?_⟩
  · intro r hr
    rcases hm r hr with rfl | hr
    · exact trivial
    · exact h.oks r hr
  · intro r hr b hb
    rcases hm r hr with rfl | hr
    · exact hb.elim
    · exact h.free r hr b hb
  · intro i j r s hne hi hj b hr hs
    rw [List.getElem?_map] at hi hj
    cases hi' : is[i]? with
    | none => rw [hi'] at hi; cases hi
    | some k =>
      cases hj' : is[j]? with
      | none => rw [hj'] at hj; cases hj
      | some l =>
        rw [hi'] at hi; rw [hj'] at hj
        simp only [Option.map_some, Option.some.injEq, List.getD_eq_getElem?_getD] at hi hj
        have hkl : k ≠ l := fun e => by
          subst e
          exact hne ((List.getElem?_inj (List.getElem?_eq_some_iff.1 hi').1 hn).1 (hi'.trans hj'.symm))
        cases hk : rs[k]? with
        | none => rw [hk] at hi; simp at hi; subst hi; exact hr
        | some r0 =>
          cases hl : rs[l]? with
          | none => rw [hl] at hj; simp at hj; subst hj; exact hs
          | some s0 =>
            rw [hk] at hi; rw [hl] at hj
            simp at hi hj; subst hi; subst hj
            exact h.sep k l r0 s0 hkl hk hl b hr hs
/-- One resource is turned, or has gone to new blocks. -/
theorem Holds.chg (h : Holds w f rs) {i : Nat} (hi : rs[i]? = some r) (hos : w'.os = w.os) (ht : w'.tape = w.tape) (hou : w'.output = w.output)
    (hold : ∀ b, b < w.heap.size → ¬ r.dom b → w'.heap[b]? = w.heap[b]?) (r' : Res) (hd : ∀ b, r'.dom b → r.dom b ∨ w.heap.size ≤ b) (ho : r'.ok (hp w')) : Holds w' f (rs.set i r') := by
  have hil : i < rs.length := (List.getElem?_eq_some_iff.1 hi).1
  have hat : ∀ (k : Nat) (s : Res), (rs.set i r')[k]? = some s → (k = i ∧ s = r') ∨ (k ≠ i ∧ rs[k]? = some s) := fun k s hk => by
    rw [List.getElem?_set] at hk
    split at hk
    · rename_i e; subst e; first | rw [if_pos hil] at hk | skip
      exact .inl ⟨rfl, (Option.some.inj hk).symm⟩
    · rename_i e; exact .inr ⟨fun e' => e e'.symm, hk⟩
  have hmem : ∀ s ∈ rs.set i r', s = r' ∨ ∃ k, k ≠ i ∧ rs[k]? = some s := fun s hs => by
    obtain ⟨k, hk⟩ := List.mem_iff_getElem?.1 hs
    rcases hat k s hk with ⟨_, e⟩ | ⟨hne, hk⟩
    · exact .inl e
    · exact .inr ⟨k, hne, hk⟩
  have hother : ∀ (k : Nat) (s : Res), k ≠ i → rs[k]? = some s → ∀ b, s.dom b → w'.heap[b]? = w.heap[b]? := fun k s hne hk b hb =>
    hold b (h.live (mem_get hk) hb) (fun hr => h.sep k i s r hne hk hi b hb hr)
  refine ⟨hos.trans h.os, ht.trans h.tape, hou.trans h.out, fun b o hb => ?_, ?_, ?_, ?_⟩
  · have : ¬ r.dom b := fun hr => by rw [h.free r (mem_get hi) b hr] at hb; cases hb
    show w'.heap[b]? = some o
    rw [hold b (h.frame_lt hb) this]
    exact h.kept b o hb
  · intro s hs
    rcases hmem s hs with rfl | ⟨k, hne, hk⟩
    · exact ho
    · exact s.loc (fun b hb => hother k s hne hk b hb) (h.oks s (mem_get hk))
  · intro s hs b hb
    rcases hmem s hs with rfl | ⟨k, hne, hk⟩
    · rcases hd b hb with hb | hb
      · exact h.free r (mem_get hi) b hb
      · cases hfb : f.hp b with
        | none => rfl
        | some o => have := h.frame_lt hfb; omega
    · exact h.free s (mem_get hk) b hb
  · intro k l s t hne hk hl b hs ht
    rcases hat k s hk with ⟨e1, e2⟩ | ⟨hk1, hk2⟩
    · rcases hat l t hl with ⟨e3, e4⟩ | ⟨hl1, hl2⟩
      · exact hne (e1.trans e3.symm)
      · subst e2
        rcases hd b hs with hb | hb
        · exact h.sep i l r t (fun e => hl1 e.symm) hi hl2 b hb ht
        · have := h.live (mem_get hl2) ht; omega
    · rcases hat l t hl with ⟨e3, e4⟩ | ⟨hl1, hl2⟩
      · subst e4
        rcases hd b ht with hb | hb
        · exact h.sep k i s r hk1 hk2 hi b hs hb
        · have := h.live (mem_get hk2) hs; omega
      · exact h.sep k l s t hne hk2 hl2 b hs ht
/-- For a call: what it gets, and all else as kept; and back. -/
theorem Holds.split (rin rs : List Res) (h : Holds w f (rin ++ rs)) : ∃ f1, f.le f1 ∧ Holds w f1 rin ∧ (∀ r ∈ rs, r.ok f1.hp) ∧ ∀ (w' : World) (rout : List Res), Holds w' f1 rout → Holds w' f (rout ++ rs) := by
  classical
  have hnot : ∀ r ∈ rs, ∀ b, r.dom b → ¬ ∃ s ∈ rin, s.dom b := fun r hr b hb ⟨s, hs, hsb⟩ => by
    obtain ⟨i, hi⟩ := List.mem_iff_getElem?.1 hs
    obtain ⟨j, hj⟩ := List.mem_iff_getElem?.1 hr
    have hil := (List.getElem?_eq_some_iff.1 hi).1
    exact h.sep i (rin.length + j) s r (by omega) (by rw [List.getElem?_append_left hil]; exact hi) (by rw [List.getElem?_append_right (by omega)]; simpa using hj) b hsb hb
  let g : Hp := fun b => if ∃ s ∈ rin, s.dom b then Option.none else hp w b
  have hg : ∀ b, (¬ ∃ s ∈ rin, s.dom b) → g b = hp w b := fun b hb => if_neg hb
  have hfg : f.hp.le g := fun b o hb => by
    rw [hg b (fun ⟨s, hs, hsb⟩ => by rw [h.free s (List.mem_append_left _ hs) b hsb] at hb; cases hb)]
    exact h.kept b o hb
  refine ⟨⟨g, f.os, f.tape, f.out⟩, ⟨hfg, rfl, rfl, rfl⟩, ⟨h.os, h.tape, h.out, ?_, ?_, ?_, ?_⟩, ?_, ?_⟩
  · intro b o hb
    show hp w b = some o
    have hb' : (if ∃ s ∈ rin, s.dom b then Option.none else hp w b) = some o := hb
    split at hb'
    · cases hb'
    · exact hb'
  · exact fun r hr => h.oks r (List.mem_append_left _ hr)
  · exact fun r hr b hb => if_pos ⟨r, hr, hb⟩
  · intro i j r s hne hi hj b hr hs
    have hil := (List.getElem?_eq_some_iff.1 hi).1
    have hjl := (List.getElem?_eq_some_iff.1 hj).1
    exact h.sep i j r s hne (by rw [List.getElem?_append_left hil]; exact hi) (by rw [List.getElem?_append_left hjl]; exact hj) b hr hs
  · exact fun r hr => r.loc (fun b hb => hg b (hnot r hr b hb)) (h.oks r (List.mem_append_right _ hr))
  · intro w' rout h'
    have hkeep : ∀ r ∈ rs, ∀ b, r.dom b → hp w' b = hp w b := fun r hr b hb => by
      obtain ⟨o, ho⟩ := r.live (h.oks r (List.mem_append_right _ hr)) hb
      rw [ho]
      exact h'.kept b o ((hg b (hnot r hr b hb)).trans ho)
    refine ⟨h'.os, h'.tape, h'.out, hfg.trans h'.kept, ?_, ?_, ?_⟩
    · intro r hr
      rcases List.mem_append.1 hr with hr | hr
      · exact h'.oks r hr
      · exact r.loc (fun b hb => hkeep r hr b hb) (h.oks r (List.mem_append_right _ hr))
    · intro r hr b hb
      rcases List.mem_append.1 hr with hr | hr
      · have := h'.free r hr b hb
        cases hfb : f.hp b with
        | none => rfl
        | some o => have h2 : g b = some o := hfg b o hfb; have h3 : g b = Option.none := this; rw [h2] at h3; cases h3
      · exact h.free r (List.mem_append_right _ hr) b hb
    · intro i j r s hne hi hj b hr hs
      have cross : ∀ r ∈ rout, ∀ s ∈ rs, r.dom b → s.dom b → False := fun r hr s hs hb hsb => by
        have h1 := h'.free r hr b hb
        obtain ⟨o, ho⟩ := s.live (h.oks s (List.mem_append_right _ hs)) hsb
        have h2 : g b = some o := (hg b (hnot s hs b hsb)).trans ho
        have h3 : g b = Option.none := h1
        rw [h2] at h3; cases h3
      rcases Nat.lt_or_ge i rout.length with hil | hil
      · rw [List.getElem?_append_left hil] at hi
        rcases Nat.lt_or_ge j rout.length with hjl | hjl
        · rw [List.getElem?_append_left hjl] at hj
          exact h'.sep i j r s hne hi hj b hr hs
        · rw [List.getElem?_append_right hjl] at hj
          exact cross r (mem_get hi) s (mem_get hj) hr hs
      · rw [List.getElem?_append_right hil] at hi
        rcases Nat.lt_or_ge j rout.length with hjl | hjl
        · rw [List.getElem?_append_left hjl] at hj
          exact cross s (mem_get hj) r (mem_get hi) hs hr
        · rw [List.getElem?_append_right hjl] at hj
          exact h.sep (rin.length + (i - rout.length)) (rin.length + (j - rout.length)) r s (by omega) (by rw [List.getElem?_append_right (by omega)]; simpa using hi) (by rw [List.getElem?_append_right (by omega)]; simpa using hj) b hr hs
/-- None of them is asked for. -/
theorem Holds.only (h0 : Holds w f []) (h : Holds w' f rs) : Holds w' f [] := h.pick [] List.nodup_nil
end
end Go.Proofs.YtiehijephkagbaaDoor.Sl
