/- A region whose order is open, walked by what holds of each operation's answer: each operation is shown once, in whatever world the others may have made; no order is branched over. -/
import Derived.Orders
import Derived.Below
import Derived.Test.YtdglijdgnopgkaaWWords
import Derived.WalkKit
import Derived.Tactics
namespace Go.Proofs.Ytdglijdgnopgkaa.Reg
open Go.RowKit Go.Proofs.YtdglijdgnopgkaaW.PrintWords
set_option linter.unusedVariables false
set_option linter.unusedSimpArgs false
/-- What an operation does, from this frame and world: it answers v in w', K v w'. -/
def Does (P : Program) (o : Oper) (a : Act) (w : World) (K : Value → World → Prop) : Prop :=
  match (execOp a.eval o).run P w with
  | .ok (.value v) w' => K v w'
  | .ok .skip w' => K undef w'
  | .ok (.enter f args) w' => Calls P f args w' fun e w'' => ∃ v, e = .returned v ∧ K v w''
  | _ => False
theorem Does.wp {P : Program} {o : Oper} {a : Act} {w : World} {K : Value → World → Prop} {next : Act → World → Prop} {Q : Exit → Act → World → Prop}
    (h : Does P o a w K) (hk : ∀ v w', K v w' → next (a.put o.dst v) w') : o.wp P a w next Q := by
  unfold Does at h
  unfold Oper.wp
  generalize (execOp a.eval o).run P w = r at h ⊢
  cases r with
  | ok n w' =>
    cases n <;> simp only [Oper.upon] at h ⊢
    case value v => exact hk v w' h
    case skip => exact hk undef w' h
    case enter f args =>
      refine Calls.mono h fun e w'' he => ?_
      obtain ⟨v, rfl, hv⟩ := he
      exact hk v w'' hv
  | halt x w' => exact h.elim
/-- The value in an operation's slot. -/
def got (a : Act) (o : Oper) : Value := match o.dst with
  | some t => a.tmps.getD t undef
  | none => undef
/-- The operations that it waits for. -/
def deps (o : Oper) : List Nat := (o.after.toList.filter (Region.binds .any)).map (·.on)
theorem mem_deps {o : Oper} {j : Nat} : j ∈ deps o ↔ ∃ e ∈ o.after, Region.binds .any e = true ∧ e.on = j := by
  simp only [deps, List.mem_map, List.mem_filter, Array.mem_toList_iff, and_assoc]

section
variable (P : Program) (ops : Array Oper) (a0 : Act) (post : Nat → Value → World → Prop) (G : World → Prop) (R : World → World → Prop)
/-- What holds when the operations of l are done. -/
structure At (l : Array Bool) (a : Act) (w : World) : Prop where
  g : G w
  defs : a.defers = a0.defers
  size : a.tmps.size = a0.tmps.size
  kept : ∀ t : Tmp, (∀ (j : Nat) (oj : Oper), ops[j]? = some oj → oj.dst = some t → l.getD j false = false) → a.tmps.getD t undef = a0.tmps.getD t undef
  done : ∀ (j : Nat) (oj : Oper), ops[j]? = some oj → l.getD j false = true → post j (got a oj) w
  closed : ∀ (j : Nat) (oj : Oper), ops[j]? = some oj → l.getD j false = true → ∀ i ∈ deps oj, l.getD i false = true
/-- What is asked of an operation. -/
def Step (i : Nat) (o : Oper) : Prop := ∀ a w, G w → (∀ j ∈ deps o, ∀ oj : Oper, ops[j]? = some oj → post j (got a oj) w) →
  (∀ t : Tmp, (∀ (j : Nat) (oj : Oper), ops[j]? = some oj → oj.dst = some t → i ∈ deps oj) → a.tmps.getD t undef = a0.tmps.getD t undef) → a.tmps.size = a0.tmps.size →
  if Region.wanted o (yielded ops a.tmps) = true then Does P o a w (fun v w' => R w w' ∧ G w' ∧ post i v w') else post i undef w
end
variable {P : Program} {ops : Array Oper} {a0 : Act} {post : Nat → Value → World → Prop} {G : World → Prop} {R : World → World → Prop} {Q : Exit → Act → World → Prop}
theorem put_defers' (a : Act) (d : Option Tmp) (v : Value) : (a.put d v).defers = a.defers := by cases d <;> rfl
theorem put_size' (a : Act) (d : Option Tmp) (v : Value) : (a.put d v).tmps.size = a.tmps.size := by cases d <;> simp [Act.put]
theorem put_same {a : Act} {t : Tmp} {v : Value} (h : t < a.tmps.size) : (a.put (some t) v).tmps.getD t undef = v := by
  simp [Act.put, Array.getD, h]
theorem put_other {a : Act} {d : Option Tmp} {t : Tmp} {v : Value} (h : d ≠ some t) : (a.put d v).tmps.getD t undef = a.tmps.getD t undef := by
  cases d with
  | none => rfl
  | some d =>
    have hne : d ≠ t := fun e => h (e ▸ rfl)
    simp only [Act.put, Array.getD_eq_getD_getElem?, Array.getElem?_setIfInBounds_ne hne]
theorem set_get {l : Array Bool} {i j : Nat} (h : i < l.size) : (l.setIfInBounds i true).getD j false = if i = j then true else l.getD j false := by
  simp only [Array.getD_eq_getD_getElem?]
  by_cases e : i = j
  · subst e; simp [h]
  · rw [Array.getElem?_setIfInBounds_ne e, if_neg e]
/-- One operation. -/
theorem At.step {l : Array Bool} {a : Act} {w : World} {i : Nat} {o : Oper} (h : At ops a0 post G l a w) (hi : ops[i]? = some o) (hl : i < l.size) 
    (hd : ∀ j ∈ deps o, l.getD j false = true)
    (hone : ∀ (i j : Nat) (oi oj : Oper) (t : Tmp), ops[i]? = some oi → ops[j]? = some oj → oi.dst = some t → oj.dst = some t → i = j) (hin : ∀ (i : Nat) (o : Oper) (t : Tmp), ops[i]? = some o → o.dst = some t → t < a0.tmps.size)
    (hst : ∀ j v w w', post j v w → R w w' → post j v w') {v : Value} {w' : World} (hr : R w w') (hg : G w') (hp : post i v w') (hu : o.dst = none → post i undef w') :
    At ops a0 post G (l.setIfInBounds i true) (a.put o.dst v) w' := by
  refine ⟨hg, by rw [put_defers', h.defs], by rw [put_size', h.size], fun t ht => ?_, fun j oj hj hlj => ?_, fun j oj hj hlj k hk => ?_⟩
  · have h1 : o.dst ≠ some t := fun e => by
      have := ht i o hi e
      rw [set_get hl, if_pos rfl] at this
      cases this
    rw [put_other h1]
    refine h.kept t fun j oj hj e => ?_
    have := ht j oj hj e
    rw [set_get hl] at this
    split at this
    · cases this
    · exact this
  · by_cases e : i = j
    · subst e
      obtain rfl : o = oj := by rw [hi] at hj; exact Option.some.inj hj
      cases hd : o.dst with
      | none => simp only [got, hd]; exact hu hd
      | some t =>
        simp only [got, hd]
        rw [put_same (by rw [h.size]; exact hin i o t hi hd)]
        exact hp
    · rw [set_get hl, if_neg e] at hlj
      have := hst j _ w w' (h.done j oj hj hlj) hr
      have hsame : got (a.put o.dst v) oj = got a oj := by
        cases hd : oj.dst with
        | none => simp only [got, hd]
        | some t =>
          simp only [got, hd]
          exact put_other fun e' => e (hone i j o oj t hi hj e' hd)
      rw [hsame]
      exact this
  · rw [set_get hl]
    by_cases e : i = k
    · rw [if_pos e]
    · rw [if_neg e]
      by_cases e' : i = j
      · subst e'
        obtain rfl : o = oj := by rw [hi] at hj; exact Option.some.inj hj
        exact hd k hk
      · rw [set_get hl, if_neg e'] at hlj
        exact h.closed j oj hj hlj k hk
/-- How many are not yet done. -/
def undone (l : Array Bool) : Nat := (l.toList.filter (! ·)).length
theorem filter_set : ∀ (l : List Bool) (i : Nat), l[i]? = some false → ((l.set i true).filter (! ·)).length + 1 = (l.filter (! ·)).length
  | [], _, h => by simp at h
  | x :: l, 0, h => by
    simp at h; subst h; simp
  | x :: l, i + 1, h => by
    have := filter_set l i (by simpa using h)
    cases x <;> simp at this ⊢ <;> omega
theorem undone_set {l : Array Bool} {i : Nat} (h : l[i]? = some false) : undone (l.setIfInBounds i true) + 1 = undone l := by
  unfold undone
  rw [Array.toList_setIfInBounds]
  exact filter_set l.toList i (by simpa using h)
theorem get_false {l : Array Bool} {i : Nat} (h : l.getD i true = false) : l[i]? = some false := by
  rw [Array.getD_eq_getD_getElem?] at h
  cases hl : l[i]? with
  | none => rw [hl] at h; simp at h
  | some b => rw [hl] at h; simp at h; rw [h]
theorem getD_false {l : Array Bool} {i : Nat} (h : l[i]? = some false) : l.getD i false = false := by
  rw [Array.getD_eq_getD_getElem?, h]; rfl
theorem undone_zero {l : Array Bool} (h : undone l = 0) : ∀ i : Nat, l[i]? ≠ some false := by
  intro i hi
  have hm : false ∈ l.toList := by
    rw [List.mem_iff_getElem?]
    exact ⟨i, by simpa using hi⟩
  have : false ∈ l.toList.filter (! ·) := List.mem_filter.2 ⟨hm, rfl⟩
  unfold undone at h
  rw [List.length_eq_zero_iff.1 h] at this
  cases this
/-- Where none may come up, all are done (each waits for earlier ones alone). -/
theorem all_done {l : Array Bool} (hs : l.size = ops.size) (hacyc : ∀ (i : Nat) (o : Oper), ops[i]? = some o → ∀ j ∈ deps o, j < i) (h : Region.ready .any ops l = []) : ∀ i : Nat, i < ops.size → l.getD i false = true := by
  intro i
  induction i using Nat.strongRecOn with
  | _ i ih =>
    intro hi
    cases hb : l.getD i false with
    | true => rfl
    | false =>
      have hi' : i < l.size := by omega
      have : i ∈ Region.ready .any ops l := by
        rw [mem_ready]
        refine ⟨?_, ops[i], by simp [hi], fun e he hbind => ?_⟩
        · rw [Array.getD_eq_getD_getElem?] at hb ⊢
          simp [hi'] at hb ⊢
          exact hb
        · have hlt := hacyc i ops[i] (by simp [hi]) e.on (mem_deps.2 ⟨e, he, hbind, rfl⟩)
          exact ih e.on hlt (by omega)
      rw [h] at this
      cases this
theorem any_inv (hone : ∀ (i j : Nat) (oi oj : Oper) (t : Tmp), ops[i]? = some oi → ops[j]? = some oj → oi.dst = some t → oj.dst = some t → i = j) (hin : ∀ (i : Nat) (o : Oper) (t : Tmp), ops[i]? = some o → o.dst = some t → t < a0.tmps.size)
    (hacyc : ∀ (i : Nat) (o : Oper), ops[i]? = some o → ∀ j ∈ deps o, j < i)
    (hst : ∀ j v w w', post j v w → R w w' → post j v w') (hrr : ∀ w, R w w) (hu : ∀ (i : Nat) (o : Oper), ops[i]? = some o → o.dst = none → ∀ w, post i undef w) (hstep : ∀ (i : Nat) (o : Oper), ops[i]? = some o → Step P ops a0 post G R i o)
    (hend : ∀ l a w, (∀ i : Nat, i < ops.size → l.getD i false = true) → At ops a0 post G l a w → Q .normal a w) :
    ∀ (fuel : Nat) (l : Array Bool) (a : Act) (w : World), undone l ≤ fuel → l.size = ops.size → At ops a0 post G l a w → wpAny P .any ops Q fuel l a w := by
  intro fuel
  induction fuel with
  | zero =>
    intro l a w hf hs hA
    have hn : Region.ready .any ops l = [] := by
      rw [List.eq_nil_iff_forall_not_mem]
      intro i hi
      exact undone_zero (by omega) i (get_false (mem_ready.1 hi).1)
    exact ⟨hn, hend l a w (all_done hs hacyc hn) hA⟩
  | succ fuel ih =>
    intro l a w hf hs hA
    refine ⟨fun hn => hend l a w (all_done hs hacyc hn) hA, fun i hi => ?_⟩
    obtain ⟨hun, o, ho, hdep⟩ := mem_ready.1 hi
    have hg := get_false hun
    have hlt : i < l.size := (Array.getElem?_eq_some_iff.1 hg).1
    have hset := undone_set hg
    have hdeps : ∀ j ∈ deps o, l.getD j false = true := fun j hj => by
      obtain ⟨e, he, hb, rfl⟩ := mem_deps.1 hj
      exact hdep e he hb
    have hs' := hstep i o ho a w hA.g (fun j hj oj hoj => hA.done j oj hoj (hdeps j hj)) (fun t ht => hA.kept t fun j oj hj hd => by
      cases hb : l.getD j false with
      | false => rfl
      | true =>
        have := hA.closed j oj hj hb i (ht j oj hj hd)
        rw [getD_false hg] at this
        cases this) hA.size
    unfold wpOp
    simp only [ho]
    by_cases hw : Region.wanted o (yielded ops a.tmps) = true
    · rw [if_pos hw] at hs' ⊢
      refine .inl (hs'.wp fun v w' hv => ?_)
      exact ih _ _ _ (by omega) (by simp [hs]) (hA.step ho hlt hdeps hone hin hst hv.1 hv.2.1 hv.2.2 (fun hd => hu i o ho hd w'))
    · rw [if_neg hw] at hs' ⊢
      exact ih _ _ _ (by omega) (by simp [hs]) (hA.step ho hlt hdeps hone hin hst (hrr w) hA.g hs' (fun hd => hu i o ho hd w))
/-- Values put into slots, one behind the other. -/
def puts : Act → List (Option Tmp) → List Value → Act
  | a, d :: ds, v :: vs => puts (a.put d v) ds vs
  | a, _, _ => a
theorem puts_defers : ∀ (ds : List (Option Tmp)) (vs : List Value) (a : Act), (puts a ds vs).defers = a.defers
  | [], _, _ => by simp [puts]
  | _ :: _, [], _ => by simp [puts]
  | d :: ds, v :: vs, a => by rw [puts, puts_defers ds vs, put_defers']
theorem puts_size : ∀ (ds : List (Option Tmp)) (vs : List Value) (a : Act), (puts a ds vs).tmps.size = a.tmps.size
  | [], _, _ => by simp [puts]
  | _ :: _, [], _ => by simp [puts]
  | d :: ds, v :: vs, a => by rw [puts, puts_size ds vs, put_size']
theorem puts_other : ∀ (ds : List (Option Tmp)) (vs : List Value) (a : Act) (t : Tmp), (∀ d ∈ ds, d ≠ some t) → (puts a ds vs).tmps.getD t undef = a.tmps.getD t undef
  | [], _, _, _, _ => by simp [puts]
  | _ :: _, [], _, _, _ => by simp [puts]
  | d :: ds, v :: vs, a, t, h => by
    rw [puts, puts_other ds vs _ t (fun d hd => h d (by simp [hd])), put_other (h d (by simp))]
theorem puts_at : ∀ (ds : List (Option Tmp)) (vs : List Value) (a : Act) (t : Tmp) (i : Nat) (v : Value), ds[i]? = some (some t) → vs[i]? = some v → (∀ j, ds[j]? = some (some t) → j = i) → t < a.tmps.size →
    (puts a ds vs).tmps.getD t undef = v
  | [], _, _, _, _, _, h, _, _, _ => by simp at h
  | _ :: _, [], _, _, _, _, _, h, _, _ => by simp at h
  | d :: ds, u :: vs, a, t, 0, v, h, hv, hu, ht => by
    simp at h hv
    subst h; subst hv
    rw [puts, puts_other _ _ _ _ (fun d hd e => ?_), put_same ht]
    subst e
    obtain ⟨j, hj⟩ := List.mem_iff_getElem?.1 hd
    have := hu (j + 1) (by simpa using hj)
    omega
  | d :: ds, u :: vs, a, t, i + 1, v, h, hv, hu, ht => by
    rw [puts]
    exact puts_at ds vs _ t i v (by simpa using h) (by simpa using hv) (fun j hj => by have := hu (j + 1) (by simpa using hj); omega) (by rw [put_size']; exact ht)
theorem act_ext {a b : Act} (hd : a.defers = b.defers) (hs : a.tmps.size = b.tmps.size) (h : ∀ t, t < a.tmps.size → a.tmps.getD t undef = b.tmps.getD t undef) : a = b := by
  obtain ⟨at_, ad⟩ := a
  obtain ⟨bt_, bd⟩ := b
  simp only at hd hs h
  subst hd
  have : at_ = bt_ := by
    apply Array.ext hs
    intro i h1 h2
    have := h i h1
    rw [Array.getD_eq_getD_getElem?, Array.getD_eq_getD_getElem?, Array.getElem?_eq_getElem h1, Array.getElem?_eq_getElem h2] at this
    exact this
  rw [this]
/-- The region's own form, told by a Bool: no slot twice, each slot in the frame, each operation waits for earlier ones alone. -/
def okB (ops : Array Oper) (n : Nat) : Bool :=
  decide (ops.toList.filterMap (·.dst)).Nodup && (ops.toList.filterMap (·.dst)).all (fun t => decide (t < n)) && ops.toList.zipIdx.all fun oi => (deps oi.1).all fun j => decide (j < oi.2)
theorem nodup_idx : ∀ (l : List Oper), (l.filterMap (·.dst)).Nodup → ∀ (i j : Nat) (oi oj : Oper) (t : Tmp), l[i]? = some oi → l[j]? = some oj → oi.dst = some t → oj.dst = some t → i = j
  | [], _, _, _, _, _, _, h, _, _, _ => by simp at h
  | o :: l, hn, i, j, oi, oj, t, hi, hj, ei, ej => by
    have hmem : ∀ (k : Nat) (ok : Oper), l[k]? = some ok → ok.dst = some t → t ∈ l.filterMap (·.dst) := fun k ok hk hd => List.mem_filterMap.2 ⟨ok, List.mem_of_getElem? hk, hd⟩
    have hl : (l.filterMap (·.dst)).Nodup := by
      rw [List.filterMap_cons] at hn
      cases hd : o.dst with
      | none => simpa [hd] using hn
      | some t => rw [hd] at hn; exact (List.nodup_cons.1 hn).2
    cases i with
    | zero =>
      cases j with
      | zero => rfl
      | succ j =>
        simp at hi hj
        subst hi
        rw [List.filterMap_cons, ei] at hn
        exact absurd (hmem j oj hj ej) (List.nodup_cons.1 hn).1
    | succ i =>
      cases j with
      | zero =>
        simp at hi hj
        subst hj
        rw [List.filterMap_cons, ej] at hn
        exact absurd (hmem i oi hi ei) (List.nodup_cons.1 hn).1
      | succ j => rw [nodup_idx l hl i j oi oj t (by simpa using hi) (by simpa using hj) ei ej]
/-- What is asked of each of the answers, by its number. -/
def at_ (posts : List (Value → World → Prop)) (i : Nat) (v : Value) (w : World) : Prop := match posts[i]? with
  | some p => p v w
  | none => True
/-- Each operation's step, one behind the other. -/
def Steps (P : Program) (ops : Array Oper) (a0 : Act) (posts : List (Value → World → Prop)) (G : World → Prop) (R : World → World → Prop) : Nat → List Oper → Prop
  | _, [] => True
  | i, o :: os => (∀ a w, G w → (∀ j ∈ deps o, ∀ oj : Oper, ops[j]? = some oj → at_ posts j (got a oj) w) →
      (∀ t : Tmp, (∀ (j : Nat) (oj : Oper), ops[j]? = some oj → oj.dst = some t → i ∈ deps oj) → a.tmps.getD t undef = a0.tmps.getD t undef) →
      if Region.wanted o (yielded ops a.tmps) = true then Does P o a w (fun v w' => R w w' ∧ at_ posts i v w') else at_ posts i undef w) ∧ Steps P ops a0 posts G R (i + 1) os
theorem Steps.get : ∀ (os : List Oper) (k i : Nat) (o : Oper) {posts : List (Value → World → Prop)}, Steps P ops a0 posts G R k os → os[i]? = some o → (∀ a w, G w → (∀ j ∈ deps o, ∀ oj : Oper, ops[j]? = some oj → at_ posts j (got a oj) w) →
      (∀ t : Tmp, (∀ (j : Nat) (oj : Oper), ops[j]? = some oj → oj.dst = some t → k + i ∈ deps oj) → a.tmps.getD t undef = a0.tmps.getD t undef) →
      if Region.wanted o (yielded ops a.tmps) = true then Does P o a w (fun v w' => R w w' ∧ at_ posts (k + i) v w') else at_ posts (k + i) undef w)
  | [], _, _, _, _, _, h => by simp at h
  | o :: os, k, 0, o', _, hs, h => by
    simp at h
    subst h
    exact hs.1
  | o :: os, k, i + 1, o', _, hs, h => by
    have := Steps.get os (k + 1) i o' hs.2 (by simpa using h)
    rw [show k + 1 + i = k + (i + 1) by omega] at this
    exact this
/-- Values that answer to the posts. -/
def Vals : List (Value → World → Prop) → List Value → World → Prop
  | p :: ps, v :: vs, w => p v w ∧ Vals ps vs w
  | [], [], _ => True
  | _, _, _ => False
theorem Vals.out {p : Value → World → Prop} {ps : List (Value → World → Prop)} {vs : List Value} {w : World} (h : Vals (p :: ps) vs w) : ∃ v vs', vs = v :: vs' ∧ p v w ∧ Vals ps vs' w := by
  cases vs with
  | nil => exact h.elim
  | cons v vs => exact ⟨v, vs, rfl, h.1, h.2⟩
theorem Vals.nil {vs : List Value} {w : World} (h : Vals [] vs w) : vs = [] := by
  cases vs with
  | nil => rfl
  | cons v vs => exact h.elim
theorem vals_of : ∀ (os : List Oper) (posts : List (Value → World → Prop)) (w : World) (f : Oper → Value), posts.length = os.length → (∀ (i : Nat) (o : Oper), os[i]? = some o → at_ posts i (f o) w) → Vals posts (os.map f) w
  | [], [], _, _, _, _ => trivial
  | [], _ :: _, _, _, h, _ => by simp at h
  | _ :: _, [], _, _, h, _ => by simp at h
  | o :: os, p :: ps, w, f, hl, h => ⟨h 0 o rfl, vals_of os ps w f (by simpa using hl) (fun i o' hi => h (i + 1) o' (by simpa using hi))⟩
def Stab (R : World → World → Prop) (p : Value → World → Prop) : Prop := ∀ v w w', p v w → R w w' → p v w'
theorem wp_any {id : Nat} {w : World} (posts : List (Value → World → Prop)) (G : World → Prop) (R : World → World → Prop) (hm : P.follows .mixedOrders = true) (hok : okB ops a0.tmps.size = true) (hnone : (ops.toList.all fun o => o.dst.isSome) = true) (hlen : posts.length = ops.size)
    (hst : ∀ p ∈ posts, Stab R p) (hGR : ∀ w w', G w → R w w' → G w') (hrr : ∀ w, R w w) (hG : G { w with drawn := w.drawn + 1 }) (hsteps : Steps P ops a0 posts G R 0 ops.toList)
    (hend : ∀ vs w', G w' → Vals posts vs w' → Q .normal (puts a0 (ops.toList.map (·.dst)) vs) w') : (Code.region id ops true).wp P Q a0 w := by
  simp only [okB, Bool.and_eq_true, decide_eq_true_eq, List.all_eq_true] at hok
  obtain ⟨⟨hnd, hsz⟩, hac⟩ := hok
  have hone : ∀ (i j : Nat) (oi oj : Oper) (t : Tmp), ops[i]? = some oi → ops[j]? = some oj → oi.dst = some t → oj.dst = some t → i = j := fun i j oi oj t hi hj => nodup_idx ops.toList hnd i j oi oj t (by simpa using hi) (by simpa using hj)
  have hin : ∀ (i : Nat) (o : Oper) (t : Tmp), ops[i]? = some o → o.dst = some t → t < a0.tmps.size := fun i o t hi hd => by
    simpa using hsz t (List.mem_filterMap.2 ⟨o, List.mem_of_getElem? (by simpa using hi : ops.toList[i]? = some o), hd⟩)
  have hacyc : ∀ (i : Nat) (o : Oper), ops[i]? = some o → ∀ j ∈ deps o, j < i := fun i o hi j hj => by
    have := hac (o, i) (by rw [List.mem_zipIdx_iff_getElem?]; simpa using hi) j hj
    simpa using this
  have hdst : ∀ (i : Nat) (o : Oper), ops[i]? = some o → o.dst ≠ none := fun i o hi e => by
    have := List.all_eq_true.1 hnone o (List.mem_of_getElem? (by simpa using hi : ops.toList[i]? = some o))
    rw [e] at this
    cases this
  refine wp_region_any hm (any_inv (P := P) (post := at_ posts) (G := G) (R := R) hone hin hacyc ?_ hrr (fun i o hi e => absurd e (hdst i o hi)) ?_ ?_ _ _ _ _ ?_ (by simp) ?_)
  · intro j v w w' h hr
    unfold at_ at h ⊢
    cases hp : posts[j]? with
    | none => trivial
    | some p => rw [hp] at h; exact hst p (List.mem_of_getElem? hp) v w w' h hr
  · intro i o hi a w hg hd hk hs
    have := Steps.get ops.toList 0 i o hsteps (by simpa using hi) a w hg hd (by rw [Nat.zero_add]; exact hk)
    rw [Nat.zero_add] at this
    split at this
    · rename_i hw
      rw [if_pos hw]
      unfold Does at this ⊢
      generalize (execOp a.eval o).run P w = r at this ⊢
      cases r with
      | ok n w' =>
        cases n <;> simp only at this ⊢
        case value v => exact ⟨this.1, hGR _ _ hg this.1, this.2⟩
        case skip => exact ⟨this.1, hGR _ _ hg this.1, this.2⟩
        case enter f args =>
          refine Calls.mono this fun e w'' he => ?_
          obtain ⟨v, rfl, hr, hp⟩ := he
          exact ⟨v, rfl, hr, hGR _ _ hg hr, hp⟩
      | halt x w' => exact this.elim
    · rename_i hw
      rw [if_neg hw]
      exact this
  · intro l a w' hl hA
    have hv := vals_of ops.toList posts w' (got a) (by simpa using hlen) (fun i o hi => hA.done i o (by simpa using hi) (hl i (by
      have := (List.getElem?_eq_some_iff.1 hi).1
      simpa using this)))
    have := hend _ w' hA.g hv
    have he : a = puts a0 (ops.toList.map (·.dst)) (ops.toList.map (got a)) := by
      refine act_ext (by rw [puts_defers, hA.defs]) (by rw [puts_size, hA.size]) fun t ht => ?_
      by_cases hex : ∃ (i : Nat) (o : Oper), ops[i]? = some o ∧ o.dst = some t
      · obtain ⟨i, o, hi, hd⟩ := hex
        have hi' : ops.toList[i]? = some o := by simpa using hi
        rw [puts_at (ops.toList.map (·.dst)) (ops.toList.map (got a)) a0 t i (got a o) (by rw [List.getElem?_map, hi', Option.map_some, hd]) (by rw [List.getElem?_map, hi', Option.map_some]) ?_ (by rw [← hA.size]; exact ht)]
        · simp only [got, hd]
        · intro j hj
          rw [List.getElem?_map] at hj
          cases hoj : ops.toList[j]? with
          | none => rw [hoj] at hj; cases hj
          | some oj =>
            rw [hoj] at hj
            exact hone j i oj o t (by simpa using hoj) hi (by simpa using hj) hd
      · rw [puts_other _ _ _ _ (fun d hd e => ?_)]
        · exact hA.kept t fun j oj hj e => absurd ⟨j, oj, hj, e⟩ hex
        · subst e
          obtain ⟨o, ho, hd⟩ := List.mem_map.1 hd
          obtain ⟨i, hi⟩ := List.mem_iff_getElem?.1 ho
          exact hex ⟨i, o, by simpa using hi, hd⟩
    rw [he]
    exact this
  · unfold undone
    simp
  · refine ⟨hG, rfl, rfl, fun t ht => rfl, fun j oj hj hlj => ?_, fun j oj hj hlj => ?_⟩
    · rw [Array.getD_eq_getD_getElem?] at hlj
      simp only [Array.getElem?_replicate] at hlj
      split at hlj <;> cases hlj
    · rw [Array.getD_eq_getD_getElem?] at hlj
      simp only [Array.getElem?_replicate] at hlj
      split at hlj <;> cases hlj
/-! Single operations -/
theorem Does.val {P : Program} {o : Oper} {a : Act} {w w' : World} {v : Value} {K : Value → World → Prop} (h : (execOp a.eval o).run P w = .ok (.value v) w') (hk : K v w') : Does P o a w K := by
  unfold Does; rw [h]; exact hk
theorem Does.enter {P : Program} {o : Oper} {a : Act} {w w' : World} {f : FuncId} {args : Array Value} {K : Value → World → Prop} (h : (execOp a.eval o).run P w = .ok (.enter f args) w') (hk : Calls P f args w' fun e w'' => ∃ v, e = .returned v ∧ K v w'') : Does P o a w K := by
  unfold Does; rw [h]; exact hk
theorem wanted_none {o : Oper} {y : Nat → Option Bool} (h : o.guard = none) : Region.wanted o y = true := by unfold Region.wanted; rw [h]
theorem wanted_some {ops : Array Oper} {o oj : Oper} {a : Act} {j : Nat} {b c : Bool} {t : Tmp} (h : o.guard = some (j, c)) (hj : ops[j]? = some oj) (ht : oj.dst = some t) (hv : a.tmps.getD t undef = .bool b) :
    Region.wanted o (yielded ops a.tmps) = (b == c) := by
  have hb : a.tmps[t]? = some (.bool b) := by
    rw [Array.getD_eq_getD_getElem?] at hv
    cases hx : a.tmps[t]? with
    | none => rw [hx] at hv; cases hv
    | some x => rw [hx] at hv; exact congrArg some hv
  unfold Region.wanted yielded
  rw [h]
  simp only [hj, Option.bind_some, ht, hb]
  cases b <;> cases c <;> rfl
theorem wanted_undef {ops : Array Oper} {o oj : Oper} {a : Act} {j : Nat} {c : Bool} {t : Tmp} (h : o.guard = some (j, c)) (hj : ops[j]? = some oj) (ht : oj.dst = some t) (hv : a.tmps.getD t undef = undef) :
    Region.wanted o (yielded ops a.tmps) = false := by
  have hb : ∀ b, a.tmps[t]? ≠ some (.bool b) := by
    intro b hx
    rw [Array.getD_eq_getD_getElem?, hx] at hv
    cases hv
  have hn : (match a.tmps[t]? with | some (.bool b) => some b | _ => none) = none := by
    cases hx : a.tmps[t]? with
    | none => rfl
    | some v =>
      cases v <;> first | rfl | exact absurd hx (hb _)
  unfold Region.wanted yielded
  rw [h]
  simp only [hj, Option.bind_some, ht, hn]
  cases c <;> rfl
/-- This very value. -/
def Is (v : Value) : Value → World → Prop := fun x _ => x = v
theorem Is.st {R : World → World → Prop} (v : Value) : Stab R (Is v) := fun _ _ _ h _ => h
/-- A slice that reads as these bytes. -/
def Sl (l : List Int) : Value → World → Prop := fun v w => ∃ A c, v = .slice A l.length c ∧ l.length ≤ c ∧ Kd.C (Kd.int .u8) w A l.length l
/-- Memory has grown, nothing of it is changed. -/
def Grows (w w' : World) : Prop := Below w.heap.size w w'
theorem Grows.refl (w : World) : Grows w w := Below.refl _ _
theorem Sl.st (l : List Int) : Stab Grows (Sl l) := fun _ _ _ ⟨A, c, he, hc, hC⟩ hr => ⟨A, c, he, hc, Kd.C_below hC hr⟩
/-- A call's answer: p holds of it, and memory has but grown. -/
def Ret (p : Value → World → Prop) (w : World) (e : Ending) (w' : World) : Prop := ∃ v, e = .returned v ∧ p v w' ∧ Below w.heap.size w w'
theorem Does.call {P : Program} {o : Oper} {a : Act} {w : World} {f : FuncId} {args : Array Value} {p : Value → World → Prop} (h : (execOp a.eval o).run P w = .ok (.enter f args) w) (hk : Calls P f args w (Ret p w)) : Does P o a w (fun v w' => Grows w w' ∧ p v w') :=
  Does.enter h (hk.mono fun _ _ ⟨v, he, hp, hb⟩ => ⟨v, he, hb, hp⟩)
theorem ret_sl {e : Ending} {w w' : World} {r : List Int} (h : ∃ v0_ : Value, e = .returned (v0_) ∧ Kd.R (Kd.int .u8) 5 w' w.heap.size (fun _ => True) v0_ r ∧ Below w.heap.size w w') : Ret (Sl r) w e w' := by
  obtain ⟨v, rfl, ho, hb⟩ := h
  obtain ⟨A, c, rfl, hc, hC⟩ := Kd.R_reads ho
  exact ⟨_, rfl, ⟨A, c, rfl, hc, hC⟩, hb⟩
def frameB (ops : Array Oper) (i : Nat) (t : Tmp) : Bool := ops.toList.all fun o => o.dst != some t || (deps o).contains i
theorem frame_of {ops : Array Oper} {i : Nat} {t : Tmp} (h : frameB ops i t = true) : ∀ (j : Nat) (oj : Oper), ops[j]? = some oj → oj.dst = some t → i ∈ deps oj := by
  intro j oj hj hd
  have := List.all_eq_true.1 h oj (List.mem_of_getElem? (by simpa using hj : ops.toList[j]? = some oj))
  rw [hd] at this
  simpa using this
/-! Bytes appended to bytes of one's own -/
/-- Bytes of one's own, made since w0. -/
def OwnB (e : TypeId) (w0 w : World) (v : Value) (xs : List Int) : Prop := (Kd.int .u8).R e w w0.heap.size (fun _ => True) v xs ∧ Below w0.heap.size w0 w
theorem OwnB.empty {e : TypeId} {w0 W : World} (hb : Below w0.heap.size w0 W) : OwnB e w0 (W.alloc (.cells #[] e)) (.slice (some ⟨W.heap.size, 0, none⟩) 0 0) [] :=
  ⟨⟨fun _ _ => trivial, [], own_lit W w0.heap.size e .u8 [] hb.size (by simp), Reps.none _ _⟩, hb.alloc hb.size _⟩
theorem OwnB.nil {e : TypeId} {w0 W : World} (hb : Below w0.heap.size w0 W) : OwnB e w0 W (.slice none 0 0) [] := ⟨Kd.R_nil _ _ _ _ _, hb⟩
theorem OwnB.reads {e : TypeId} {w0 w : World} {v : Value} {xs : List Int} (h : OwnB e w0 w v xs) : ∃ A c, v = .slice A xs.length c ∧ xs.length ≤ c ∧ Kd.C (Kd.int .u8) w A xs.length xs := Kd.R_reads h.1
theorem OwnB.sl {e : TypeId} {w0 w : World} {v : Value} {xs : List Int} (h : OwnB e w0 w v xs) : Sl xs v w := h.reads
section
variable {P : Program} {ops : Array Oper} {rest : List Oper} {o : Oper} {a : Act} {Q : Exit → Act → World → Prop}
theorem app_bytes {w0 W : World} (hgd : o.guard = none) (s x : Operand) (t e : TypeId)
    (ho : o.op = .call { callee := .builtin .append, args := #[s, x], argTypes := #[t, t] })
    (ht : P.underlying t = some (.slice e)) (hinfo : (P.info? e).map (fun i => (i.zero, i.size, i.bytes)) = some (some (.int .u8 0), 1, 1))
    (v : Value) (xs ys : List Int) (A : Option Addr) (m c : Nat) (hs : a.eval s = v) (hx : a.eval x = .slice A m c)
    (HO : OwnB e w0 W v xs) (HC : (Kd.int .u8).C W A m ys) (hl : xs.length + m ≤ 140737488355328)
    (h : ∀ v1 w1, OwnB e w0 w1 v1 (xs ++ ys) → wpList P ops Q rest (a.put o.dst v1) w1) : wpList P ops Q (o :: rest) a W := by
  refine Kd.R_append_rows (Kd.int .u8) (w0 := w0) w0.heap.size hgd s x t e (.int .u8 0) 1 ho ht hinfo rfl (by decide) (by omega) v xs ys A m c (fun _ => True) (fun _ => False) hs hx HO.1 HC (fun _ _ h => h) (fun _ h => h.elim) (fun _ _ => trivial) HO.2 HO.2.size (by omega) ?_
  intro v1 w1 hR hB _ _
  exact h v1 w1 ⟨hR, hB⟩
end
/-! A row of scalars that is just made -/
theorem reps_map {α : Type} (enc : α → Value) {h1 : ∀ x, (enc x).oneCell' = true} (w : World) (base : Nat) (ok : Nat → Prop) (xs : List α) : Reps ((Kd.scalar enc h1).M w base ok) 1 xs (xs.map enc) := by
  refine ⟨by simp, fun j p hj => ?_⟩
  show ((xs.map enc).drop (j * 1)).take 1 = [enc p]
  have hl : j < xs.length := (List.getElem?_eq_some_iff.1 hj).1
  have hp : xs[j] = p := (List.getElem?_eq_some_iff.1 hj).2
  rw [Nat.mul_one, List.drop_eq_getElem_cons (by simpa using hl), List.take_succ_cons, List.take_zero, List.getElem_map, hp]
theorem R_new {α : Type} (enc : α → Value) {h1 : ∀ x, (enc x).oneCell' = true} (W : World) (e : TypeId) (base : Nat) (xs : List α) (hb : base ≤ W.heap.size) (hm : xs.length ≤ 9223372036854775807) :
    (Kd.scalar enc h1).R e (W.alloc (.cells (xs.map enc).toArray e)) base (fun _ => True) (.slice (some ⟨W.heap.size, 0, none⟩) xs.length xs.length) xs := by
  have h := World.ownsRow_lit (base := base) (e := e) (size := 1) W (xs.map enc).toArray xs.length hb (by simpa [maxLen] using hm) (by simp)
  have h2 : (W.alloc (.cells (xs.map enc).toArray e)).ownsRow base e 1 (.slice (some ⟨W.heap.size, 0, none⟩) xs.length xs.length) xs.length (xs.map enc) := by simpa using h
  exact ⟨fun _ _ => trivial, xs.map enc, h2, reps_map enc _ _ _ xs⟩
theorem C_new {α : Type} (enc : α → Value) {h1 : ∀ x, (enc x).oneCell' = true} (W : World) (e : TypeId) (xs : List α) (hm : xs.length ≤ 9223372036854775807) :
    (Kd.scalar enc h1).C (W.alloc (.cells (xs.map enc).toArray e)) (some ⟨W.heap.size, 0, none⟩) xs.length xs := (Kd.R_reads' (R_new enc (h1 := h1) W e W.heap.size xs (Nat.le_refl _) hm)).2.2
/-! Scalars appended to a row of one's own -/
/-- A row of scalars of one's own, made since w0. -/
def OwnS {α : Type} (enc : α → Value) (h1 : ∀ x, (enc x).oneCell' = true) (e : TypeId) (w0 w : World) (v : Value) (xs : List α) : Prop := (Kd.scalar enc h1).R e w w0.heap.size (fun _ => True) v xs ∧ Below w0.heap.size w0 w
section
variable {α : Type} {enc : α → Value} {h1 : ∀ x, (enc x).oneCell' = true} {e : TypeId} {w0 w : World} {v : Value} {xs : List α}
theorem OwnS.nil (hb : Below w0.heap.size w0 w) : OwnS enc h1 e w0 w (.slice none 0 0) [] := ⟨Kd.R_nil _ _ _ _ _, hb⟩
theorem OwnS.new (hb : Below w0.heap.size w0 w) (xs : List α) (hm : xs.length ≤ 9223372036854775807) : OwnS enc h1 e w0 (w.alloc (.cells (xs.map enc).toArray e)) (.slice (some ⟨w.heap.size, 0, none⟩) xs.length xs.length) xs :=
  ⟨R_new enc w e _ xs hb.size hm, hb.alloc hb.size _⟩
theorem OwnS.alloc (h : OwnS enc h1 e w0 w v xs) (o : Obj) : OwnS enc h1 e w0 (w.alloc o) v xs := ⟨Kd.R_alloc h.1 o, h.2.alloc h.2.size o⟩
theorem OwnS.reads (h : OwnS enc h1 e w0 w v xs) : ∃ A c, v = .slice A xs.length c ∧ xs.length ≤ c ∧ (Kd.scalar enc h1).C w A xs.length xs := Kd.R_reads h.1
theorem OwnS.below (h : OwnS enc h1 e w0 w v xs) {w1 : World} (hb : Below w.heap.size w w1) : OwnS enc h1 e w0 w1 v xs := ⟨Kd.R_below h.1 hb, below_then h.2 h.2.size hb⟩
end
theorem app_own {P : Program} {ops : Array Oper} {rest : List Oper} {o : Oper} {a : Act} {Q : Exit → Act → World → Prop} {α : Type} {enc : α → Value} {h1 : ∀ x, (enc x).oneCell' = true} {w0 W : World} (hgd : o.guard = none) (s x : Operand) (t e : TypeId) (z : Value) (bytes : Nat)
    (ho : o.op = .call { callee := .builtin .append, args := #[s, x], argTypes := #[t, t] })
    (ht : P.underlying t = some (.slice e)) (hinfo : (P.info? e).map (fun i => (i.zero, i.size, i.bytes)) = some (some z, 1, bytes)) (hz : z.cells.size = 1) (hb0 : 0 < bytes)
    (v : Value) (xs ys : List α) (A : Option Addr) (m c : Nat) (hs : a.eval s = v) (hx : a.eval x = .slice A m c)
    (HO : OwnS enc h1 e w0 W v xs) (HC : (Kd.scalar enc h1).C W A m ys) (hl : (xs.length + m) * bytes ≤ 140737488355328)
    (h : ∀ v1 w1, OwnS enc h1 e w0 w1 v1 (xs ++ ys) → wpList P ops Q rest (a.put o.dst v1) w1) : wpList P ops Q (o :: rest) a W := by
  refine Kd.R_append_rows (Kd.scalar enc h1) (w0 := w0) w0.heap.size hgd s x t e z bytes ho ht hinfo hz Nat.one_pos hb0 v xs ys A m c (fun _ => True) (fun _ => False) hs hx HO.1 HC (fun _ _ h => h) (fun _ h => h.elim) (fun _ _ => trivial) HO.2 HO.2.size hl ?_
  intro v1 w1 hR hB _ _
  exact h v1 w1 ⟨hR, hB⟩
theorem app_own2 {P : Program} {ops : Array Oper} {rest : List Oper} {o : Oper} {a : Act} {Q : Exit → Act → World → Prop} {α : Type} {enc : α → Value} {h1 : ∀ x, (enc x).oneCell' = true} {w0 W : World} (hgd : o.guard = none) (s x : Operand) (t e : TypeId) (z : Value) (bytes : Nat)
    (ho : o.op = .call { callee := .builtin .append, args := #[s, x], argTypes := #[t, t] })
    (ht : P.underlying t = some (.slice e)) (hinfo : (P.info? e).map (fun i => (i.zero, i.size, i.bytes)) = some (some z, 1, bytes)) (hz : z.cells.size = 1) (hb0 : 0 < bytes)
    (v : Value) (xs ys : List α) (A : Option Addr) (m c : Nat) (hs : a.eval s = v) (hx : a.eval x = .slice A m c)
    (HO : OwnS enc h1 e w0 W v xs) (HC : (Kd.scalar enc h1).C W A m ys) (hl : (xs.length + m) * bytes ≤ 140737488355328)
    (h : ∀ v1 w1, OwnS enc h1 e w0 w1 v1 (xs ++ ys) → W.grownBy w1 v.ownBlock → (v1.ownBlock = v.ownBlock ∨ ∃ b, v1.ownBlock = some b ∧ W.heap.size ≤ b) → wpList P ops Q rest (a.put o.dst v1) w1) : wpList P ops Q (o :: rest) a W := by
  refine Kd.R_append_rows (Kd.scalar enc h1) (w0 := w0) w0.heap.size hgd s x t e z bytes ho ht hinfo hz Nat.one_pos hb0 v xs ys A m c (fun _ => True) (fun _ => False) hs hx HO.1 HC (fun _ _ h => h) (fun _ h => h.elim) (fun _ _ => trivial) HO.2 HO.2.size hl ?_
  intro v1 w1 hR hB hg hat
  exact h v1 w1 ⟨hR, hB⟩ hg hat
/-- A row of other elements is not touched. -/
theorem OwnS.over {α β : Type} {enc : α → Value} {h1 : ∀ x, (enc x).oneCell' = true} {enc' : β → Value} {h1' : ∀ x, (enc' x).oneCell' = true} {e e' : TypeId} {w0 W w1 : World} {u v : Value} {xs : List α} {ys : List β}
    (h : OwnS enc h1 e w0 W u xs) (hv : OwnS enc' h1' e' w0 W v ys) (hne : e ≠ e') (hg : W.grownBy w1 v.ownBlock) (hb : Below w0.heap.size w0 w1) : OwnS enc h1 e w0 w1 u xs :=
  ⟨Kd.R_over h.1 hv.1 (fun q hq => by
    rcases List.mem_cons.1 hq with rfl | hq
    · exact hne
    · exact absurd hq (List.not_mem_nil)) hg, hb⟩
/-- A slice from j on. -/
theorem cut_low {P : Program} {α : Type} {enc : α → Value} {h1 : ∀ x, (enc x).oneCell' = true} (t e : TypeId) {i : TypeInfo} (ht : P.underlying t = some (.slice e)) (hi : P.info? e = some i) (hsz : i.size = 1) (A : Option Addr) (c : Nat) (l : List α) (hc : l.length ≤ c) (j : Nat) (hj : j ≤ l.length) :
    ∃ A' c', (∀ W : World, (Instr.slice t (.slice A l.length c) (some (.int .i64 (j : Int))) none none).run P W = .ok (.slice A' (l.drop j).length c') W) ∧ (l.drop j).length ≤ c' ∧ ∀ w, (Kd.scalar enc h1).C w A l.length l → (Kd.scalar enc h1).C w A' (l.drop j).length (l.drop j) := by
  refine ⟨_, c - j, fun W => ?_, by rw [List.length_drop]; omega, fun w hC => Kd.C_drop hC hj hc⟩
  rw [cut_from (P := P) t e .i64 ht hi 1 hsz A l.length c (j : Int) (Int.natCast_nonneg _) (Int.ofNat_le.2 hj), Int.toNat_natCast, List.length_drop]
  rfl
end Go.Proofs.Ytdglijdgnopgkaa.Reg
