/- A region whose order is open: each operation is shown once, whatever of the others is done, but for those that it waits for and those that wait for it. -/
import Derived.Test.YtiehijephkagbaaDoorZShaPartsXt
namespace Go.Proofs.YtiehijephkagbaaDoor.Sl
open Go.RowKit
set_option linter.unusedVariables false
set_option linter.unusedSimpArgs false
def upd (i : Nat) (done : Nat → Bool) : Nat → Bool := fun k => cond (Nat.beq k i) true (done k)
def updv (i : Nat) (v : Value) (val : Nat → Value) : Nat → Value := fun k => cond (Nat.beq k i) v (val k)
theorem beq_ne {a b : Nat} (h : a ≠ b) : Nat.beq a b = false := by
  cases hb : Nat.beq a b with
  | false => rfl
  | true => exact absurd (Nat.eq_of_beq_eq_true hb) h
theorem upd_same (i : Nat) (done : Nat → Bool) : upd i done i = true := by simp [upd]
theorem upd_ne {i k : Nat} (done : Nat → Bool) (h : k ≠ i) : upd i done k = done k := by simp [upd, beq_ne h]
theorem updv_same (i : Nat) (v : Value) (val : Nat → Value) : updv i v val i = v := by simp [updv]
theorem updv_ne {i k : Nat} (v : Value) (val : Nat → Value) (h : k ≠ i) : updv i v val k = val k := by simp [updv, beq_ne h]
def deps (o : Oper) : List Nat := (o.after.toList.filter (Region.binds .any)).map (·.on)
theorem mem_deps {o : Oper} {j : Nat} : j ∈ deps o ↔ ∃ e ∈ o.after, Region.binds .any e = true ∧ e.on = j := by
  simp only [deps, List.mem_map, List.mem_filter, Array.mem_toList_iff, and_assoc]
def an (An : List (List Nat)) (i : Nat) : List Nat := An.getD i []
def slotsAt (ops : List Oper) (val : Nat → Value) (l : List Nat) : List (Nat × Value) := l.filterMap fun j => (ops[j]?).bind fun o => o.dst.map fun t => (t, val j)
def safe (ops : List Oper) (An : List (List Nat)) (i : Nat) (L : List (Nat × Value)) : List (Nat × Value) := L.filter fun p => ops.zipIdx.all fun oj => oj.1.dst != some p.1 || (an An oj.2).contains i
def okAn (ops : List Oper) (An : List (List Nat)) (n : Nat) : Bool :=
  decide (ops.filterMap (·.dst)).Nodup && (ops.filterMap (·.dst)).all (fun t => decide (t < n)) && ops.zipIdx.all fun oi => (deps oi.1).all (fun j => decide (j < oi.2)) && (an An oi.2).all fun j => (deps oi.1).contains j || (deps oi.1).any fun k => (an An k).contains j
/-- Parts of a value that is known by its slot alone. -/
def cmp (v : Value) (j : Nat) : Value := match v with | .tuple vs => vs.getD j undef | .agg vs => vs.getD j undef | _ => undef
def ptb (v : Value) : Nat := match v with | .pointer (some a) => a.block | _ => 0
def intv (v : Value) : Int := match v with | .int _ n => n | _ => 0
def boolv (v : Value) : Bool := match v with | .bool b => b | _ => false
def strv (v : Value) : ByteArray := match v with | .string s => s | _ => ByteArray.empty
section
variable {P : Program} {ops : List Oper} {An : List (List Nat)} {L : List (Nat × Value)} {n : Nat} {Ps : List (Value → Prop)} {J : (Nat → Bool) → (Nat → Value) → World → Prop} {a0 : Act} {Q : Exit → Act → World → Prop}
/-- What is to be shown of operation i. -/
def StepAt (P : Program) (ops : List Oper) (An : List (List Nat)) (L : List (Nat × Value)) (n : Nat) (Ps : List (Value → Prop)) (J : (Nat → Bool) → (Nat → Value) → World → Prop) (i : Nat) (o : Oper) (p : Value → Prop) : Prop :=
  ∀ (done : Nat → Bool) (val : Nat → Value) (a : Act) (w : World), J done val w → done i = false → (∀ j ∈ an An i, done j = true) → (∀ j, i ∈ an An j → done j = false) → (∀ j ∈ an An i, ∀ q, Ps[j]? = some q → q (val j)) →
    Fr a n (slotsAt ops val (an An i) ++ safe ops An i L) →
    if Region.wanted o (yielded ops.toArray a.tmps) = true then Does P a.eval o w (fun v w' => p v ∧ J (upd i done) (updv i v val) w') else p undef ∧ J (upd i done) (updv i undef val) w
def StepsAt (P : Program) (ops : List Oper) (An : List (List Nat)) (L : List (Nat × Value)) (n : Nat) (Ps0 : List (Value → Prop)) (J : (Nat → Bool) → (Nat → Value) → World → Prop) : Nat → List Oper → List (Value → Prop) → Prop
  | _, [], _ => True
  | i, o :: os, p :: ps => StepAt P ops An L n Ps0 J i o p ∧ StepsAt P ops An L n Ps0 J (i + 1) os ps
  | _, _ :: _, [] => False
theorem StepsAt.get : ∀ {os : List Oper} {ps : List (Value → Prop)} {k i : Nat} {o : Oper}, StepsAt P ops An L n Ps J k os ps → os[i]? = some o → ∃ p, ps[i]? = some p ∧ StepAt P ops An L n Ps J (k + i) o p
  | [], _, _, _, _, _, h => by simp at h
  | _ :: _, [], _, _, _, h, _ => h.elim
  | o' :: os, p :: ps, k, 0, o, h, hi => by simp at hi; subst hi; exact ⟨p, rfl, h.1⟩
  | o' :: os, p :: ps, k, i + 1, o, h, hi => by
    obtain ⟨q, hq, hs⟩ := StepsAt.get (k := k + 1) h.2 (by simpa using hi)
    exact ⟨q, by simpa using hq, by rwa [Nat.add_assoc, Nat.add_comm 1 i] at hs⟩
structure AtR (ops : List Oper) (An : List (List Nat)) (Ps : List (Value → Prop)) (J : (Nat → Bool) → (Nat → Value) → World → Prop) (a0 : Act) (done : Nat → Bool) (val : Nat → Value) (a : Act) (w : World) : Prop where
  j : J done val w
  defs : a.defers = a0.defers
  size : a.tmps.size = a0.tmps.size
  kept : ∀ t : Nat, (∀ (j : Nat) (oj : Oper), ops[j]? = some oj → oj.dst = some t → done j = false) → a.tmps.getD t undef = a0.tmps.getD t undef
  vals : ∀ (j : Nat) (oj : Oper) (t : Nat), ops[j]? = some oj → oj.dst = some t → done j = true → a.tmps.getD t undef = val j
  ps : ∀ (j : Nat) (q : Value → Prop), j < ops.length → Ps[j]? = some q → done j = true → q (val j)
  closed : ∀ j, j < ops.length → done j = true → ∀ i ∈ an An j, done i = true
theorem nodup_idx : ∀ (l : List Oper), (l.filterMap (·.dst)).Nodup → ∀ (i j : Nat) (oi oj : Oper) (t : Nat), l[i]? = some oi → l[j]? = some oj → oi.dst = some t → oj.dst = some t → i = j
  | [], _, _, _, _, _, _, h, _, _, _ => by simp at h
  | o :: l, hn, i, j, oi, oj, t, hi, hj, ei, ej => by
    have hmem : ∀ (k : Nat) (ok : Oper), l[k]? = some ok → ok.dst = some t → t ∈ l.filterMap (·.dst) := fun k ok hk hd => List.mem_filterMap.2 ⟨ok, List.mem_of_getElem? hk, hd⟩
    have hl : (l.filterMap (·.dst)).Nodup := by
      rw [List.filterMap_cons] at hn
      cases hd : o.dst with
      | none => simpa [hd] using hn
      | some t => rw [hd] at hn; exact (List.nodup_cons.1 hn).2
    cases i with
    | zero =>
      cases j with
      | zero => rfl
      | succ j =>
        simp at hi hj
        subst hi
        rw [List.filterMap_cons, ei] at hn
        exact absurd (hmem j oj hj ej) (List.nodup_cons.1 hn).1
    | succ i =>
      cases j with
      | zero =>
        simp at hi hj
        subst hj
        rw [List.filterMap_cons, ej] at hn
        exact absurd (hmem i oi hi ei) (List.nodup_cons.1 hn).1
      | succ j => rw [nodup_idx l hl i j oi oj t (by simpa using hi) (by simpa using hj) ei ej]
def undone (l : Array Bool) : Nat := (l.toList.filter (! ·)).length
theorem filter_set : ∀ (l : List Bool) (i : Nat), l[i]? = some false → ((l.set i true).filter (! ·)).length + 1 = (l.filter (! ·)).length
  | [], _, h => by simp at h
  | x :: l, 0, h => by simp at h; subst h; simp
  | x :: l, i + 1, h => by
    have := filter_set l i (by simpa using h)
    cases x <;> simp at this ⊢ <;> omega
theorem undone_set {l : Array Bool} {i : Nat} (h : l[i]? = some false) : undone (l.setIfInBounds i true) + 1 = undone l := by
  unfold undone
  rw [Array.toList_setIfInBounds]
  exact filter_set l.toList i (by simpa using h)
theorem get_false {l : Array Bool} {i : Nat} (h : l.getD i true = false) : l[i]? = some false := by
  rw [Array.getD_eq_getD_getElem?] at h
  cases hl : l[i]? with
  | none => rw [hl] at h; simp at h
  | some b => rw [hl] at h; simp at h; rw [h]
theorem getD_false {l : Array Bool} {i : Nat} (h : l[i]? = some false) : l.getD i false = false := by rw [Array.getD_eq_getD_getElem?, h]; rfl
theorem undone_zero {l : Array Bool} (h : undone l = 0) : ∀ i : Nat, l[i]? ≠ some false := by
  intro i hi
  have hm : false ∈ l.toList := by rw [List.mem_iff_getElem?]; exact ⟨i, by simpa using hi⟩
  have : false ∈ l.toList.filter (! ·) := List.mem_filter.2 ⟨hm, rfl⟩
  unfold undone at h
  rw [List.length_eq_zero_iff.1 h] at this
  cases this
theorem all_done {l : Array Bool} (hs : l.size = ops.length) (hacyc : ∀ (i : Nat) (o : Oper), ops[i]? = some o → ∀ j ∈ deps o, j < i) (h : Region.ready .any ops.toArray l = []) : ∀ i : Nat, i < ops.length → l.getD i false = true := by
  intro i
  induction i using Nat.strongRecOn with
  | _ i ih =>
    intro hi
    cases hb : l.getD i false with
    | true => rfl
    | false =>
      have hi' : i < l.size := by omega
      have : i ∈ Region.ready .any ops.toArray l := by
        rw [mem_ready]
        refine ⟨?_, ops[i], by simp [hi], fun e he hbind => ?_⟩
        · rw [Array.getD_eq_getD_getElem?] at hb ⊢
          simp [hi'] at hb ⊢
          exact hb
        · have hlt := hacyc i ops[i] (by simp [hi]) e.on (mem_deps.2 ⟨e, he, hbind, rfl⟩)
          exact ih e.on hlt (by omega)
      rw [h] at this
      cases this
theorem upd_get {l : Array Bool} {i : Nat} (h : i < l.size) : (fun j => (l.setIfInBounds i true).getD j false) = upd i (fun j => l.getD j false) := by
  funext j
  unfold upd
  simp only [Array.getD_eq_getD_getElem?]
  by_cases e : i = j
  · subst e; simp [h]
  · rw [Array.getElem?_setIfInBounds_ne e, beq_ne (fun e' => e e'.symm)]; rfl
theorem put_same {a : Act} {t : Nat} {v : Value} (h : t < a.tmps.size) : (a.put (some t) v).tmps.getD t undef = v := by simp [Act.put, Array.getD, h]
theorem put_other {a : Act} {d : Option Nat} {t : Nat} {v : Value} (h : d ≠ some t) : (a.put d v).tmps.getD t undef = a.tmps.getD t undef := by
  cases d with
  | none => rfl
  | some d =>
    have hne : d ≠ t := fun e => h (e ▸ rfl)
    simp only [Act.put, Array.getD_eq_getD_getElem?, Array.getElem?_setIfInBounds_ne hne]
theorem AtR.step {done : Nat → Bool} {val : Nat → Value} {a : Act} {w w' : World} {i : Nat} {o : Oper} {v : Value} {p : Value → Prop} (h : AtR ops An Ps J a0 done val a w) (hi : ops[i]? = some o) (hp : Ps[i]? = some p)
    (hone : ∀ (i j : Nat) (oi oj : Oper) (t : Nat), ops[i]? = some oi → ops[j]? = some oj → oi.dst = some t → oj.dst = some t → i = j) (hin : ∀ t, o.dst = some t → t < a0.tmps.size)
    (han : ∀ j ∈ an An i, done j = true) (hv : p v) (hj : J (upd i done) (updv i v val) w') : AtR ops An Ps J a0 (upd i done) (updv i v val) (a.put o.dst v) w' := by
  refine ⟨hj, by rw [show (a.put o.dst v).defers = a.defers by cases o.dst <;> rfl, h.defs], by rw [show (a.put o.dst v).tmps.size = a.tmps.size by cases o.dst <;> simp [Act.put], h.size], fun t ht => ?_, fun j oj t hoj hd hdn => ?_, fun j q hjl hq hdn => ?_, fun j hjl hdn k hk => ?_⟩
  · have h1 : o.dst ≠ some t := fun e => by have := ht i o hi e; rw [upd_same] at this; cases this
    rw [put_other h1]
    refine h.kept t fun j oj hoj e => ?_
    have := ht j oj hoj e
    by_cases hji : j = i
    · subst hji; rw [upd_same] at this; cases this
    · rwa [upd_ne _ hji] at this
  · by_cases hji : j = i
    · subst hji
      obtain rfl : o = oj := by rw [hi] at hoj; exact Option.some.inj hoj
      rw [hd, put_same (by rw [h.size]; exact hin t hd), updv_same]
    · rw [upd_ne _ hji] at hdn
      rw [updv_ne _ _ hji, put_other (fun e => hji (hone i j o oj t hi hoj e hd).symm)]
      exact h.vals j oj t hoj hd hdn
  · by_cases hji : j = i
    · subst hji
      rw [hp] at hq; obtain rfl := Option.some.inj hq
      rw [updv_same]; exact hv
    · rw [upd_ne _ hji] at hdn; rw [updv_ne _ _ hji]; exact h.ps j q hjl hq hdn
  · have key : done k = true := by
      by_cases hji : j = i
      · subst hji; exact han k hk
      · rw [upd_ne _ hji] at hdn; exact h.closed j hjl hdn k hk
    by_cases hki : k = i
    · subst hki; exact upd_same _ _
    · rw [upd_ne _ hki]; exact key
theorem look_mem : ∀ {L : List (Nat × Value)} {t : Nat} {v : Value}, look t L = some v → ∃ p ∈ L, p.1 = t
  | [], _, _, h => by cases h
  | (k, u) :: l, t, v, h => by
    simp only [look] at h
    cases hb : Nat.beq k t with
    | true => exact ⟨_, List.mem_cons_self, Nat.eq_of_beq_eq_true hb⟩
    | false =>
      rw [hb] at h
      obtain ⟨q, hq, e⟩ := look_mem (L := l) h
      exact ⟨q, List.mem_cons_of_mem _ hq, e⟩
theorem AtR.fr {done : Nat → Bool} {val : Nat → Value} {a : Act} {w : World} {i : Nat} (h : AtR ops An Ps J a0 done val a w) (F : Fr a0 n L) (l : List Nat) (hl : ∀ j ∈ l, done j = true) (L' : List (Nat × Value)) (hL' : ∀ p ∈ L', ∀ (j : Nat) (oj : Oper), ops[j]? = some oj → oj.dst = some p.1 → done j = false) (hsub : ∀ t v, look t L' = some v → look t L = some v) : Fr a n (slotsAt ops val l ++ L') := by
  refine ⟨by rw [h.size, F.size], by rw [h.defs, F.defers], fun t v hv => ?_⟩
  have key : ∀ (S : List (Nat × Value)), (∀ p ∈ S, a.tmps.getD p.1 undef = p.2) → look t (S ++ L') = some v → a.tmps.getD t undef = v := by
    intro S
    induction S with
    | nil =>
      intro _ hv
      have hv' : look t L' = some v := hv
      have hm := look_mem hv'
      obtain ⟨p, hp, rfl⟩ := hm
      rw [h.kept p.1 (hL' p hp)]
      exact F.get (hsub _ _ hv')
    | cons p S ih =>
      obtain ⟨k, u⟩ := p
      intro hS hv
      simp only [List.cons_append, look] at hv
      cases hb : Nat.beq k t with
      | true => rw [hb] at hv; obtain rfl : u = v := Option.some.inj hv; obtain rfl := Nat.eq_of_beq_eq_true hb; exact hS _ List.mem_cons_self
      | false => rw [hb] at hv; exact ih (fun q hq => hS q (List.mem_cons_of_mem _ hq)) hv
  refine key _ (fun p hp => ?_) hv
  obtain ⟨j, hj, hb⟩ := List.mem_filterMap.1 hp
  cases ho : ops[j]? with
  | none => rw [ho] at hb; cases hb
  | some oj =>
    rw [ho] at hb
    cases hd : oj.dst with
    | none => simp [hd] at hb
    | some t' => simp [hd] at hb; subst hb; exact h.vals j oj t' ho hd (hl j hj)
theorem look_filter (g : Nat → Bool) : ∀ (L : List (Nat × Value)) (t : Nat) (v : Value), look t (L.filter fun p => g p.1) = some v → look t L = some v
  | [], _, _, h => h
  | (k, u) :: l, t, v, h => by
    simp only [look]
    cases hb : Nat.beq k t with
    | true =>
      obtain rfl := Nat.eq_of_beq_eq_true hb
      cases hg : g k with
      | true => simp only [List.filter_cons, hg, if_true, look, hb] at h; exact h
      | false =>
        simp only [List.filter_cons, hg] at h
        exfalso
        have : ∀ (l : List (Nat × Value)), look k (l.filter fun p => g p.1) = none := by
          intro l
          induction l with
          | nil => rfl
          | cons p l ih =>
            obtain ⟨k', u'⟩ := p
            cases hg' : g k' with
            | true =>
              simp only [List.filter_cons, hg', if_true, look]
              have : k' ≠ k := fun e => by subst e; rw [hg] at hg'; cases hg'
              rw [beq_ne this]; exact ih
            | false => simp only [List.filter_cons, hg']; exact ih
        rw [if_neg (by simp), this] at h
        cases h
    | false =>
      cases hg : g k with
      | true => simp only [List.filter_cons, hg, if_true, look, hb] at h; exact look_filter g l t v h
      | false => simp only [List.filter_cons, hg] at h; exact look_filter g l t v (by simpa using h)
theorem safe_sub {i : Nat} (t : Nat) (v : Value) (h : look t (safe ops An i L) = some v) : look t L = some v :=
  look_filter (fun k => ops.zipIdx.all fun oj => oj.1.dst != some k || (an An oj.2).contains i) L t v h
theorem r_any {id : Nat} {a0 : Act} {w : World} (Ps : List (Value → Prop)) (J : (Nat → Bool) → (Nat → Value) → World → Prop) (An : List (List Nat)) (F : Fr a0 n L) (hm : P.follows .mixedOrders = true) (hok : okAn ops An n = true)
    (h0 : J (fun _ => false) (fun _ => undef) w.drew) (hstep : StepsAt P ops An L n Ps J 0 ops Ps)
    (hend : ∀ (done : Nat → Bool) (val : Nat → Value) (a : Act) (w' : World), (∀ j, j < ops.length → done j = true) → J done val w' → (∀ j q, j < ops.length → Ps[j]? = some q → q (val j)) → Fr a n (slotsAt ops val (List.range ops.length) ++ safe ops An ops.length L) → Q .normal a w') :
    (Code.region id ops.toArray true).wp P Q a0 w := by
  simp only [okAn, Bool.and_eq_true, decide_eq_true_eq, List.all_eq_true, Bool.or_eq_true, List.any_eq_true, List.contains_iff_mem] at hok
  obtain ⟨⟨hnd, hin⟩, hall⟩ := hok
  have hone := nodup_idx ops hnd
  have hdst : ∀ (i : Nat) (o : Oper) (t : Nat), ops[i]? = some o → o.dst = some t → t < a0.tmps.size := fun i o t hi hd => by
    rw [F.size]; exact hin t (List.mem_filterMap.2 ⟨o, List.mem_of_getElem? hi, hd⟩)
  have hz : ∀ (i : Nat) (o : Oper), ops[i]? = some o → (o, i) ∈ ops.zipIdx := fun i o hi => List.mk_mem_zipIdx_iff_getElem?.2 hi
  have hacyc : ∀ (i : Nat) (o : Oper), ops[i]? = some o → ∀ j ∈ deps o, j < i := fun i o hi => (hall _ (hz i o hi)).1
  have hanc : ∀ (i : Nat) (o : Oper), ops[i]? = some o → ∀ j ∈ an An i, j ∈ deps o ∨ ∃ k ∈ deps o, j ∈ an An k := fun i o hi => (hall _ (hz i o hi)).2
  have key : ∀ (fuel : Nat) (l : Array Bool) (val : Nat → Value) (a : Act) (w : World), undone l ≤ fuel → l.size = ops.length → AtR ops An Ps J a0 (fun j => l.getD j false) val a w → wpAny P .any ops.toArray Q fuel l a w := by
    intro fuel
    have fin : ∀ (l : Array Bool) (val : Nat → Value) (a : Act) (w : World), l.size = ops.length → AtR ops An Ps J a0 (fun j => l.getD j false) val a w → Region.ready .any ops.toArray l = [] → Q .normal a w := by
      intro l val a w hs hA hn
      have hd := all_done hs hacyc hn
      refine hend _ val a w hd hA.j (fun j q hj hq => hA.ps j q hj hq (hd j hj)) (hA.fr (i := 0) F _ (fun j hj => hd j (List.mem_range.1 hj)) _ (fun p hp j oj hoj hdj => ?_) (fun t v => safe_sub t v))
      have := (List.mem_filter.1 hp).2
      rw [List.all_eq_true] at this
      have := this _ (hz j oj hoj)
      simp only [hdj, Bool.or_eq_true, bne_self_eq_false, Bool.false_eq_true, false_or, List.contains_iff_mem] at this
      have hjl : j < ops.length := (List.getElem?_eq_some_iff.1 hoj).1
      -- the number of operations is none of them
      exfalso
      have hb : ∀ (i : Nat), i < ops.length → ∀ k ∈ an An i, k < ops.length := by
        intro i
        induction i using Nat.strongRecOn with
        | _ i ih =>
          intro hi k hk
          have ho : ops[i]? = some ops[i] := by simp [hi]
          rcases hanc i _ ho k hk with h | ⟨k', hk', h⟩
          · have := hacyc i _ ho k h; omega
          · have := hacyc i _ ho k' hk'; exact ih k' this (by omega) k h
      have := hb j hjl _ this
      omega
    induction fuel with
    | zero =>
      intro l val a w hf hs hA
      have hn : Region.ready .any ops.toArray l = [] := by
        rw [List.eq_nil_iff_forall_not_mem]
        intro i hi
        exact undone_zero (by omega) i (get_false (mem_ready.1 hi).1)
      exact ⟨hn, fin l val a w hs hA hn⟩
    | succ fuel ih =>
      intro l val a w hf hs hA
      refine ⟨fun hn => fin l val a w hs hA hn, fun i hi => ?_⟩
      obtain ⟨hun, o, ho', hdep⟩ := mem_ready.1 hi
      have ho : ops[i]? = some o := by simpa using ho'
      have hg := get_false hun
      have hlt : i < l.size := (Array.getElem?_eq_some_iff.1 hg).1
      have hset := undone_set hg
      have hdeps : ∀ j ∈ deps o, l.getD j false = true := fun j hj => by
        obtain ⟨e, he, hb, rfl⟩ := mem_deps.1 hj
        exact hdep e he hb
      have hil : i < ops.length := by omega
      have han : ∀ j ∈ an An i, l.getD j false = true := fun j hj => by
        rcases hanc i o ho j hj with h | ⟨k, hk, h⟩
        · exact hdeps j h
        · have hki := hacyc i o ho k hk
          exact hA.closed k (by omega) (hdeps k hk) j h
      have hdesc : ∀ j, i ∈ an An j → l.getD j false = false := fun j hj => by
        cases hb : l.getD j false with
        | false => rfl
        | true =>
          have hjl : j < ops.length := by
            rcases Nat.lt_or_ge j ops.length with h | h
            · exact h
            · rw [Array.getD_eq_getD_getElem?, Array.getElem?_eq_none (by omega)] at hb; cases hb
          have := hA.closed j hjl hb i hj
          rw [getD_false hg] at this; cases this
      obtain ⟨p, hp, hs'⟩ := hstep.get ho
      rw [Nat.zero_add] at hs'
      have hstep' := hs' _ val a w hA.j (getD_false hg) han hdesc (fun j hj q hq => hA.ps j q (by
        have hjd := hanc i o ho j hj
        rcases hjd with h | ⟨k, hk, h⟩
        · have := hacyc i o ho j h; omega
        · rcases Nat.lt_or_ge j ops.length with h' | h'
          · exact h'
          · have := han j hj; rw [Array.getD_eq_getD_getElem?, Array.getElem?_eq_none (by omega)] at this; cases this) hq (han j hj)) (hA.fr (i := 0) F _ han _ (fun q hq j oj hoj hdj => by
        have := (List.mem_filter.1 hq).2
        rw [List.all_eq_true] at this
        have := this _ (hz j oj hoj)
        simp only [hdj, Bool.or_eq_true, bne_self_eq_false, Bool.false_eq_true, false_or, List.contains_iff_mem] at this
        exact hdesc j this) (fun t v => safe_sub t v))
      unfold wpOp
      have hgo : ∀ (v : Value) (w' : World), (p v ∧ J (upd i fun j => l.getD j false) (updv i v val) w') → wpAny P .any ops.toArray Q fuel (l.setIfInBounds i true) (a.put o.dst v) w' := fun v w' hv => by
        refine ih _ (updv i v val) _ _ (by omega) (by simp [hs]) ?_
        rw [upd_get hlt]
        exact hA.step ho hp hone (fun t hd => hdst i o t ho hd) han hv.1 hv.2
      simp only [ho']
      by_cases hw : Region.wanted o (yielded ops.toArray a.tmps) = true
      · rw [if_pos hw] at hstep' ⊢
        exact .inl (hstep'.wp fun v w' hv => hgo v w' hv)
      · rw [if_neg hw] at hstep' ⊢
        exact hgo undef w hstep'
  refine wp_region_any hm ?_
  have hinit : AtR ops An Ps J a0 (fun j => (Array.replicate ops.length false).getD j false) (fun _ => undef) a0 w.drew := by
    have e : (fun j => (Array.replicate ops.length false).getD j false) = fun _ => false := by
      funext j; rw [Array.getD_eq_getD_getElem?, Array.getElem?_replicate]; split <;> rfl
    rw [e]
    exact ⟨h0, rfl, rfl, fun _ _ => rfl, fun _ _ _ _ _ h => (by cases h), fun _ _ _ _ h => (by cases h), fun _ _ h => (by cases h)⟩
  have := key ops.length (Array.replicate ops.length false) (fun _ => undef) a0 w.drew (by unfold undone; simp) (by simp) hinit
  have e2 : ops.toArray.size = ops.length := List.size_toArray
  rw [e2]
  exact this
end
end Go.Proofs.YtiehijephkagbaaDoor.Sl
