/- A map whose keys are three bytes, and whose values are whole numbers from 0 on: owned whole. -/
import Derived.Test.YtdglijdgnopgkaaZLzAddsMk
import Derived.WideKeyArr
import Derived.WideKeyMaps2
import Derived.MapKept
namespace Go.Proofs.Ytdglijdgnopgkaa.Sl
open Go.RowKit Go.WideMaps
set_option linter.unusedVariables false
set_option linter.unusedSimpArgs false
set_option linter.unusedSectionVars false
structure K3 where
  a : Int
  b : Int
  c : Int
deriving DecidableEq
def K3.v (q : K3) : Value := .agg #[.int .u8 q.a, .int .u8 q.b, .int .u8 q.c]
def K3.ok (q : K3) : Prop := (0 ≤ q.a ∧ q.a < 256) ∧ (0 ≤ q.b ∧ q.b < 256) ∧ (0 ≤ q.c ∧ q.c < 256)
theorem K3.inj {p q : K3} (h : p.v = q.v) : p = q := by
  cases p; cases q
  simp only [K3.v, Value.agg.injEq, Array.mk.injEq, List.cons.injEq, Value.int.injEq, true_and, and_true] at h
  obtain ⟨rfl, rfl, rfl⟩ := h; rfl
structure Key3 (P : Program) (k e : TypeId) : Prop where
  arr : ArrKey P k e 3
  he : P.underlying e = some (.int .u8)
  hsz : ∃ m, P.types.size = m + 1
theorem Key3.of {P : Program} {k e : TypeId} (K : Key3 P k e) {q : K3} (h : q.ok) : ∃ l, keyOf P k q.v = some l := by
  have A := K.arr
  have hkt := A.keyType K.hsz
  obtain ⟨m, hm⟩ := K.hsz
  have wa : (Lit.int .u8 q.a).wf = true := by have := h.1; simp only [Lit.wf, show IntKind.u8.min = 0 from rfl, show IntKind.u8.max = 255 from rfl, Bool.and_eq_true, decide_eq_true_eq]; omega
  have wb : (Lit.int .u8 q.b).wf = true := by have := h.2.1; simp only [Lit.wf, show IntKind.u8.min = 0 from rfl, show IntKind.u8.max = 255 from rfl, Bool.and_eq_true, decide_eq_true_eq]; omega
  have wc : (Lit.int .u8 q.c).wf = true := by have := h.2.2; simp only [Lit.wf, show IntKind.u8.min = 0 from rfl, show IntKind.u8.max = 255 from rfl, Bool.and_eq_true, decide_eq_true_eq]; omega
  refine ⟨.string (keyBytes [.int .u8 q.a, .int .u8 q.b, .int .u8 q.c]), ?_⟩
  unfold keyOf K3.v
  simp only [A.hu]
  rw [if_pos (by simp [hkt, Value.formed, A.hu, A.size]), hm]
  unfold Program.keyLits
  simp only [A.hu, Value.cells]
  rw [if_pos (by rw [A.size]; rfl), show List.range 3 = [0, 1, 2] from rfl, List.mapM_cons, List.mapM_cons, List.mapM_cons, List.mapM_nil]
  simp [A.one, Program.keyLits, K.he, wa, wb, wc]
structure MOk (P : Program) (k : TypeId) (es : Array MapEntry) (g : K3 → Int) : Prop where
  keys : ∀ e ∈ es.toList, ∃ l, keyOf P k e.key = some l
  apart : (es.toList.map (·.key)).Nodup
  has : ∀ q : K3, (g q = -1 ∧ ∀ e ∈ es.toList, e.key ≠ q.v) ∨ (0 ≤ g q ∧ ∃ e ∈ es.toList, e.key = q.v ∧ e.val = .int .i64 (g q))
def MapR (P : Program) (k : TypeId) (b : Nat) (g : K3 → Int) : Res where
  dom x := x = b
  ok h := ∃ es clock, h b = some (.map es clock) ∧ MOk P k es g
  loc := fun hl ⟨es, c, h, m⟩ => ⟨es, c, (hl _ rfl).trans h, m⟩
  live := fun {h x} ⟨es, c, hb, _⟩ hx => by obtain rfl : x = b := hx; exact ⟨_, hb⟩
def mpb : Value → Nat | .map (some b) => b | _ => 0
def lk (x : Int) : Int := if x = -1 then 0 else x
section
variable {P : Program} {ρ : Operand → Value} {o : Oper} {w : World} {fm : Fm} {rs : List Res} {x y z : Operand} {T k e el : TypeId} {b i : Nat} {g : K3 → Int} {q : K3} {n : Int}
theorem d_mkmap (k : TypeId) (H : Holds w fm rs) (hop : o.op = .makeMap T none) : Does P ρ o w fun v' w' => ∃ p, v' = .map (some p) ∧ Holds w' fm (MapR P k p (fun _ => -1) :: rs) := by
  refine Does.of (v := .map (some w.heap.size)) (w' := w.alloc (.map #[] 0)) (by simp [execOp, hop, Instr.makeMap, run_newObj_alloc, Result.andThen]) ⟨_, rfl, H.alloc _ _ (fun b hb => hb) ⟨#[], 0, alloc_ok _ _, ⟨fun e he => by simp at he, by simp, fun q => .inl ⟨rfl, fun e he => by simp at he⟩⟩⟩⟩
theorem Holds.mapOk (H : Holds w fm rs) (hr : rs[i]? = some (MapR P k b g)) : ∃ es clock, w.heap[b]? = some (.map es clock) ∧ MOk P k es g := H.oks _ (mem_get hr)
theorem x_look (K : Key3 P k e) (H : Holds w fm rs) (hr : rs[i]? = some (MapR P k b g)) (hop : o.op = .lookup T x y true) (ht : P.underlying T = some (.map k el)) (hz : ∀ w, (zeroValue el).run P w = .ok (.int .i64 0) w) (hx : ρ x = .map (some b)) (hy : ρ y = q.v) (hq : q.ok) :
    (execOp ρ o).run P w = .ok (.value (.tuple #[.int .i64 (lk (g q)), .bool (decide (g q ≠ -1))])) w := by
  obtain ⟨es, clock, hb, hm⟩ := H.mapOk hr
  obtain ⟨l, hl⟩ := K.of hq
  have L := K.arr.law
  rcases L.find w hl es.toList hm.keys with ⟨h1, h2⟩ | ⟨j, e0, h1, h2, h3⟩
  · have hg : g q = -1 := by
      rcases hm.has q with h | ⟨_, e, he, hk, _⟩
      · exact h.1
      · exact (h2 e he hk).elim
    have hlk : lk (g q) = 0 := by rw [hg]; rfl
    have hd : decide (g q ≠ -1) = false := by rw [hg]; rfl
    rw [hlk, hd]
    simp [execOp, hop, hx, hy, Instr.lookup, run_underlying ht, MapKept.run_getObj_map hb, L.check w _ hl, h1, hz, Result.andThen]
  · rcases hm.has q with h | ⟨h0, e', he', hk', hv'⟩
    · exact (h.2 e0 (List.mem_of_getElem? h2) h3).elim
    · have he : e' = e0 := by
        obtain ⟨j', hj', rfl⟩ := List.mem_iff_getElem.1 he'
        obtain ⟨hj, hje⟩ := List.getElem?_eq_some_iff.1 h2
        have hn := List.pairwise_iff_getElem.1 hm.apart
        rcases Nat.lt_trichotomy j' j with hlt | rfl | hlt
        · exact (hn j' j (by simpa using hj') (by simpa using hj) hlt (by rw [List.getElem_map, List.getElem_map, hk', hje, h3])).elim
        · exact hje
        · exact (hn j j' (by simpa using hj) (by simpa using hj') hlt (by rw [List.getElem_map, List.getElem_map, hk', hje, h3])).elim
      subst he
      have hlk : lk (g q) = g q := by unfold lk; rw [if_neg (by omega)]
      have hd : decide (g q ≠ -1) = true := decide_eq_true (by omega)
      rw [hlk, hd]
      simp [execOp, hop, hx, hy, Instr.lookup, run_underlying ht, MapKept.run_getObj_map hb, L.check w _ hl, h1, hv', Result.andThen]
theorem d_mapset (K : Key3 P k e) (H : Holds w fm rs) (hr : rs[i]? = some (MapR P k b g)) (hop : o.op = .mapUpdate T x y z) (ht : P.underlying T = some (.map k el)) (hx : ρ x = .map (some b)) (hy : ρ y = q.v) (hz : ρ z = .int .i64 n) (hq : q.ok) (hn : 0 ≤ n) :
    Does P ρ o w fun v' w' => v' = undef ∧ Holds w' fm (rs.set i (MapR P k b (fun q' => if q' = q then n else g q'))) := by
  obtain ⟨es, clock, hb, hm⟩ := H.mapOk hr
  obtain ⟨l, hl⟩ := K.of hq
  have L := K.arr.law
  have put : ∀ es' clock', MOk P k es' (fun q' => if q' = q then n else g q') → Holds { w with heap := w.heap.setIfInBounds b (.map es' clock') } fm (rs.set i (MapR P k b (fun q' => if q' = q then n else g q'))) := fun es' clock' hok =>
    H.chg (w' := { w with heap := w.heap.setIfInBounds b (.map es' clock') }) hr rfl rfl rfl (fun b' _ hne => (MapKept.heap_set hb).2 b' (fun e => hne e)) _ (fun b' h => .inl h) ⟨es', clock', (MapKept.heap_set hb).1, hok⟩
  rcases L.find w hl es.toList hm.keys with ⟨h1, h2⟩ | ⟨j, e0, h1, h2, h3⟩
  · refine Does.skip (w' := { w with heap := w.heap.setIfInBounds b (.map (es.push ⟨q.v, .int .i64 n, clock⟩) (clock + 1)) }) (by simp [execOp, hop, hx, hy, hz, Instr.mapUpdate, run_underlying ht, MapKept.run_getObj_map hb, L.check w false hl, h1, MapKept.run_setObj_map _ hb, Result.andThen]) ⟨rfl, put _ _ ⟨fun e he => ?_, ?_, fun q' => ?_⟩⟩
    · simp only [Array.toList_push, List.mem_append, List.mem_singleton] at he
      rcases he with he | rfl
      · exact hm.keys e he
      · exact ⟨l, hl⟩
    · rw [Array.toList_push, List.map_append, List.nodup_append]
      refine ⟨hm.apart, by simp, fun a ha b' hb' => ?_⟩
      obtain ⟨e, he, rfl⟩ := List.mem_map.1 ha
      simp only [List.map_cons, List.map_nil, List.mem_singleton] at hb'
      subst hb'
      exact h2 e he
    · by_cases e : q' = q
      · subst e; exact .inr ⟨by simpa using hn, ⟨q'.v, .int .i64 n, clock⟩, by simp, rfl, by simp⟩
      · simp only [if_neg e]
        rcases hm.has q' with ⟨ha, hb'⟩ | ⟨ha, e1, he1, hk1, hv1⟩
        · refine .inl ⟨ha, fun e2 he2 => ?_⟩
          simp only [Array.toList_push, List.mem_append, List.mem_singleton] at he2
          rcases he2 with he2 | rfl
          · exact hb' e2 he2
          · exact fun h => e (K3.inj h).symm
        · exact .inr ⟨ha, e1, by simp only [Array.toList_push, List.mem_append]; exact .inl he1, hk1, hv1⟩
  · have hj : es[j]? = some e0 := by simpa using h2
    have hjl : j < es.toList.length := (List.getElem?_eq_some_iff.1 h2).1
    have hje : es.toList[j] = e0 := (List.getElem?_eq_some_iff.1 h2).2
    have hlist : (es.modify j fun e' => { e' with key := q.v, val := .int .i64 n }).toList = es.toList.set j { e0 with key := q.v, val := .int .i64 n } := by
      rw [Array.toList_modify, ChangeMaps.modify_eq_set _ _ _ _ h2]
    have hkeys : (es.toList.set j { e0 with key := q.v, val := .int .i64 n }).map (·.key) = es.toList.map (·.key) := by
      rw [List.map_set]
      refine List.ext_getElem? fun m => ?_
      rw [List.getElem?_set]
      split
      · rename_i hm'; subst hm'
        rw [if_pos (by simpa using hjl), List.getElem?_map, h2, Option.map_some, h3]
      · rfl
    refine Does.skip (w' := { w with heap := w.heap.setIfInBounds b (.map (es.modify j fun e' => { e' with key := q.v, val := .int .i64 n }) clock) }) (by simp [execOp, hop, hx, hy, hz, Instr.mapUpdate, run_underlying ht, MapKept.run_getObj_map hb, L.check w false hl, h1, hj, h3, L.stays w hl, MapKept.run_setObj_map _ hb, Result.andThen]) ⟨rfl, put _ _ ⟨fun e he => ?_, ?_, fun q' => ?_⟩⟩
    · rw [hlist] at he
      rcases List.mem_or_eq_of_mem_set he with he | rfl
      · exact hm.keys e he
      · exact ⟨l, hl⟩
    · rw [hlist, hkeys]; exact hm.apart
    · by_cases e : q' = q
      · subst e; exact .inr ⟨by simpa using hn, { e0 with key := q'.v, val := .int .i64 n }, by rw [hlist]; exact List.mem_set hjl _, rfl, by simp⟩
      · simp only [if_neg e]
        rcases hm.has q' with ⟨ha, hb'⟩ | ⟨ha, e1, he1, hk1, hv1⟩
        · refine .inl ⟨ha, fun e2 he2 => ?_⟩
          rw [hlist] at he2
          rcases List.mem_or_eq_of_mem_set he2 with he2 | rfl
          · exact hb' e2 he2
          · exact fun h => e (K3.inj h).symm
        · refine .inr ⟨ha, e1, ?_, hk1, hv1⟩
          rw [hlist]
          obtain ⟨m, hml, rfl⟩ := List.mem_iff_getElem.1 he1
          have hne : j ≠ m := fun hjm => by subst hjm; rw [hje, h3] at hk1; exact e (K3.inj hk1).symm
          exact List.mem_iff_getElem.2 ⟨m, by simpa using hml, by rw [List.getElem_set_ne hne]⟩
/-- A row of bytes that is taken for a string's: kept, but read alone from then on. -/
theorem d_mark {v : Value} {xs : List Int} (H : Holds w fm rs) (hr : rs[i]? = some (Own (tI .u8) e v xs)) (hne : 0 < xs.length) (hop : o.op = .convert T T x) (ht : P.underlying T = some (.slice e)) (he : P.underlying e = some (.int .u8)) (hx : ρ x = v) :
    Does P ρ o w fun v' w' => v = v' ∧ Holds w' fm (rs.set i (OwnR (tI .u8) v xs)) := by
  rcases H.oks _ (mem_get hr) with ⟨_, rfl⟩ | ⟨b, off, c, cells, rfl, hc, hm, hb, hsz, hrow⟩
  · simp at hne
  · have hb' : w.heap[b]? = some (.cells cells e (0, 0)) := hb
    have hsh : w.shape? b = some (e, cells.size) := by unfold World.shape?; rw [hb']
    have hrun : (convert T T (.slice (some ⟨b, off, none⟩) xs.length c)).run P w = .ok (.slice (some ⟨b, off, none⟩) xs.length c) (w.freeze ⟨b, cells.size, none⟩ 1) := by
      simp [convert, run_underlying ht, run_underlying he, markStringish, go_sem, hsh, freeze, Sem.run]
    have hheap : ∀ k, (w.freeze ⟨b, cells.size, none⟩ 1).heap[k]? = if b = k then some (.cells cells e (cells.size, cells.size + 1)) else w.heap[k]? := fun k => by
      simp only [World.freeze, Nat.one_ne_zero, if_false, Array.getElem?_modify]
      split
      · rename_i hk; subst hk; rw [hb']; simp
      · rfl
    refine Does.of (v := .slice (some ⟨b, off, none⟩) xs.length c) (w' := w.freeze ⟨b, cells.size, none⟩ 1) (by simp [execOp, hop, hx, hrun]) ⟨rfl, ?_⟩
    exact H.chg (w' := w.freeze ⟨b, cells.size, none⟩ 1) hr rfl rfl rfl (fun k _ hn => by rw [hheap, if_neg (fun h => hn (congrArg some h))]) _ (fun b' hb2 => .inl hb2) (.inr ⟨b, off, c, cells, e, (cells.size, cells.size + 1), rfl, hc, hm, by show (w.freeze ⟨b, cells.size, none⟩ 1).heap[b]? = _; rw [hheap, if_pos rfl], hsz, hrow⟩)
end
end Go.Proofs.Ytdglijdgnopgkaa.Sl
