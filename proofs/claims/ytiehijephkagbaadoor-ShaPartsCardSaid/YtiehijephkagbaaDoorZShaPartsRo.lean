/- Rows of elements: read, and owned; variables; what reads and writes them. -/
import Derived.Test.YtiehijephkagbaaDoorZShaPartsSt
namespace Go.Proofs.YtiehijephkagbaaDoor.Sl
open Go.RowKit
set_option linter.unusedVariables false
set_option linter.unusedSimpArgs false
/-! Elements -/
structure Fl (α : Type) where
  sz : Nat
  enc : α → List Value
  len : ∀ x, (enc x).length = sz
  one : ∀ x, ∀ u ∈ enc x, u.oneCell' = true
  pos : 0 < sz
def Fl.row {α : Type} (t : Fl α) (xs : List α) : List Value := xs.flatMap t.enc
def tI (k : IntKind) : Fl Int := ⟨1, fun x => [.int k x], fun _ => rfl, fun _ u h => by rw [List.mem_singleton.1 h]; rfl, Nat.one_pos⟩
def tB : Fl Bool := ⟨1, fun x => [.bool x], fun _ => rfl, fun _ u h => by rw [List.mem_singleton.1 h]; rfl, Nat.one_pos⟩
def tS : Fl ByteArray := ⟨1, fun x => [.string x], fun _ => rfl, fun _ u h => by rw [List.mem_singleton.1 h]; rfl, Nat.one_pos⟩
section
variable {α : Type} {t : Fl α}
theorem Fl.row_nil : t.row [] = [] := rfl
theorem Fl.row_cons (x : α) (xs : List α) : t.row (x :: xs) = t.enc x ++ t.row xs := rfl
theorem Fl.row_append (xs ys : List α) : t.row (xs ++ ys) = t.row xs ++ t.row ys := List.flatMap_append
theorem Fl.row_len (xs : List α) : (t.row xs).length = xs.length * t.sz := by
  induction xs with
  | nil => simp [Fl.row]
  | cons x xs ih => rw [Fl.row_cons, List.length_append, t.len, ih, List.length_cons, Nat.add_mul]; omega
theorem Fl.row_one (xs : List α) : ∀ u ∈ t.row xs, u.oneCell' = true := fun u h => by
  obtain ⟨x, _, hu⟩ := List.mem_flatMap.1 h
  exact t.one x u hu
theorem Fl.row_get : ∀ {xs : List α} {i : Nat} {x : α} {j : Nat} {u : Value}, xs[i]? = some x → (t.enc x)[j]? = some u → (t.row xs)[i * t.sz + j]? = some u
  | [], i, x, j, u, h, _ => by simp at h
  | y :: ys, 0, x, j, u, h, hu => by
    simp at h; subst h
    have hj : j < (t.enc y).length := (List.getElem?_eq_some_iff.1 hu).1
    rw [Fl.row_cons, Nat.zero_mul, Nat.zero_add, List.getElem?_append_left hj]; exact hu
  | y :: ys, i + 1, x, j, u, h, hu => by
    simp at h
    rw [Fl.row_cons, List.getElem?_append_right (by rw [t.len, Nat.add_mul]; omega), t.len]
    have : (i + 1) * t.sz + j - t.sz = i * t.sz + j := by rw [Nat.add_mul]; omega
    rw [this]
    exact Fl.row_get h hu
theorem Fl.row_take (xs : List α) (n : Nat) : t.row (xs.take n) = (t.row xs).take (n * t.sz) := by
  rcases Nat.le_total n xs.length with h | h
  · have := Fl.row_append (t := t) (xs.take n) (xs.drop n)
    rw [List.take_append_drop] at this
    have hl : (t.row (xs.take n)).length = n * t.sz := by rw [Fl.row_len, List.length_take, Nat.min_eq_left h]
    rw [this, ← hl, List.take_left]
  · rw [List.take_of_length_le h, List.take_of_length_le]
    rw [Fl.row_len]; exact Nat.mul_le_mul_right _ h
theorem Fl.row_drop (xs : List α) (n : Nat) : t.row (xs.drop n) = (t.row xs).drop (n * t.sz) := by
  rcases Nat.le_total n xs.length with h | h
  · have := Fl.row_append (t := t) (xs.take n) (xs.drop n)
    rw [List.take_append_drop] at this
    have hl : (t.row (xs.take n)).length = n * t.sz := by rw [Fl.row_len, List.length_take, Nat.min_eq_left h]
    rw [this, ← hl, List.drop_left]
  · rw [List.drop_of_length_le h, List.drop_of_length_le, Fl.row_nil]
    rw [Fl.row_len]; exact Nat.mul_le_mul_right _ h
theorem getD_get {xs : List α} {i : Nat} (d : α) (h : i < xs.length) : xs[i]? = some (xs.getD i d) := by
  rw [List.getD_eq_getElem?_getD, List.getElem?_eq_getElem h]; rfl
end
/-! Rows that are read -/
def Rd {α : Type} (t : Fl α) (f : Hp) (v : Value) (xs : List α) : Prop :=
  ∃ A c, v = .slice A xs.length c ∧ xs.length ≤ c ∧ c ≤ maxLen ∧ ∀ j u, (t.row xs)[j]? = some u → ∃ a, A = some a ∧ f.cell (a.add j) = some u
def bas (v : Value) : Addr := match v with | .slice (some a) _ _ => a | _ => ⟨0, 0, none⟩
def elp (v : Value) (k : Nat) : Addr := (bas v).add k
def sl (v : Value) (lo hi sz : Nat) : Value := match v with | .slice a _ c => .slice (if c = lo then a else a.map (·.add (lo * sz))) (hi - lo) (c - lo) | v => v
section
variable {α : Type} {t : Fl α} {f g : Hp} {v : Value} {xs : List α}
theorem Rd.mono (h : Rd t f v xs) (hl : f.le g) : Rd t g v xs := by
  obtain ⟨A, c, e, h1, h2, h3⟩ := h
  exact ⟨A, c, e, h1, h2, fun j u hu => by obtain ⟨a, ea, ha⟩ := h3 j u hu; exact ⟨a, ea, hl.cell ha⟩⟩
theorem Rd.size (h : Rd t f v xs) : ∃ A c, v = .slice A xs.length c := by obtain ⟨A, c, e, _⟩ := h; exact ⟨A, c, e⟩
theorem Rd.one (h : Rd t f v xs) : v.oneCell' = true := by obtain ⟨A, c, rfl, _⟩ := h; rfl
theorem Rd.max (h : Rd t f v xs) : xs.length ≤ 9223372036854775807 := by
  obtain ⟨A, c, e, h1, h2, _⟩ := h
  unfold maxLen at h2; omega
theorem Rd.nil : Rd t f (.slice none 0 0) [] := ⟨none, 0, rfl, Nat.le_refl _, Nat.zero_le _, fun j u h => by simp [Fl.row] at h⟩
theorem Rd.cell (h : Rd t f v xs) {i j : Nat} {x : α} {u : Value} (hx : xs[i]? = some x) (hu : (t.enc x)[j]? = some u) : f.cell (elp v (i * t.sz + j)) = some u := by
  obtain ⟨A, c, rfl, _, _, h3⟩ := h
  obtain ⟨a, rfl, ha⟩ := h3 _ _ (Fl.row_get hx hu)
  exact ha
theorem Rd.slice (h : Rd t f v xs) {lo hi : Nat} (h1 : lo ≤ hi) (h2 : hi ≤ xs.length) : Rd t f (sl v lo hi t.sz) ((xs.take hi).drop lo) := by
  obtain ⟨A, c, rfl, hc, hm, h3⟩ := h
  have hl : ((xs.take hi).drop lo).length = hi - lo := by rw [List.length_drop, List.length_take]; omega
  refine ⟨_, c - lo, by rw [hl]; rfl, by rw [hl]; omega, by omega, fun j u hu => ?_⟩
  have hj := (List.getElem?_eq_some_iff.1 hu).1
  rw [Fl.row_len, hl] at hj
  have hne : c ≠ lo := fun e => by
    have : hi - lo = 0 := by omega
    rw [this, Nat.zero_mul] at hj; omega
  rw [Fl.row_drop, Fl.row_take, List.getElem?_drop, List.getElem?_take] at hu
  split at hu
  · obtain ⟨a, rfl, ha⟩ := h3 _ _ hu
    refine ⟨a.add (lo * t.sz), by rw [if_neg hne]; rfl, ?_⟩
    rw [Go.Deep.add_add]; exact ha
  · cases hu
theorem Rd.take (h : Rd t f v xs) {hi : Nat} (h2 : hi ≤ xs.length) : Rd t f (sl v 0 hi t.sz) (xs.take hi) := h.slice (Nat.zero_le _) h2
theorem Rd.drop (h : Rd t f v xs) {lo : Nat} (h2 : lo ≤ xs.length) : Rd t f (sl v lo xs.length t.sz) (xs.drop lo) := by
  have := h.slice h2 (Nat.le_refl _)
  rwa [List.take_of_length_le (Nat.le_refl _)] at this
end
/-! Rows that are owned -/
def Own {α : Type} (t : Fl α) (e : TypeId) (v : Value) (xs : List α) : Res where
  dom b := v.ownBlock = some b
  ok h := (v = .slice none 0 0 ∧ xs = []) ∨ ∃ b off c cells, v = .slice (some ⟨b, off, none⟩) xs.length c ∧ xs.length ≤ c ∧ c ≤ maxLen ∧ h b = some (.cells cells e (0, 0)) ∧ off + c * t.sz ≤ cells.size ∧ (cells.toList.drop off).take (xs.length * t.sz) = t.row xs
  loc := by
    intro g h hl ho
    rcases ho with ho | ⟨b, off, c, cells, rfl, h1, h2, h3, h4⟩
    · exact .inl ho
    · exact .inr ⟨b, off, c, cells, rfl, h1, h2, (hl b rfl).trans h3, h4⟩
  live := by
    intro h b ho hb
    rcases ho with ⟨rfl, _⟩ | ⟨b', off, c, cells, rfl, _, _, h3, _⟩
    · cases hb
    · obtain rfl : b' = b := Option.some.inj hb
      exact ⟨_, h3⟩
/-- Owned, but read alone (what a string was made to). -/
def OwnR {α : Type} (t : Fl α) (v : Value) (xs : List α) : Res where
  dom b := v.ownBlock = some b
  ok h := (v = .slice none 0 0 ∧ xs = []) ∨ ∃ b off c cells e fz, v = .slice (some ⟨b, off, none⟩) xs.length c ∧ xs.length ≤ c ∧ c ≤ maxLen ∧ h b = some (.cells cells e fz) ∧ off + c * t.sz ≤ cells.size ∧ (cells.toList.drop off).take (xs.length * t.sz) = t.row xs
  loc := by
    intro g h hl ho
    rcases ho with ho | ⟨b, off, c, cells, e, fz, rfl, h1, h2, h3, h4⟩
    · exact .inl ho
    · exact .inr ⟨b, off, c, cells, e, fz, rfl, h1, h2, (hl b rfl).trans h3, h4⟩
  live := by
    intro h b ho hb
    rcases ho with ⟨rfl, _⟩ | ⟨b', off, c, cells, e, fz, rfl, _, _, h3, _⟩
    · cases hb
    · obtain rfl : b' = b := Option.some.inj hb
      exact ⟨_, h3⟩
/-- A variable's cells. -/
def Pt (p : Nat) (T : TypeId) (cells : List Value) : Res where
  dom b := b = p
  ok h := h p = some (.cells cells.toArray T (0, 0))
  loc := fun hl ho => (hl _ rfl).trans ho
  live := fun {h b} ho hb => by obtain rfl : b = p := hb; exact ⟨_, ho⟩
section
variable {α : Type} {t : Fl α} {e : TypeId} {f : Hp} {v : Value} {xs : List α} {w w' : World} {fm : Fm} {rs : List Res} {i : Nat} {p : Nat} {T : TypeId} {cells : List Value}
theorem OwnR.rd (h : (OwnR t v xs).ok f) : Rd t f v xs := by
  rcases h with ⟨rfl, rfl⟩ | ⟨b, off, c, cells, e, fz, rfl, h1, h2, h3, h4, h5⟩
  · exact Rd.nil
  · refine ⟨_, c, rfl, h1, h2, fun j u hu => ⟨_, rfl, ?_⟩⟩
    rw [← h5, List.getElem?_take] at hu
    split at hu
    · rw [List.getElem?_drop] at hu
      rw [Addr.add_lit]
      unfold Hp.cell
      simp only [h3]
      simpa using hu
    · cases hu
theorem Own.toR (h : (Own t e v xs).ok f) : (OwnR t v xs).ok f := by
  rcases h with h | ⟨b, off, c, cells, rfl, h1, h2, h3, h4⟩
  · exact .inl h
  · exact .inr ⟨b, off, c, cells, e, _, rfl, h1, h2, h3, h4⟩
theorem Own.rd (h : (Own t e v xs).ok f) : Rd t f v xs := OwnR.rd (Own.toR h)
theorem Holds.own (H : Holds w fm rs) (hi : rs[i]? = some (Own t e v xs)) : Rd t (hp w) v xs := Own.rd (H.oks _ (mem_get hi))
theorem Holds.toR (H : Holds w fm rs) (hi : rs[i]? = some (Own t e v xs)) : Holds w fm (rs.set i (OwnR t v xs)) :=
  H.chg hi rfl rfl rfl (fun _ _ _ => rfl) _ (fun b hb => .inl hb) (Own.toR (H.oks _ (mem_get hi)))
theorem Holds.nilOwn (H : Holds w fm rs) (t : Fl α) (e : TypeId) : Holds w fm (Own t e (.slice none 0 0) [] :: rs) := H.nob _ (fun b hb => by cases hb) (.inl ⟨rfl, rfl⟩)
theorem Holds.pt (H : Holds w fm rs) (hi : rs[i]? = some (Pt p T cells)) : w.heap[p]? = some (.cells cells.toArray T (0, 0)) := H.oks _ (mem_get hi)
theorem Holds.ptCell (H : Holds w fm rs) (hi : rs[i]? = some (Pt p T cells)) {j : Nat} {u : Value} (hj : cells[j]? = some u) : w.cell? ⟨p, j, none⟩ = some u := by
  rw [cell_of_row w p j _ T (0, 0) (H.pt hi)]; simpa using hj
theorem Holds.rd {t : Fl α} (H : Holds w fm rs) (h : Rd t fm.hp v xs) : Rd t (hp w) v xs := h.mono H.kept
end
/-! What reads -/
section
variable {P : Program} {ρ : Operand → Value} {o : Oper} {w : World} {x y z : Operand} {T T' e : TypeId} {k : IntKind} {X Y : Int} {v u : Value} {α : Type} {t : Fl α} {f : Hp} {xs ys : List α} {A : Addr} {n i : Nat} {d : TypeDesc}
theorem x_len (h : Rd t f v xs) (hop : o.op = .call { callee := .builtin .len, args := #[x], argTypes := #[T] }) (hx : ρ x = v) (ht : P.underlying T = some (.slice e)) : (execOp ρ o).run P w = .ok (.value (.int .i64 xs.length)) w := by
  obtain ⟨A, c, rfl⟩ := h.size
  exact x_lenSl hop hx ht
theorem x_ld (hop : o.op = .load T x) (hA : ∀ w, (isAgg T).run P w = .ok false w) (hx : ρ x = .pointer (some A)) (hc : w.cell? A = some v) : (execOp ρ o).run P w = .ok (.value v) w := by
  simp [execOp, hop, Instr.loadAt, Instr.sureAddr, loadVar, hA, hx, hc]
theorem x_ldA {cs : List Value} (hop : o.op = .load T x) (hA : ∀ w, (isAgg T).run P w = .ok true w) (hs : ∀ w, (sizeOf T).run P w = .ok cs.length w) (hx : ρ x = .pointer (some A)) (hc : ∀ j u, cs[j]? = some u → w.cell? (A.add j) = some u) :
    (execOp ρ o).run P w = .ok (.value (.agg cs.toArray)) w := by
  have hl := run_loadCells_list (P := P) w A cs hc
  simp [execOp, hop, Instr.loadAt, Instr.sureAddr, loadVar, hA, hx, hs, hl]
theorem x_fa {fs : Array Field} {fl : Field} (hop : o.op = .fieldAddr T x i) (ht : P.underlying T = some (.struct fs)) (hf : fs[i]? = some fl) (hs : ∀ w, (sizeOf fl.type).run P w = .ok (n + 1) w) (hx : ρ x = .pointer (some A)) {B : Addr} (hB : A.add fl.offset = B) :
    (execOp ρ o).run P w = .ok (.value (.pointer (some B))) w := by
  subst hB
  simp [execOp, hop, Instr.fieldAt, run_underlying ht, hf, Instr.sureAddr, hx, fieldPlace, hs]
theorem x_ixa (h : Rd t f v xs) (hop : o.op = .indexAddr T x y) (ht : P.underlying T = some (.slice e)) (hs : ∀ w, (sizeOf e).run P w = .ok t.sz w) (hx : ρ x = v) (hy : ρ y = .int k X) (hX : X = (i : Int)) (hi : i < xs.length) :
    (execOp ρ o).run P w = .ok (.value (.pointer (some (elp v (i * t.sz))))) w := by
  obtain ⟨A, c, rfl, hc, hm, h3⟩ := h
  subst hX
  have hne : ∃ u, (t.row xs)[i * t.sz + 0]? = some u := by
    have hl : 0 < (t.enc (xs[i])).length := by rw [t.len]; exact t.pos
    exact ⟨_, Fl.row_get (x := xs[i]) (j := 0) (by simp [hi]) (List.getElem?_eq_getElem hl)⟩
  obtain ⟨u, hu⟩ := hne
  obtain ⟨a, rfl, _⟩ := h3 _ _ hu
  have hlt : (i : Int) < (xs.length : Int) := by omega
  have hge : ¬ (xs.length ≤ i) := by omega
  simp [execOp, hop, Instr.indexAt, asIntOf, hx, hy, run_underlying ht, hs, hi, hge, elp, bas]
theorem Rd.cw (h : Rd t (hp w) v xs) {j : Nat} {x : α} (hx : xs[i]? = some x) (hu : (t.enc x)[j]? = some u) : w.cell? (elp v (i * t.sz + j)) = some u := h.cell hx hu
theorem x_slL {lo : Nat} {xl : Operand} (h : Rd t f v xs) (hop : o.op = .slice T x (some xl) none none) (ht : P.underlying T = some (.slice e)) (hs : ∀ w, (sizeOf e).run P w = .ok t.sz w) (hx : ρ x = v)
    (hl : ρ xl = .int k (lo : Nat)) (h1 : lo ≤ xs.length) : (execOp ρ o).run P w = .ok (.value (sl v lo xs.length t.sz)) w := by
  obtain ⟨A, c, rfl, hc, hm, h3⟩ := h
  simp [execOp, hop, Instr.sliceAt, run_underlying ht, Instr.slice, Instr.sliceBounds, Instr.sliceBound, asIntOf, hx, hl, h1, hs, sl]
theorem x_build {parts : Array (Nat × Operand)} {cells : Array Value} (hop : o.op = .build T parts) (hb : P.built T (parts.toList.map fun p => (p.1, ρ p.2)) = some cells) : (execOp ρ o).run P w = .ok (.value (.agg cells)) w := by
  have := run_build (P := P) w T (parts.map fun p => (p.1, ρ p.2)) cells (by simpa using hb)
  have e : (Instr.build T (parts.map fun p => (p.1, ρ p.2))).run P w = .ok (.agg cells) w := this
  simp [execOp, hop, e]
end
/-! What writes -/
section
variable {P : Program} {ρ : Operand → Value} {o : Oper} {w : World} {fm : Fm} {rs : List Res} {x y z : Operand} {T T' e : TypeId} {k : IntKind} {X Y : Int} {v u : Value} {α : Type} {t : Fl α} {f : Hp} {xs ys : List α} {A : Addr} {n i j : Nat} {d : TypeDesc} {p : Nat} {cells : List Value}
theorem run_newVar (T : TypeId) (v : Value) : (newVar T v).run P w = .ok ⟨w.heap.size, 0, none⟩ (w.alloc (.cells v.cells T)) := by
  simp [newVar, newRow]
theorem alloc_ok (w : World) (o : Obj) : hp (w.alloc o) w.heap.size = some o := heap_alloc_new w o
theorem d_alloc {z : Value} (H : Holds w fm rs) (hop : o.op = .alloc T) (hz' : ∀ w, (zeroValue T).run P w = .ok z w) : Does P ρ o w fun v' w' => ∃ p, v' = .pointer (some ⟨p, 0, none⟩) ∧ Holds w' fm (Pt p T z.cells.toList :: rs) := by
  refine Does.of (v := .pointer (some ⟨w.heap.size, 0, none⟩)) (w' := w.alloc (.cells z.cells T)) (by simp [execOp, hop, Instr.alloc, run_newVar, hz']) ⟨_, rfl, H.alloc _ _ (fun b hb => hb) ?_⟩
  show hp _ _ = _
  rw [alloc_ok]
/-- Cells are written into a block of one's own. -/
theorem put_cells (H : Holds w fm rs) {r : Res} (hi : rs[i]? = some r) {g off : Nat} {cur : Array Value} {cs : List Value} (hd : r.dom g) (hg : w.heap[g]? = some (.cells cur T (0, 0))) (hl : off + cs.length ≤ cur.size) (h1 : ∀ u ∈ cs, u.oneCell' = true)
    (r' : Res) (hd' : ∀ b, r'.dom b → r.dom b) (hok : ∀ h : Hp, h g = some (.cells (cur.toList.take off ++ cs ++ cur.toList.drop (off + cs.length)).toArray T (0, 0)) → (∀ b, b ≠ g → h b = hp w b) → r'.ok h) :
    ∃ w', (storeCells ⟨g, off, none⟩ cs).run P w = .ok () w' ∧ Holds w' fm (rs.set i r') := by
  refine ⟨_, run_storeCells_at P g off T cs 0 cur w hg (by simpa using hl) h1, ?_⟩
  simp only [Nat.add_zero]
  exact H.chg (w' := w.setRow g (cur.toList.take off ++ cs ++ cur.toList.drop (off + cs.length)).toArray) hi rfl rfl rfl (fun b hb hn => setRow_other w g b _ (fun e => hn (e ▸ hd))) r' (fun b hb => .inl (hd' b hb)) (hok _ (setRow_heap w g cur _ T _ hg) (fun b hb => setRow_other w g b _ hb))
theorem run_storeVar (A : Addr) (hs : ∀ w, (sizeOf T).run P w = .ok v.cells.size w) : (storeVar T A v).run P w = (storeCells A v.cells.toList).run P w := by
  simp [storeVar, hs]
theorem d_stPt (H : Holds w fm rs) (hr : rs[i]? = some (Pt p T' cells)) (hop : o.op = .store T x y) (hs : ∀ w, (sizeOf T).run P w = .ok v.cells.size w) (hx : ρ x = .pointer (some ⟨p, j, none⟩)) (hy : ρ y = v)
    (h1 : ∀ u ∈ v.cells.toList, u.oneCell' = true) (hj : j + v.cells.size ≤ cells.length) {cells' : List Value} (hc : cells.take j ++ v.cells.toList ++ cells.drop (j + v.cells.size) = cells') : Does P ρ o w fun v' w' => v' = undef ∧ Holds w' fm (rs.set i (Pt p T' cells')) := by
  obtain ⟨w', hw, H'⟩ := put_cells (P := P) H hr (g := p) (off := j) (cs := v.cells.toList) rfl (H.pt hr) (by simpa using hj) h1 (Pt p T' cells') (fun b hb => hb) (fun h hh _ => by
    show h p = _
    rw [hh, ← hc]; simp)
  exact Does.skip (w' := w') (by simp [execOp, hop, Instr.storeAt, Instr.sureAddr, hx, hy, run_storeVar _ hs, hw]) ⟨rfl, H'⟩
theorem take_set_drop {β : Type} (l : List β) (j : Nat) (x : β) (h : j < l.length) : l.take j ++ [x] ++ l.drop (j + 1) = l.set j x := by
  rw [List.set_eq_take_append_cons_drop, if_pos h]; simp
theorem d_stPt1 (H : Holds w fm rs) (hr : rs[i]? = some (Pt p T' cells)) (hop : o.op = .store T x y) (hs : ∀ w, (sizeOf T).run P w = .ok 1 w) (hx : ρ x = .pointer (some ⟨p, j, none⟩)) (hy : ρ y = v)
    (h1 : v.oneCell' = true) (hj : j < cells.length) : Does P ρ o w fun v' w' => v' = undef ∧ Holds w' fm (rs.set i (Pt p T' (cells.set j v))) := by
  have hc : v.cells = #[v] := by cases v <;> first | rfl | cases h1
  exact d_stPt H hr hop (by rw [hc]; exact hs) hx hy (by rw [hc]; simpa using h1) (by rw [hc]; exact hj) (by rw [hc]; exact take_set_drop cells j v hj)
theorem mid_set {β : Type} {l r : List β} {m n : Nat} (h : (l.drop m).take n = r) (off : Nat) (cs : List β) (ho : off + cs.length ≤ n) (hl : m + n ≤ l.length) :
    (((l.take (m + off) ++ cs ++ l.drop (m + off + cs.length)).drop m).take n) = r.take off ++ cs ++ r.drop (off + cs.length) := by
  subst h
  apply List.ext_getElem?
  intro q
  have hL : (List.take (m + off) l).length = m + off := by rw [List.length_take]; omega
  have hR : (List.take off (List.take n (List.drop m l))).length = off := by simp only [List.length_take, List.length_drop]; omega
  simp only [List.append_assoc, List.getElem?_append, hL, hR, List.getElem?_take, List.getElem?_drop]
  repeat' split
  all_goals first
    | rfl
    | (exfalso; omega)
    | (congr 1; omega)
theorem run_app (H : Holds w fm rs) (hr : rs[i]? = some (Own t e v xs)) (hR : Rd t (hp w) u ys) {ty : TypeId} {zb : Nat} {zv : Value} (ht : P.underlying T = some (.slice e)) {inf : TypeInfo} (hinf : P.info? e = some inf) (hz : inf.zero = some zv) (hsz : inf.size = t.sz) (hby : inf.bytes = zb) (hzv : zv.cells.size = t.sz)
    (hl : (xs.length + ys.length) * zb ≤ 140737488355328) (hzb : 0 < zb) : ∃ v' w', (Builtin.append_ #[T, T] ty #[v, u]).run P w = .ok v' w' ∧ Holds w' fm (rs.set i (Own t e v' (xs ++ ys))) := by
  obtain ⟨A, c, rfl, hc, hm, h3⟩ := hR
  have h63 : xs.length + ys.length ≤ 140737488355328 := Nat.le_trans (Nat.le_mul_of_pos_right _ hzb) hl
  have hrl : (t.row ys).length = ys.length * inf.size := by rw [Fl.row_len, hsz]
  have hlen : (xs ++ ys).length = xs.length + ys.length := List.length_append
  -- a new block
  have grown : ∀ (old : Nat), Holds (w.drew.alloc (.cells ((t.row xs).toArray ++ (t.row ys).toArray ++ Builtin.zeroCells zv.cells (grownCap w (xs.length + ys.length) old e - (xs.length + ys.length))) e)) fm
      (rs.set i (Own t e (.slice (some ⟨w.heap.size, 0, none⟩) (xs.length + ys.length) (grownCap w (xs.length + ys.length) old e)) (xs ++ ys))) := fun old => by
    have hge := grownCap_ge w (xs.length + ys.length) old e
    have hmx : grownCap w (xs.length + ys.length) old e ≤ maxLen := grownCap_le_maxLen w _ old e (by unfold maxLen; omega)
    refine H.chg (w' := w.drew.alloc (.cells ((t.row xs).toArray ++ (t.row ys).toArray ++ Builtin.zeroCells zv.cells (grownCap w (xs.length + ys.length) old e - (xs.length + ys.length))) e)) hr rfl rfl rfl (fun b hb _ => Below.heap_alloc w.drew _ b hb) (Own t e (.slice (some ⟨w.heap.size, 0, none⟩) (xs.length + ys.length) (grownCap w (xs.length + ys.length) old e)) (xs ++ ys)) (fun b hb => .inr (by obtain rfl : w.heap.size = b := Option.some.inj hb; exact Nat.le_refl _)) (.inr ⟨w.heap.size, 0, _, _, by rw [hlen], by rw [hlen]; exact hge, hmx, heap_alloc_new w.drew _, ?_, ?_⟩)
    · simp only [Array.size_append, List.size_toArray, size_zeroCells, hzv, Fl.row_len, ← Nat.add_mul]
      have : xs.length + ys.length + (grownCap w (xs.length + ys.length) old e - (xs.length + ys.length)) = grownCap w (xs.length + ys.length) old e := by omega
      rw [this]; omega
    · rw [List.drop_zero, Fl.row_append, hlen]
      simp only [Array.toList_append, List.append_assoc]
      rw [← List.append_assoc]
      have : (xs.length + ys.length) * t.sz = (t.row xs ++ t.row ys).length := by rw [List.length_append, Fl.row_len, Fl.row_len, Nat.add_mul]
      rw [this]; exact List.take_left
  have same : ys = [] → ∀ v', v' = v → Holds w fm (rs.set i (Own t e v' (xs ++ ys))) := fun hy v' hv => by
    subst hy; subst hv
    rw [List.append_nil]
    exact H.chg hr rfl rfl rfl (fun _ _ _ => rfl) (Own t e v' xs) (fun b hb => .inl hb) (H.oks _ (mem_get hr))
  rcases H.oks _ (mem_get hr) with ⟨rfl, rfl⟩ | ⟨b, off, cap, cells, rfl, hxc, hcm, hb, hfit, hrow⟩
  · cases hy : ys with
    | nil =>
      subst hy
      refine ⟨_, w, ?_, same rfl _ rfl⟩
      cases A <;> simp [Builtin.append_, run_underlying ht, sizeOf, typeInfo, hinf, Builtin.lenOf, Builtin.firstCells, loadCells, loadCellsFrom]
    | cons y ys' =>
      rw [← hy]
      have hn : 0 < ys.length := by rw [hy]; simp
      have hrow0 : ∃ u, (t.row ys)[0]? = some u := by
        have : 0 < (t.row ys).length := by rw [Fl.row_len]; exact Nat.mul_pos hn t.pos
        exact ⟨_, List.getElem?_eq_getElem this⟩
      obtain ⟨u0, hu0⟩ := hrow0
      obtain ⟨a, rfl, _⟩ := h3 _ _ hu0
      have hr' := run_append_nil (P := P) w T ty e inf zv ht hinf hz a ys.length c (t.row ys) hrl (fun j u hu => by obtain ⟨a', ea, ha⟩ := h3 j u hu; obtain rfl := Option.some.inj ea; exact ha) hn (by omega) (by rw [hby]; simp only [List.length_nil, Nat.zero_add] at hl; omega)
      have hg := grown 0
      simp only [List.length_nil, Nat.zero_add, List.nil_append, Fl.row_nil, Array.empty_append] at hg
      exact ⟨_, _, hr', by simpa using hg⟩
  · have hold : ∀ j u, (t.row xs)[j]? = some u → w.cell? ((⟨b, off, none⟩ : Addr).add j) = some u := fun j u hu => by
      obtain ⟨A', c', hv, _, _, h3'⟩ := H.own hr
      obtain ⟨a', ea, ha⟩ := h3' j u hu
      simp only [Value.slice.injEq] at hv
      rw [ea] at hv
      obtain rfl := Option.some.inj hv.1
      exact ha
    by_cases hroom : xs.length + ys.length ≤ cap
    · have hb' : w.heap[b]? = some (.cells cells e (0, 0)) := hb
      have hfits : (xs.length + ys.length) * t.sz ≤ cap * t.sz := Nat.mul_le_mul_right _ hroom
      rw [Nat.add_mul] at hfits
      have hmid := mid_set (l := cells.toList) (m := off) (n := (xs.length + ys.length) * t.sz) (r := (cells.toList.drop off).take ((xs.length + ys.length) * t.sz)) rfl (xs.length * t.sz) (t.row ys) (by rw [Fl.row_len, Nat.add_mul]; omega) (by rw [Nat.add_mul]; simp; omega)
      obtain ⟨w', hw, H'⟩ := put_cells (P := P) H hr (g := b) (off := off + xs.length * t.sz) (cs := t.row ys) (T := e) rfl hb' (by rw [Fl.row_len]; omega) (Fl.row_one ys) (Own t e (.slice (some ⟨b, off, none⟩) (xs.length + ys.length) cap) (xs ++ ys)) (fun b hb => hb) (fun h hh _ => by
        refine .inr ⟨b, off, cap, _, by rw [hlen], by rw [hlen]; exact hroom, hcm, hh, ?_, ?_⟩
        · simp only [List.size_toArray, List.length_append, List.length_take, List.length_drop, Array.length_toList, Fl.row_len]; omega
        · rw [hlen, hmid, Fl.row_append, List.take_take, Nat.min_eq_left (by rw [Nat.add_mul]; omega), hrow]
          rw [List.drop_of_length_le (by rw [List.length_take, List.length_drop, Fl.row_len, Nat.add_mul]; omega), List.append_nil])
      refine ⟨_, w', ?_, H'⟩
      cases A with
      | none =>
        have hy0 : ys = [] := by
          cases ys with
          | nil => rfl
          | cons y ys' =>
            have hl0 : 0 < (t.row (y :: ys')).length := by rw [Fl.row_len]; exact Nat.mul_pos (by simp) t.pos
            obtain ⟨a, ea, _⟩ := h3 0 _ (List.getElem?_eq_getElem hl0)
            cases ea
        subst hy0
        simp only [Fl.row_nil, storeCells] at hw
        simp only [List.length_nil, Nat.add_zero] at hroom ⊢
        simp [Builtin.append_, run_underlying ht, sizeOf, typeInfo, hinf, Builtin.lenOf, hroom, Builtin.firstCells, storeCells, Addr.add_lit] at hw ⊢
        exact hw
      | some a =>
        have hf := run_firstCells_some (P := P) w inf.size ys.length a ys.length c (t.row ys) hrl (fun j u hu => by obtain ⟨a', ea, ha⟩ := h3 j u hu; obtain rfl := Option.some.inj ea; exact ha)
        rw [← hsz] at hw
        simp [Builtin.append_, run_underlying ht, sizeOf, typeInfo, hinf, Builtin.lenOf, hroom, hf, Addr.add_lit, hw]
    · have hy : ys ≠ [] := fun e => by subst e; simp at hroom; omega
      have hl0 : 0 < (t.row ys).length := by rw [Fl.row_len]; exact Nat.mul_pos (List.length_pos_iff.2 hy) t.pos
      obtain ⟨a, rfl, _⟩ := h3 0 _ (List.getElem?_eq_getElem hl0)
      have hr' := run_append_grow (P := P) w T ty e inf zv ht hinf hz ⟨b, off, none⟩ xs.length cap (t.row xs) (by rw [Fl.row_len, hsz]) hold a ys.length c (t.row ys) hrl (fun j u hu => by obtain ⟨a', ea, ha⟩ := h3 j u hu; obtain rfl := Option.some.inj ea; exact ha) (by omega) (by omega) (growslice_fits (by omega) (by rw [hby]; exact hl))
      exact ⟨_, _, hr', grown cap⟩
theorem d_app (H : Holds w fm rs) (hr : rs[i]? = some (Own t e v xs)) (hR : Rd t (hp w) u ys) (hop : o.op = .call { callee := .builtin .append, args := #[x, y], argTypes := #[T, T] }) (hx : ρ x = v) (hy : ρ y = u) {zb : Nat} {zv : Value} (ht : P.underlying T = some (.slice e))
    {inf : TypeInfo} (hinf : P.info? e = some inf) (hz : inf.zero = some zv) (hsz : inf.size = t.sz) (hby : inf.bytes = zb) (hzv : zv.cells.size = t.sz) (hl : (xs.length + ys.length) * zb ≤ 140737488355328) (hzb : 0 < zb) :
    Does P ρ o w fun v' w' => Holds w' fm (rs.set i (Own t e v' (xs ++ ys))) := by
  obtain ⟨v', w', hr', H'⟩ := run_app (P := P) (ty := o.type) H hr hR ht hinf hz hsz hby hzv hl hzb
  refine Does.of (v := v') (w' := w') ?_ H'
  simp only [execOp, hop, resolve, invoke, builtin, Sem.run_bind, Sem.run_pure, Result.andThen_ok, List.map_toArray, List.map_cons, List.map_nil, hx, hy, hr']
/-- A literal of a slice. -/
theorem d_bs {parts : Array (Nat × Operand)} {cs : Array Value} {z0 : Value} {n : Nat} (t : Fl α) (ys : List α) (H : Holds w fm rs) (hop : o.op = .buildSlice T n parts) (ht : P.underlying T = some (.slice e)) {inf : TypeInfo} (hinf : P.info? e = some inf) (hz0 : inf.zero = some z0) (hz1 : inf.size = t.sz) (hn : ys.length = n) (hb : n * t.sz ≤ 16777216)
    (hf : Instr.fill (fun i => some (i * t.sz, t.sz)) ((Array.range (n * t.sz)).map fun j => z0.cells[j % z0.cells.size]!) (parts.toList.map fun p => (p.1, ρ p.2)) = some cs) (hc : cs.toList = t.row ys) :
    Does P ρ o w fun v' w' => Holds w' fm (Own t e v' ys :: rs) := by
  have hz : inf.zero = some z0 ∧ inf.size = t.sz := ⟨hz0, hz1⟩
  have hcl : cs.size = n * t.sz := by rw [← Array.length_toList, hc, Fl.row_len, hn]
  have hrun : (Instr.buildSlice T n (parts.map fun p => (p.1, ρ p.2))).run P w = .ok (.slice (some ⟨w.heap.size, 0, none⟩) n n) (w.alloc (.cells cs e)) := by
    have hbig : ¬ (16777216 < n * t.sz) := by omega
    by_cases h0 : n * t.sz = 0
    · have hn0 : n = 0 := by rcases Nat.mul_eq_zero.1 h0 with h | h; exact h; have := t.pos; omega
      have hf' : Instr.fill (fun i => some (i * t.sz, t.sz)) #[] (parts.toList.map fun p => (p.1, ρ p.2)) = some cs := by
        rw [h0] at hf; have e0 : ∀ g : Nat → Value, Array.map g (Array.range 0) = #[] := fun g => by simp
        rw [e0] at hf; exact hf
      subst hn0
      have e0 : ∀ g : Nat → Value, Array.map g (Array.range 0) = #[] := fun g => by simp
      simp [e0, Instr.buildSlice, run_underlying ht, sizeOf, typeInfo, hinf, hz.2, newRow, zeroValue, hf']
    · simp [Instr.buildSlice, run_underlying ht, sizeOf, typeInfo, hinf, hz.2, hz.1, newRow, zeroValue, hbig, h0]
      have hf' : Instr.fill (fun i => some (i * t.sz, t.sz)) (Array.map (fun j => z0.cells[j % z0.cells.size]!) (Array.range (n * t.sz))) (List.map (fun p => (p.1, ρ p.2)) parts.toList) = some cs := hf
      simp [hf']
  refine Does.of (v := .slice (some ⟨w.heap.size, 0, none⟩) n n) (w' := w.alloc (.cells cs e)) (by simp only [execOp, hop]; simpa using congrArg (fun r => r.andThen fun a w' => Result.ok (Next.value a) w') hrun) (H.alloc _ _ (fun b hb => (Option.some.inj hb).symm) (.inr ⟨w.heap.size, 0, n, cs, by rw [hn], by omega, ?_, alloc_ok _ _, by omega, ?_⟩))
  · have : n ≤ n * t.sz := Nat.le_mul_of_pos_right _ t.pos
    unfold maxLen; omega
  · rw [List.drop_zero, hn, List.take_of_length_le (by rw [Array.length_toList]; omega), hc]
theorem d_call {f : FuncId} {args : Array Value} {xs : Array Operand} {ts : Array TypeId} {K : Value → World → Prop} (hop : o.op = .call { callee := .value (.func f), args := xs, argTypes := ts }) (hρ : ρ (.func f) = .func (.func f) #[] #[]) (ha : xs.map ρ = args) (hC : ∀ args w, (callFunc f args).run P w = .ok (.enter f args) w) (hc : Calls P f args w (Rt K)) : Does P ρ o w K := by
  refine Does.call (f := f) (args := args) ?_ hc
  subst ha
  simp [execOp, hop, resolve, hρ, Deferred.ofValue, invoke, hC]
end
end Go.Proofs.YtiehijephkagbaaDoor.Sl
