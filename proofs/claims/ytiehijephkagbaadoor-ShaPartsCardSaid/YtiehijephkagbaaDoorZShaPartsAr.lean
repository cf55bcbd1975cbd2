/- Arrays in variables: their cells as a list of numbers, other cells behind them. -/
import Derived.Test.YtiehijephkagbaaDoorZShaPartsMk
namespace Go.Proofs.YtiehijephkagbaaDoor.Sl
open Go.RowKit
set_option linter.unusedVariables false
set_option linter.unusedSimpArgs false
def ar (k : IntKind) (xs : List Int) : List Value := xs.map (Value.int k)
theorem ar_len (k : IntKind) (xs : List Int) : (ar k xs).length = xs.length := List.length_map _
theorem ar_at {k : IntKind} {xs : List Int} {tl : List Value} {i : Nat} (h : i < xs.length) : (ar k xs ++ tl)[i]? = some (.int k (xs.getD i 0)) := by
  rw [List.getElem?_append_left (by rw [ar_len]; exact h)]
  unfold ar; rw [List.getElem?_map, List.getD_eq_getElem?_getD, List.getElem?_eq_getElem h]; rfl
theorem ar_tl {k : IntKind} {xs : List Int} {tl : List Value} {m j : Nat} {u : Value} (hm : m = xs.length + j) (h : tl[j]? = some u) : (ar k xs ++ tl)[m]? = some u := by
  rw [hm, List.getElem?_append_right (by rw [ar_len]; omega), ar_len, Nat.add_sub_cancel_left]; exact h
theorem ar_set {k : IntKind} {xs : List Int} {tl : List Value} {i : Nat} (x : Int) (h : i < xs.length) : (ar k xs ++ tl).set i (.int k x) = ar k (xs.set i x) ++ tl := by
  rw [List.set_append_left _ _ (by rw [ar_len]; exact h)]; congr 1; exact (List.map_set).symm
theorem ar_one (k : IntKind) (xs : List Int) : ∀ u ∈ ar k xs, u.oneCell' = true := fun u hu => by
  obtain ⟨x, _, rfl⟩ := List.mem_map.1 hu; rfl
section
variable {P : Program} {ρ : Operand → Value} {o : Oper} {w : World} {x y : Operand} {T T' e : TypeId} {p j n : Nat} {fm : Fm} {rs : List Res} {i : Nat} {k k' : IntKind} {X : Int} {xs ys : List Int} {cells tl : List Value}
/-- The address of an element of an array that begins at cell off. -/
theorem x_ixp {off m : Nat} (hop : o.op = .indexAddr T x y) (ht : P.underlying T = some (.array n e)) (hs : ∀ w, (sizeOf e).run P w = .ok 1 w) (hx : ρ x = .pointer (some ⟨p, off, none⟩)) (hy : ρ y = .int k X) (hX : X = (i : Int)) (hi : i < n) (hm : off + i = m) :
    (execOp ρ o).run P w = .ok (.value (.pointer (some ⟨p, m, none⟩))) w := by
  subst hX; subst hm
  have hge : ¬ (n ≤ i) := by omega
  have hlt : (i : Int) < (n : Int) := by omega
  by_cases h0 : i = 0
  · subst h0; simp [execOp, hop, Instr.indexAt, Instr.sureAddr, asIntOf, hx, hy, run_underlying ht, hs, hge, hi, hlt, Addr.add]
  · simp [execOp, hop, Instr.indexAt, Instr.sureAddr, asIntOf, hx, hy, run_underlying ht, hs, hge, hi, hlt, h0, Addr.add]
theorem d_stAr (H : Holds w fm rs) (hr : rs[i]? = some (Pt p T' (ar k xs ++ tl))) (hop : o.op = .store T x y) (hs : ∀ w, (sizeOf T).run P w = .ok 1 w) (hx : ρ x = .pointer (some ⟨p, j, none⟩)) (hy : ρ y = .int k X) (hj : j < xs.length) :
    Does P ρ o w fun v' w' => v' = undef ∧ Holds w' fm (rs.set i (Pt p T' (ar k (xs.set j X) ++ tl))) := by
  have h := d_stPt1 (P := P) H hr hop hs hx hy rfl (by rw [List.length_append, ar_len]; omega)
  rwa [ar_set X hj] at h
theorem d_stTl {m : Nat} {v : Value} (H : Holds w fm rs) (hr : rs[i]? = some (Pt p T' (ar k xs ++ tl))) (hop : o.op = .store T x y) (hs : ∀ w, (sizeOf T).run P w = .ok 1 w) (hx : ρ x = .pointer (some ⟨p, m, none⟩)) (hy : ρ y = v) (h1 : v.oneCell' = true) (hm : m = xs.length + j) (hj : j < tl.length) :
    Does P ρ o w fun v' w' => v' = undef ∧ Holds w' fm (rs.set i (Pt p T' (ar k xs ++ tl.set j v))) := by
  have h := d_stPt1 (P := P) H hr hop hs hx hy h1 (by rw [List.length_append, ar_len]; omega)
  rwa [hm, List.set_append_right _ _ (by rw [ar_len]; omega), ar_len, Nat.add_sub_cancel_left] at h
theorem ar_cells (H : Holds w fm rs) (hr : rs[i]? = some (Pt p T' (ar k xs ++ tl))) : ∀ j u, (ar k xs)[j]? = some u → w.cell? ((⟨p, 0, none⟩ : Addr).add j) = some u := fun j u hu => by
  have hj : j < (ar k xs).length := (List.getElem?_eq_some_iff.1 hu).1
  have h := H.ptCell hr (j := j) (u := u) (by rw [List.getElem?_append_left hj]; exact hu)
  have e : (⟨p, 0, none⟩ : Addr).add j = ⟨p, j, none⟩ := by cases j <;> simp [Addr.add]
  rw [e]; exact h
theorem d_stAl (H : Holds w fm rs) (hr : rs[i]? = some (Pt p T' (ar k xs ++ tl))) (hop : o.op = .store T x y) (hs : ∀ w, (sizeOf T).run P w = .ok ys.length w) (hx : ρ x = .pointer (some ⟨p, 0, none⟩)) (hy : ρ y = .agg (ar k ys).toArray) (hl : ys.length = xs.length) :
    Does P ρ o w fun v' w' => v' = undef ∧ Holds w' fm (rs.set i (Pt p T' (ar k ys ++ tl))) := by
  have hc : (Value.agg (ar k ys).toArray).cells = (ar k ys).toArray := rfl
  refine d_stPt (P := P) (j := 0) H hr hop (by rw [hc]; simpa [ar_len] using hs) hx hy (by rw [hc]; simpa using ar_one k ys) (by rw [hc]; simp [ar_len]; omega) ?_
  rw [hc, List.size_toArray, List.take_zero, List.nil_append, Nat.zero_add, ar_len, hl, ← ar_len k xs, List.drop_left]
end
end Go.Proofs.YtiehijephkagbaaDoor.Sl
