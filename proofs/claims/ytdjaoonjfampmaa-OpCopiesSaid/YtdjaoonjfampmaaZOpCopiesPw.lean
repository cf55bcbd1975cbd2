/- Rows that lie in a row's elements, apart from each other: read and written. -/
import Derived.Test.YtdjaoonjfampmaaZOpCopiesMk
namespace Go.Proofs.Ytdjaoonjfampmaa.Sl
open Go.RowKit
set_option linter.unusedVariables false
set_option linter.unusedSimpArgs false
set_option linter.unusedSectionVars false
def ApartW {α : Type} (ps : List (Value × List α)) : Prop := ps.Pairwise fun (p q : Value × List α) => ∀ b : Nat, p.1.ownBlock = some b → q.1.ownBlock ≠ some b
def PoolW {α : Type} (t : Fl α) (e : TypeId) (ps : List (Value × List α)) : Res where
  dom b := ∃ p, p ∈ ps ∧ p.1.ownBlock = some b
  ok h := (∀ p, p ∈ ps → (Own t e p.1 p.2).ok h) ∧ ApartW ps
  loc := fun hl ho => ⟨fun p hp => (Own t e p.1 p.2).loc (fun b hb => hl b ⟨p, hp, hb⟩) (ho.1 p hp), ho.2⟩
  live := fun ho ⟨p, hp, hb⟩ => (Own t e p.1 p.2).live (ho.1 p hp) hb
theorem Res.ext' {r s : Res} (h1 : r.dom = s.dom) (h2 : r.ok = s.ok) : r = s := by
  cases r; cases s
  simp only at h1 h2
  subst h1; subst h2
  rfl
section
variable {α : Type} {t : Fl α} {e : TypeId} {f : Hp} {v : Value} {xs : List α} {w w' : World} {fm : Fm} {rs : List Res} {i : Nat} {ps : List (Value × List α)}
theorem Own.ghost {ys : List α} (hl : xs.length = ys.length) (hr : t.row xs = t.row ys) : Own t e v xs = Own t e v ys := by
  refine Res.ext' rfl ?_
  funext h
  have h0 : xs = [] ↔ ys = [] := by rw [← List.length_eq_zero_iff, ← List.length_eq_zero_iff, hl]
  show ((v = .slice none 0 0 ∧ xs = []) ∨ _) = ((v = .slice none 0 0 ∧ ys = []) ∨ _)
  rw [h0, hl, hr]
theorem PoolW.rd (h : (PoolW t e ps).ok f) {p : Value × List α} (hp : p ∈ ps) : Rd t f p.1 p.2 := Own.rd (h.1 p hp)
theorem Holds.poolWRd (H : Holds w fm rs) (hi : rs[i]? = some (PoolW t e ps)) {p : Value × List α} (hm : p ∈ ps) : Rd t (hp w) p.1 p.2 := PoolW.rd (H.oks _ (mem_get hi)) hm
theorem Holds.poolWNil (H : Holds w fm rs) (t : Fl α) (e : TypeId) : Holds w fm (PoolW t e [] :: rs) := H.nob _ (fun b ⟨p, h, _⟩ => (List.not_mem_nil h).elim) ⟨fun p h => (List.not_mem_nil h).elim, List.Pairwise.nil⟩
theorem Holds.poolWAdd (H : Holds w fm (Own t e v xs :: PoolW t e ps :: rs)) : Holds w fm (PoolW t e (ps ++ [(v, xs)]) :: rs) := by
  refine H.merge _ (fun b ⟨p, h, hb⟩ => ?_) (fun h1 h2 => ⟨fun p h => ?_, ?_⟩)
  · rcases List.mem_append.1 h with h | h
    · exact .inr ⟨p, h, hb⟩
    · obtain rfl : p = (v, xs) := by simpa using h
      exact .inl hb
  · rcases List.mem_append.1 h with h | h
    · exact h2.1 p h
    · obtain rfl : p = (v, xs) := by simpa using h
      exact h1
  · unfold ApartW; rw [List.pairwise_append]
    refine ⟨h2.2, List.pairwise_singleton _ _, fun p hp q hq b hb hb' => ?_⟩
    obtain rfl : q = (v, xs) := by simpa using hq
    exact H.sep 0 1 _ _ (by omega) rfl rfl b hb' ⟨p, hp, hb⟩
end
section
variable {P : Program} {ρ : Operand → Value} {o : Oper} {w : World} {x y : Operand} {T e : TypeId} {v u : Value} {α : Type} {t : Fl α} {xs : List α} {i j : Nat} {fm : Fm} {rs : List Res} {ps : List (Value × List α)} {n : Nat}
theorem d_stPw {q : Nat} {x0 x' : α} (H : Holds w fm rs) (hr : rs[i]? = some (PoolW t e ps)) (hp : ps[n]? = some (v, xs)) (hop : o.op = .store T x y) (hs : ∀ w, (sizeOf T).run P w = .ok u.cells.size w) (hx : ρ x = .pointer (some (elp v (q * t.sz + j)))) (hy : ρ y = u)
    (h1 : ∀ z ∈ u.cells.toList, z.oneCell' = true) (hq : xs[q]? = some x0) (hj : j + u.cells.size ≤ t.sz) (he : t.enc x' = (t.enc x0).take j ++ u.cells.toList ++ (t.enc x0).drop (j + u.cells.size)) :
    Does P ρ o w fun v' w' => v' = undef ∧ Holds w' fm (rs.set i (PoolW t e (ps.set n (v, xs.set q x')))) := by
  have hql : q < xs.length := (List.getElem?_eq_some_iff.1 hq).1
  have hnl : n < ps.length := (List.getElem?_eq_some_iff.1 hp).1
  have hps : ps[n] = (v, xs) := (List.getElem?_eq_some_iff.1 hp).2
  have hok := H.oks _ (mem_get hr)
  have hk := hok.1 _ (List.mem_of_getElem? hp)
  change (Own t e v xs).ok _ at hk
  rcases hk with ⟨_, hnil⟩ | ⟨b, off, c, cells, rfl, hc, hm, hb, hsz, hrow⟩
  · rw [show xs = [] from hnil] at hql; simp at hql
  · have hqs : q * t.sz + t.sz ≤ xs.length * t.sz := by rw [← Nat.succ_mul]; exact Nat.mul_le_mul_right _ hql
    have hcs : xs.length * t.sz ≤ c * t.sz := Nat.mul_le_mul_right _ hc
    have hmid := mid_set (l := cells.toList) (m := off) (n := xs.length * t.sz) hrow (q * t.sz + j) u.cells.toList (by simp; omega) (by simp; omega)
    have hother : ∀ k (hk : k < ps.length), k ≠ n → ∀ b', ps[k].1.ownBlock = some b' → b' ≠ b := fun k hk hne b' hb' e => by
      subst e
      have hpw := List.pairwise_iff_getElem.1 hok.2
      rcases Nat.lt_or_gt_of_ne hne with hlt | hlt
      · exact hpw k n hk hnl hlt b' hb' (by rw [hps]; rfl)
      · exact hpw n k hnl hk hlt b' (by rw [hps]; rfl) hb'
    obtain ⟨w', hw, H'⟩ := put_cells (P := P) H hr (g := b) (off := off + (q * t.sz + j)) (cs := u.cells.toList) (T := e) ⟨_, List.mem_of_getElem? hp, rfl⟩ hb (by simp; omega) h1 (PoolW t e (ps.set n (.slice (some ⟨b, off, none⟩) xs.length c, xs.set q x'))) (fun b' ⟨p, hpm, hpb⟩ => by
      rcases List.mem_or_eq_of_mem_set hpm with hpm | rfl
      · exact ⟨p, hpm, hpb⟩
      · exact ⟨_, List.mem_of_getElem? hp, hpb⟩) (fun h hh hrest => by
      refine ⟨fun p hpm => ?_, ?_⟩
      · obtain ⟨k, hk, rfl⟩ := List.mem_iff_getElem.1 hpm
        rw [List.length_set] at hk
        rw [List.getElem_set]
        split
        · refine .inr ⟨b, off, c, _, by rw [List.length_set], by rw [List.length_set]; exact hc, hm, hh, ?_, ?_⟩
          · simp only [List.size_toArray, List.length_append, List.length_take, List.length_drop, Array.length_toList]; omega
          · rw [List.length_set, hmid, Fl.row_set hql, he]
            have hd : (t.row xs).drop (q * t.sz) = t.enc x0 ++ (t.row xs).drop ((q + 1) * t.sz) := by
              have h2 := List.drop_eq_getElem_cons hql
              rw [← Fl.row_drop, ← Fl.row_drop, h2, Fl.row_cons]
              rw [(List.getElem?_eq_some_iff.1 hq).2]
            have ht : (t.row xs).take (q * t.sz + j) = (t.row xs).take (q * t.sz) ++ (t.enc x0).take j := by
              rw [List.take_add, hd, List.take_append_of_le_length (by rw [t.len]; omega)]
            have hd2 : (t.row xs).drop (q * t.sz + j + u.cells.toList.length) = (t.enc x0).drop (j + u.cells.size) ++ (t.row xs).drop ((q + 1) * t.sz) := by
              rw [Nat.add_assoc, ← List.drop_drop, hd, List.drop_append_of_le_length (by rw [t.len, Array.length_toList]; omega), Array.length_toList]
            rw [ht, hd2]; simp only [List.append_assoc]
        · rename_i hne
          exact (Own t e _ _).loc (fun b' hb' => hrest b' (hother k hk (fun e => hne e.symm) b' hb')) (hok.1 _ (List.getElem_mem hk))
      · unfold ApartW; rw [List.pairwise_iff_getElem]
        intro a d ha hd hlt b' hb1 hb2
        rw [List.length_set] at ha hd
        have hpw := List.pairwise_iff_getElem.1 hok.2 a d ha hd hlt b'
        rw [List.getElem_set] at hb1 hb2
        refine hpw ?_ ?_
        · split at hb1
          · rename_i e1; subst e1; rw [hps]; exact hb1
          · exact hb1
        · split at hb2
          · rename_i e1; subst e1; rw [hps]; exact hb2
          · exact hb2)
    have ha : elp (.slice (some ⟨b, off, none⟩) xs.length c) (q * t.sz + j) = ⟨b, off + (q * t.sz + j), none⟩ := Addr.add_lit _ _ _
    rw [ha] at hx
    exact Does.skip (w' := w') (by simp [execOp, hop, Instr.storeAt, Instr.sureAddr, hx, hy, run_storeVar _ hs, hw]) ⟨rfl, H'⟩
end
end Go.Proofs.Ytdjaoonjfampmaa.Sl
