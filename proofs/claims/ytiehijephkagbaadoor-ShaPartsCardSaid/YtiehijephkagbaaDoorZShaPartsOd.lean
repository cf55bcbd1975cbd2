/- The later part of an owned row is owned too. -/
import Derived.Test.YtiehijephkagbaaDoorZShaPartsMk
namespace Go.Proofs.YtiehijephkagbaaDoor.Sl
open Go.RowKit
set_option linter.unusedVariables false
section
variable {α : Type} {t : Fl α} {e : TypeId} {f : Hp} {v : Value} {xs : List α} {w : World} {fm : Fm} {rs : List Res} {i lo : Nat}
theorem Own.later (h : (Own t e v xs).ok f) (hlo : lo ≤ xs.length) : (Own t e (sl v lo xs.length t.sz) (xs.drop lo)).ok f ∧ ∀ b, (sl v lo xs.length t.sz).ownBlock = some b → v.ownBlock = some b := by
  rcases h with ⟨rfl, rfl⟩ | ⟨b, off, c, cells, rfl, hc, hm, hb, hsz, hrow⟩
  · obtain rfl : lo = 0 := by simpa using hlo
    exact ⟨.inl ⟨rfl, rfl⟩, fun b h => h⟩
  · have hp := t.pos
    by_cases hcl : c = lo
    · have hv : sl (.slice (some ⟨b, off, none⟩) xs.length c) lo xs.length t.sz = .slice (some ⟨b, off, none⟩) (xs.length - lo) (c - lo) := by simp only [sl, if_pos hcl]
      rw [hv]
      refine ⟨.inr ⟨b, off, c - lo, cells, by rw [List.length_drop], by rw [List.length_drop]; omega, by omega, hb, ?_, ?_⟩, fun b' h => h⟩
      · rw [show c - lo = 0 by omega, Nat.zero_mul]; omega
      · rw [List.length_drop, show xs.length - lo = 0 by omega, Nat.zero_mul, List.take_zero, List.drop_of_length_le (by omega)]; rfl
    · have hv : sl (.slice (some ⟨b, off, none⟩) xs.length c) lo xs.length t.sz = .slice (some ⟨b, off + lo * t.sz, none⟩) (xs.length - lo) (c - lo) := by
        simp only [sl, if_neg hcl, Option.map_some]; congr 2; exact Addr.add_lit _ _ _
      rw [hv]
      have hmul : (c - lo) * t.sz + lo * t.sz = c * t.sz := by rw [← Nat.add_mul, Nat.sub_add_cancel (by omega)]
      refine ⟨.inr ⟨b, off + lo * t.sz, c - lo, cells, by rw [List.length_drop], by rw [List.length_drop]; omega, by omega, hb, by omega, ?_⟩, fun b' h => h⟩
      rw [List.length_drop, Fl.row_drop, ← hrow, List.drop_take, List.drop_drop, Nat.sub_mul]
theorem Holds.later (H : Holds w fm rs) (hr : rs[i]? = some (Own t e v xs)) (hlo : lo ≤ xs.length) : Holds w fm (rs.set i (Own t e (sl v lo xs.length t.sz) (xs.drop lo))) :=
  H.chg hr rfl rfl rfl (fun _ _ _ => rfl) _ (fun b hb => .inl ((Own.later (H.oks _ (mem_get hr)) hlo).2 b hb)) (Own.later (H.oks _ (mem_get hr)) hlo).1
end
end Go.Proofs.YtiehijephkagbaaDoor.Sl
