/- Rows made of nothing but zero values. -/
import Derived.Test.YtiehijephkagbaaDoorZShaEndsSq
import Derived.Laws.MakeOwn
namespace Go.Proofs.YtiehijephkagbaaDoor.Sl
open Go.RowKit
set_option linter.unusedVariables false
set_option linter.unusedSimpArgs false
section
variable {P : Program} {ρ : Operand → Value} {o : Oper} {w : World} {fm : Fm} {rs : List Res} {x y : Operand} {T e : TypeId} {k k' : IntKind} {α : Type}
theorem made_row (t : Fl α) (x0 : α) {zc : Array Value} (h : zc.toList = t.enc x0) (n : Nat) : (madeCells zc (n * t.sz)).toList = t.row (List.replicate n x0) := by
  have hs : zc.size = t.sz := by rw [← Array.length_toList, h, t.len]
  have hp := t.pos
  apply List.ext_getElem?
  intro i
  by_cases hi : i < n * t.sz
  · have hm : i % t.sz < t.sz := Nat.mod_lt _ hp
    have hd : i / t.sz < n := Nat.div_lt_of_lt_mul (by rw [Nat.mul_comm]; exact hi)
    have hlt : i % t.sz < (t.enc x0).length := by rw [t.len]; exact hm
    have h1 : (List.replicate n x0)[i / t.sz]? = some x0 := by rw [List.getElem?_replicate, if_pos hd]
    have h2 := Fl.row_get (t := t) h1 (List.getElem?_eq_getElem hlt)
    rw [Nat.mul_comm, Nat.div_add_mod] at h2
    rw [h2]
    have hz : i % t.sz < zc.size := by rw [hs]; exact hm
    have h3 : zc[i % t.sz]'hz = (t.enc x0)[i % t.sz]'hlt := by
      have h4 := Array.getElem_toList (xs := zc) (h := by rw [Array.length_toList]; exact hz) (i := i % t.sz)
      rw [← h4]
      congr 1
    simp only [madeCells, Array.toList_map, List.getElem?_map, Array.getElem?_toList]
    rw [show (Array.range (n * t.sz))[i]? = some i by simp [hi]]
    simp only [Option.map_some, hs]
    rw [getElem!_pos zc _ hz, h3]
  · rw [List.getElem?_eq_none (by rw [Array.length_toList, size_madeCells]; omega), List.getElem?_eq_none (by rw [Fl.row_len, List.length_replicate]; omega)]
theorem d_mk {n : Nat} {zv : Value} (t : Fl α) (x0 : α) (H : Holds w fm rs) (hop : o.op = .makeSlice T x y) (ht : P.underlying T = some (.slice e)) {inf : TypeInfo} (hinf : P.info? e = some inf) (hz : inf.zero = some zv) (hsz : inf.size = t.sz) (hzc : zv.cells.toList = t.enc x0)
    (hx : ρ x = .int k (n : Int)) (hy : ρ y = .int k' (n : Int)) {zb : Nat} (hby : inf.bytes = zb) (hb : zb * n ≤ 281474976710656) (hm : n ≤ 9223372036854775807) : Does P ρ o w fun v' w' => Holds w' fm (Own t e v' (List.replicate n x0) :: rs) := by
  have hb' : (inf.bytes : Int) * (n : Int) ≤ 281474976710656 := by
    rw [hby]
    have h : ((zb * n : Nat) : Int) ≤ 281474976710656 := by omega
    rwa [Int.natCast_mul] at h
  have hr := run_make (P := P) w T e inf zv ht hinf hz k k' n n (by omega) (Int.le_refl _) hb' (by omega)
  simp only [Int.toNat_natCast, hsz] at hr
  refine Does.of (v := .slice (some ⟨w.heap.size, 0, none⟩) n n) (w' := w.alloc (.cells (madeCells zv.cells (n * t.sz)) e)) (by simp only [execOp, hop, hx, hy]; simpa using congrArg (fun r => r.andThen fun a w' => Result.ok (Next.value a) w') hr) (H.alloc _ _ (fun b hb => (Option.some.inj hb).symm) (.inr ⟨w.heap.size, 0, n, _, by rw [List.length_replicate], by rw [List.length_replicate]; exact Nat.le_refl _, by unfold maxLen; omega, alloc_ok _ _, by rw [size_madeCells]; omega, ?_⟩))
  rw [List.drop_zero, List.length_replicate, List.take_of_length_le (by rw [Array.length_toList, size_madeCells]; exact Nat.le_refl _)]
  exact made_row t x0 hzc n
end
end Go.Proofs.YtiehijephkagbaaDoor.Sl
