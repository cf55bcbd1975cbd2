/- Strings by places; closures. -/
import Derived.Test.YtdjaoonjfampmaaZOpCopiesSq
namespace Go.Proofs.Ytdjaoonjfampmaa.Sl
open Go.RowKit
set_option linter.unusedVariables false
set_option linter.unusedSimpArgs false
section
variable {P : Program} {ρ : Operand → Value} {o : Oper} {w : World} {x y : Operand} {T : TypeId} {k : IntKind} {s : ByteArray} {v : Value}
theorem ss_getD {s : ByteArray} {i : Nat} (h : i < s.size) : s[i]? = some s[i] ∧ (ss s).getD i 0 = (s[i].toNat : Int) := by
  refine ⟨by simp [h], ?_⟩
  have hl : i < s.data.toList.length := by rw [Array.length_toList]; exact h
  unfold ss
  rw [List.getD_eq_getElem?_getD, List.getElem?_map, List.getElem?_eq_getElem hl]
  rfl
theorem x_idxS {i : Nat} (hop : o.op = .index T x y) (ht : P.underlying T = some .string) (hx : ρ x = .string s) (hy : ρ y = .int k (i : Int)) (hi : i < s.size) : (execOp ρ o).run P w = .ok (.value (.int .u8 ((ss s).getD i 0))) w := by
  have h := ss_getD hi
  rw [h.2]
  have hge : ¬ s.size ≤ i := by omega
  simp [execOp, hop, Instr.index, asIntOf, run_underlying ht, hx, hy, hi, h.1, hge]
theorem x_slSL {lo : Nat} {xl : Operand} (hop : o.op = .slice T x (some xl) none none) (ht : P.underlying T = some .string) (hx : ρ x = .string s) (hl : ρ xl = .int k (lo : Nat)) (h1 : lo ≤ s.size) : (execOp ρ o).run P w = .ok (.value (.string (s.extract lo s.size))) w := by
  simp [execOp, hop, Instr.sliceAt, Instr.slice, Instr.sliceBounds, Instr.sliceBound, asIntOf, run_underlying ht, hx, hl, h1]
theorem ss_drop (s : ByteArray) (n : Nat) : ss (s.extract n s.size) = (ss s).drop n := by
  unfold ss
  rw [← List.map_drop]
  congr 1
  simp [ByteArray.data_extract]
  rw [List.take_of_length_le]
  rw [List.length_drop, Array.length_toList]
  exact Nat.le_refl _
theorem size_drop {s : ByteArray} {n : Nat} : (s.extract n s.size).size = s.size - n := by rw [ByteArray.size_extract]; omega
theorem s_empty {s : ByteArray} : s = ByteArray.mk #[] ↔ ss s = [] := by rw [← ss_inj]; rfl
theorem x_mkf {fn : Fn} {xs : Array Operand} {caps : Array Value} (hop : o.op = .makeFunc fn #[] xs) (ha : xs.map ρ = caps) : (execOp ρ o).run P w = .ok (.value (.func fn #[] caps)) w := by
  simp [execOp, hop, Instr.makeFunc, ha]
theorem d_callc {g : FuncId} {c : Operand} {args caps all : Array Value} {zs : Array Operand} {ts : Array TypeId} {K : Value → World → Prop} (hop : o.op = .call { callee := .value c, args := zs, argTypes := ts }) (hρ : ρ c = .func (.func g) #[] caps) (ha : zs.map ρ = args) (hall : args ++ caps = all) (hC : ∀ args w, (callFunc g args).run P w = .ok (.enter g args) w) (hc : Calls P g all w (Rt K)) : Does P ρ o w K := by
  refine Does.call (f := g) (args := all) ?_ hc
  subst ha hall
  simp [execOp, hop, resolve, hρ, Deferred.ofValue, invoke, hC]
end
end Go.Proofs.Ytdjaoonjfampmaa.Sl
