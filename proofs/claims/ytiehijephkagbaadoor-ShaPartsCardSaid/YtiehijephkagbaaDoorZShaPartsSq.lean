/- Structs compared; functions in variables called; results that lie in variables. -/
import Derived.Test.YtiehijephkagbaaDoorZShaPartsPo
import Derived.Laws.StructEq
namespace Go.Proofs.YtiehijephkagbaaDoor.Sl
open Go.RowKit
set_option linter.unusedVariables false
set_option linter.unusedSimpArgs false
set_option linter.unusedSectionVars false
section
variable {P : Program} {ρ : Operand → Value} {o : Oper} {w : World} {x y : Operand} {T T' : TypeId} {k : IntKind} {a b : Value} {xs ys : Array Value} {f : Field} {fs : List Field} {A B : Prop} {n : Nat}
/-- These two values are equal just if c. -/
def Qf (P : Program) (t : TypeId) (a b : Value) (c : Bool) : Prop := ∀ d w, (Op.equalIn (d + 1) t a b).run P w = .ok c w
def Qs (P : Program) (fs : List Field) (xs ys : Array Value) (c : Bool) : Prop := ∀ d w, (Op.eqFields (d + 1) xs ys fs).run P w = .ok c w
theorem q_int {X Y : Int} (ht : P.underlying T = some (.int k)) : Qf P T (.int k X) (.int k Y) (decide (X = Y)) := fun d w => by rw [run_equalIn_int w d T k k X Y ht]; rfl
/-- A field that is a struct: one level more. -/
def Qg (P : Program) (t : TypeId) (xs ys : Array Value) (c : Bool) : Prop := ∀ d w, (Op.equalIn (d + 2) t (.agg xs) (.agg ys)).run P w = .ok c w
theorem x_eqA [Decidable A] (hop : o.op = .binOp .eql T x y T') (hg : P.eqGuardType P.depth T = false) (hx : ρ x = .agg xs) (hy : ρ y = .agg ys) (h : ∀ d w, (Op.equalIn (d + 2) T (.agg xs) (.agg ys)).run P w = .ok (decide A) w) : (execOp ρ o).run P w = .ok (.value (.bool (decide A))) w := by
  have h1 := h 9998 w
  simp [execOp, hop, hx, hy, run_eqGuard_agg _ _ _ _ _ _ _ hg, run_eql_struct, h1]
theorem x_neA [Decidable A] (hop : o.op = .binOp .neq T x y T') (hg : P.eqGuardType P.depth T = false) (hx : ρ x = .agg xs) (hy : ρ y = .agg ys) (h : ∀ d w, (Op.equalIn (d + 2) T (.agg xs) (.agg ys)).run P w = .ok (decide A) w) : (execOp ρ o).run P w = .ok (.value (.bool (decide (¬ A)))) w := by
  have h1 := h 9998 w
  simp [execOp, hop, hx, hy, run_eqGuard_agg _ _ _ _ _ _ _ hg, run_neq_struct, h1]
/-- A result's value: of a slot, or of a variable. -/
inductive Rv (P : Program) (tmps : Array Value) (w : World) : ResultVar → Value → Prop
  | tmp {t : Nat} {v : Value} (h : tmps.getD t undef = v) : Rv P tmps w (.tmp t) v
  | cell {t : Nat} {T : TypeId} {A : Addr} {v : Value} (h : tmps.getD t undef = .pointer (some A)) (hl : (loadVar T A).run P w = .ok v w) : Rv P tmps w (.cell t T) v
theorem resR1 {fn : Func} {ac : Act} {r : ResultVar} {v : Value} (h : fn.results = #[r]) (h1 : Rv P ac.tmps w r v) : (results fn ac.tmps).run P w = .ok v w := by
  rcases h1 with h1 | ⟨h1, l1⟩ <;> simp_all [results, asAddr]
theorem lv_agg {cs : List Value} {p off : Nat} (hA : ∀ w, (isAgg T).run P w = .ok true w) (hs : ∀ w, (sizeOf T).run P w = .ok cs.length w) (hc : ∀ j u, cs[j]? = some u → w.cell? ((⟨p, off, none⟩ : Addr).add j) = some u) : (loadVar T ⟨p, off, none⟩).run P w = .ok (.agg cs.toArray) w := by
  have hl := run_loadCells_list (P := P) w ⟨p, off, none⟩ cs hc
  simp [loadVar, hA, hs, hl]
end
end Go.Proofs.YtiehijephkagbaaDoor.Sl
