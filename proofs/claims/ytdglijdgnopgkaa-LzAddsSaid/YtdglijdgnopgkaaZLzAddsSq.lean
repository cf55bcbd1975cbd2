/- Structs compared; functions in variables called; results that lie in variables. -/
import Derived.Test.YtdglijdgnopgkaaZLzAddsPo
import Derived.Laws.StructEq
namespace Go.Proofs.Ytdglijdgnopgkaa.Sl
open Go.RowKit
set_option linter.unusedVariables false
set_option linter.unusedSimpArgs false
set_option linter.unusedSectionVars false
section
variable {P : Program} {ρ : Operand → Value} {o : Oper} {w : World} {x y : Operand} {T T' : TypeId} {k : IntKind} {a b : Value} {xs ys : Array Value} {f : Field} {fs : List Field} {A B : Prop} {n : Nat}
/-- These two values are equal just if c. -/
def Qf (P : Program) (t : TypeId) (a b : Value) (c : Bool) : Prop := ∀ d w, (Op.equalIn (d + 1) t a b).run P w = .ok c w
def Qs (P : Program) (fs : List Field) (xs ys : Array Value) (c : Bool) : Prop := ∀ d w, (Op.eqFields (d + 1) xs ys fs).run P w = .ok c w
theorem q_int {X Y : Int} (ht : P.underlying T = some (.int k)) : Qf P T (.int k X) (.int k Y) (decide (X = Y)) := fun d w => by rw [run_equalIn_int w d T k k X Y ht]; rfl
theorem q_one [Decidable A] (hn : f.name ≠ "_") (hA : ∀ w, (isAgg f.type).run P w = .ok false w) (hx : xs[f.offset]? = some a) (hy : ys[f.offset]? = some b) (h : Qf P f.type a b (decide A)) : Qs P [f] xs ys (decide A) := fun d w => by
  have hq := fun w => h d w
  simp only [Op.eqFields, if_pos hn, Sem.run_bind, part, hA, Result.andThen_ok, Bool.false_eq_true, if_false, hx, hy, Sem.run_pure, hq]
  cases decide A <;> simp [Op.eqFields]
theorem q_cons [Decidable A] [Decidable B] (hn : f.name ≠ "_") (hA : ∀ w, (isAgg f.type).run P w = .ok false w) (hx : xs[f.offset]? = some a) (hy : ys[f.offset]? = some b) (h : Qf P f.type a b (decide A)) (hs : Qs P fs xs ys (decide B)) : Qs P (f :: fs) xs ys (decide (A ∧ B)) := fun d w => by
  have hq := fun w => h d w
  have hr := fun w => hs d w
  rw [Bool.decide_and]
  simp only [Op.eqFields, if_pos hn, Sem.run_bind, part, hA, Result.andThen_ok, Bool.false_eq_true, if_false, hx, hy, Sem.run_pure, hq]
  cases decide A <;> simp [hr]
theorem q_struct {c : Bool} (ht : P.underlying T = some (.struct fs.toArray)) (hp : P.stoodInHeld T = false) (h : Qs P fs xs ys c) : ∀ d w, (Op.equalIn (d + 2) T (.agg xs) (.agg ys)).run P w = .ok c w := fun d w => by
  have e : P.fieldsOf T = fs.toArray := by unfold Program.fieldsOf; rw [ht]
  rw [run_equalIn_struct w (d + 1) T xs ys (by rw [e]; exact ht) hp, e]
  exact h d w
/-- A field that is a struct: one level more. -/
def Qg (P : Program) (t : TypeId) (xs ys : Array Value) (c : Bool) : Prop := ∀ d w, (Op.equalIn (d + 2) t (.agg xs) (.agg ys)).run P w = .ok c w
theorem x_eqA [Decidable A] (hop : o.op = .binOp .eql T x y T') (hg : P.eqGuardType P.depth T = false) (hx : ρ x = .agg xs) (hy : ρ y = .agg ys) (h : ∀ d w, (Op.equalIn (d + 2) T (.agg xs) (.agg ys)).run P w = .ok (decide A) w) : (execOp ρ o).run P w = .ok (.value (.bool (decide A))) w := by
  have h1 := h 9998 w
  simp [execOp, hop, hx, hy, run_eqGuard_agg _ _ _ _ _ _ _ hg, run_eql_struct, h1]
/-- A result's value: of a slot, or of a variable. -/
inductive Rv (P : Program) (tmps : Array Value) (w : World) : ResultVar → Value → Prop
  | tmp {t : Nat} {v : Value} (h : tmps.getD t undef = v) : Rv P tmps w (.tmp t) v
  | cell {t : Nat} {T : TypeId} {A : Addr} {v : Value} (h : tmps.getD t undef = .pointer (some A)) (hl : (loadVar T A).run P w = .ok v w) : Rv P tmps w (.cell t T) v
end
end Go.Proofs.Ytdglijdgnopgkaa.Sl
