/- Steps of a walk: the frame as a list of known slots; each operation by a lemma of its own. -/
import Derived.Test.YtiehijephkagbaaDoorZShaPartsSl
import Derived.LoopN
import Derived.Deep.Slices
import Derived.Laws.StructEq
namespace Go.Proofs.YtiehijephkagbaaDoor.Sl
open Go.RowKit
set_option linter.unusedVariables false
set_option linter.unusedSimpArgs false
/-! Frames -/
def look (t : Nat) : List (Nat × Value) → Option Value
  | [] => none
  | (k, v) :: l => cond (Nat.beq k t) (some v) (look t l)
def AllAt (a : Act) : List (Nat × Value) → Prop
  | [] => True
  | (t, v) :: l => a.tmps.getD t undef = v ∧ AllAt a l
structure Fr (a : Act) (n : Nat) (L : List (Nat × Value)) : Prop where
  size : a.tmps.size = n
  defers : a.defers = []
  all : ∀ t v, look t L = some v → a.tmps.getD t undef = v
theorem AllAt.get {a : Act} : ∀ {L : List (Nat × Value)} {t : Nat} {v : Value}, AllAt a L → look t L = some v → a.tmps.getD t undef = v
  | [], _, _, _, h => by cases h
  | (k, u) :: l, t, v, ha, h => by
    simp only [look] at h
    cases hb : Nat.beq k t with
    | true => rw [hb] at h; obtain rfl : u = v := Option.some.inj h; obtain rfl := Nat.eq_of_beq_eq_true hb; exact ha.1
    | false => rw [hb] at h; exact AllAt.get ha.2 h
theorem Fr.get {a : Act} {n : Nat} {L : List (Nat × Value)} (F : Fr a n L) {t : Nat} {v : Value} (h : look t L = some v) : a.tmps.getD t undef = v := F.all _ _ h
theorem Fr.ev {a : Act} {n : Nat} {L : List (Nat × Value)} (F : Fr a n L) {t : Nat} {v : Value} (h : look t L = some v) : a.eval (.tmp t) = v := F.all _ _ h
theorem Fr.say {a : Act} {n : Nat} {L : List (Nat × Value)} (F : Fr a n L) (t : Nat) (v : Value) (h : a.tmps.getD t undef = v) : Fr a n ((t, v) :: L) := by
  refine ⟨F.size, F.defers, fun s u hs => ?_⟩
  simp only [look] at hs
  cases hb : Nat.beq t s with
  | true => rw [hb] at hs; obtain rfl : v = u := Option.some.inj hs; obtain rfl := Nat.eq_of_beq_eq_true hb; exact h
  | false => rw [hb] at hs; exact F.all _ _ hs
theorem Fr.re {a : Act} {n : Nat} {L : List (Nat × Value)} (F : Fr a n L) (L' : List (Nat × Value)) (h : AllAt a L') : Fr a n L' := ⟨F.size, F.defers, fun _ _ hs => h.get hs⟩
theorem Fr.put {a : Act} {n : Nat} {L : List (Nat × Value)} (F : Fr a n L) (d : Nat) (v : Value) (hd : d < n) : Fr (a.put (some d) v) n ((d, v) :: L) := by
  have hs : d < a.tmps.size := by rw [F.size]; exact hd
  refine ⟨by rw [← F.size]; simp [Act.put], F.defers, fun t u h => ?_⟩
  show (a.tmps.setIfInBounds d v).getD t undef = u
  simp only [look] at h
  cases hb : Nat.beq d t with
  | true =>
    rw [hb] at h; obtain rfl : v = u := Option.some.inj h; obtain rfl := Nat.eq_of_beq_eq_true hb
    simp [Array.getD, hs]
  | false =>
    rw [hb] at h
    have hne : d ≠ t := fun e => by subst e; rw [Nat.beq_refl] at hb; cases hb
    rw [Array.getD_eq_getD_getElem?, Array.getElem?_setIfInBounds_ne hne, ← Array.getD_eq_getD_getElem?]
    exact F.all t u h
/-! Control -/
section
variable {P : Program} {Q : Exit → Act → World → Prop} {K : Act → World → Prop} {a : Act} {w : World}
theorem then_n (h : K a w) : Exit.then K Q .normal a w := h
theorem then_e {id : Nat} (h : Q (.exit id) a w) : Exit.then K Q (.exit id) a w := h
theorem then_r (h : Q .ret a w) : Exit.then K Q .ret a w := h
theorem inb_n {id : Nat} (h : Q .normal a w) : Exit.inBlock id Q .normal a w := h
theorem inb_r {id : Nat} (h : Q .ret a w) : Exit.inBlock id Q .ret a w := h
theorem inb_hit {id : Nat} (h : Q .normal a w) : Exit.inBlock id Q (.exit id) a w := by simp only [Exit.inBlock, if_true]; exact h
theorem c_loop {c : Code} (I : Nat → Act → World → Prop) (m : Nat) (h0 : I m a w) (round : ∀ m a w, I m a w → c.wp P (Exit.then (fun a' w' => ∃ m', m' < m ∧ I m' a' w') Q) a w) : (Code.loop c).wp P Q a w := by
  have key : ∀ (n m : Nat) (a : Act) (w : World), m < n → I m a w → Code.rounds P c Q n a w := by
    intro n
    induction n with
    | zero => intro m a w hm; omega
    | succ n ih =>
      intro m a w hm hI
      rw [rounds_succ]
      refine Code.wp_mono (fun e a w h => ?_) (round m a w hI)
      cases e <;> first | exact h | (obtain ⟨m', hm', hI'⟩ := h; exact ih m' _ _ (by omega) hI')
  exact wp_loop_rounds (m + 1) (key (m + 1) m a w (Nat.lt_succ_self _) h0)
theorem b_split {p : Prop} (b : Bool) (ht : b = true → p) (hf : b = false → p) : p := by cases b; exact hf rfl; exact ht rfl
end
/-! Single operations -/
/-- It returns, and K holds of its answer. -/
def Rt (K : Value → World → Prop) (e : Ending) (w : World) : Prop := ∃ v, e = .returned v ∧ K v w
/-- What an operation does. -/
def Does (P : Program) (ρ : Operand → Value) (o : Oper) (w : World) (K : Value → World → Prop) : Prop :=
  match (execOp ρ o).run P w with
  | .ok (.value v) w' => K v w'
  | .ok .skip w' => K undef w'
  | .ok (.enter f args) w' => Calls P f args w' (Rt K)
  | _ => False
section
variable {P : Program} {Q : Exit → Act → World → Prop} {a : Act} {w w' : World} {ops : Array Oper} {rest : List Oper} {o : Oper} {n d : Nat} {L : List (Nat × Value)} {v : Value} {K : Value → World → Prop}
theorem Does.of {ρ : Operand → Value} (h : (execOp ρ o).run P w = .ok (.value v) w') (hk : K v w') : Does P ρ o w K := by unfold Does; rw [h]; exact hk
theorem Does.skip {ρ : Operand → Value} (h : (execOp ρ o).run P w = .ok .skip w') (hk : K undef w') : Does P ρ o w K := by unfold Does; rw [h]; exact hk
theorem Does.call {ρ : Operand → Value} {f : FuncId} {args : Array Value} (h : (execOp ρ o).run P w = .ok (.enter f args) w) (hk : Calls P f args w (Rt K)) : Does P ρ o w K := by unfold Does; rw [h]; exact hk
theorem Does.mono {ρ : Operand → Value} {K' : Value → World → Prop} (h : Does P ρ o w K) (hk : ∀ v w, K v w → K' v w) : Does P ρ o w K' := by
  unfold Does at *
  cases hr : (execOp ρ o).run P w with
  | ok x w' =>
    rw [hr] at h
    cases x <;> first | exact hk _ _ h | exact h | (exact Calls.mono h fun e w ⟨v, he, hv⟩ => ⟨v, he, hk v w hv⟩)
  | halt x w' => rw [hr] at h; exact h
theorem Does.wp (h : Does P a.eval o w K) {next : Act → World → Prop} (hk : ∀ v w', K v w' → next (a.put o.dst v) w') : o.wp P a w next Q := by
  unfold Does at h
  unfold Oper.wp
  generalize (execOp a.eval o).run P w = r at h ⊢
  cases r with
  | ok n w' =>
    cases n <;> simp only [Oper.upon] at h ⊢
    case value v => exact hk v w' h
    case skip => exact hk undef w' h
    case enter f args =>
      refine Calls.mono h fun e w'' he => ?_
      obtain ⟨v, rfl, hv⟩ := he
      exact hk v w'' hv
  | halt x w' => exact h.elim
def putL (d : Option Nat) (v : Value) (L : List (Nat × Value)) : List (Nat × Value) := match d with
  | some d => (d, v) :: L
  | none => L
theorem Fr.putO (F : Fr a n L) (d : Option Nat) (v : Value) (hd : ∀ t, d = some t → t < n) : Fr (a.put d v) n (putL d v L) := by
  cases d with
  | none => exact F
  | some d => exact F.put d v (hd d rfl)
theorem wanted_none {y : Nat → Option Bool} (h : o.guard = none) : Region.wanted o y = true := by unfold Region.wanted; rw [h]
theorem wanted_some {oj : Oper} {j : Nat} {b c : Bool} {t : Nat} (h : o.guard = some (j, c)) (hj : ops[j]? = some oj) (ht : oj.dst = some t) (hv : a.tmps.getD t undef = .bool b) :
    Region.wanted o (yielded ops a.tmps) = (b == c) := by
  have hb : a.tmps[t]? = some (.bool b) := by
    rw [Array.getD_eq_getD_getElem?] at hv
    cases hx : a.tmps[t]? with
    | none => rw [hx] at hv; cases hv
    | some x => rw [hx] at hv; exact congrArg some hv
  unfold Region.wanted yielded
  rw [h]
  simp only [hj, Option.bind_some, ht, hb]
  cases b <;> cases c <;> rfl
/-- The next operation, whatever it does. -/
theorem go_any (F : Fr a n L) (hw : Region.wanted o (yielded ops a.tmps) = true) (hn : ∀ t, o.dst = some t → t < n) (hD : Does P a.eval o w K)
    (k : ∀ v w' a', K v w' → Fr a' n (putL o.dst v L) → wpList P ops Q rest a' w') : wpList P ops Q (o :: rest) a w := by
  refine wpList_step fun K' hK' => ?_
  rw [if_pos hw]
  exact hD.wp fun v w' hv => hK' _ _ (k v w' _ hv (F.putO o.dst v hn))
/-- The next operation, which answers a value and leaves the world alone. -/
theorem go_val (F : Fr a n L) (hw : Region.wanted o (yielded ops a.tmps) = true) (hd : o.dst = some d) (hn : d < n) (hr : (execOp a.eval o).run P w = .ok (.value v) w)
    (k : ∀ a', Fr a' n ((d, v) :: L) → wpList P ops Q rest a' w) : wpList P ops Q (o :: rest) a w := by
  refine wpList_step fun K' hK' => ?_
  rw [if_pos hw]
  refine (Does.of (K := fun v' w' => v' = v ∧ w' = w) hr ⟨rfl, rfl⟩).wp fun v' w' hv => ?_
  obtain ⟨rfl, rfl⟩ := hv
  refine hK' _ _ (k _ ?_)
  rw [hd]
  exact F.put d v' hn
/-- The next operation is passed over. -/
theorem go_pass (F : Fr a n L) (hw : Region.wanted o (yielded ops a.tmps) = false) (hn : ∀ t, o.dst = some t → t < n) (k : ∀ a', Fr a' n (putL o.dst undef L) → wpList P ops Q rest a' w) : wpList P ops Q (o :: rest) a w :=
  wpList_skip hw (k _ (F.putO o.dst undef hn))
end
theorem c_enter {P : Program} {f : FuncId} {fn : Func} {c : Code} {args : Array Value} {w : World} {R : Ending → World → Prop} {n : Nat} (hf : P.funcs[f]? = some fn) (hb : fn.body = some c) (hn : fn.ntmps = n) (ha : args.size ≤ n)
    (h : ∀ a, Fr a n (args.toList.zipIdx.map fun x => (x.2, x.1)) → c.wp P (bodyPost P fn R) a w) : Calls P f args w R := by
  refine calls_of_wp hf hb (h _ ⟨by simp; omega, rfl, fun _ _ hs => AllAt.get ?_ hs⟩)
  have key : ∀ (l : List Value) (k : Nat) (a : Act), (∀ i u, l[i]? = some u → a.tmps.getD (k + i) undef = u) → AllAt a ((l.zipIdx k).map fun x => (x.2, x.1)) := by
    intro l
    induction l with
    | nil => intro k a h; exact trivial
    | cons x l ih =>
      intro k a h
      refine ⟨h 0 x rfl, ih (k + 1) a fun i u hi => ?_⟩
      have := h (i + 1) u hi
      rwa [Nat.add_right_comm k 1 i]
  refine key args.toList 0 _ fun i u hi => ?_
  have hi' : args[i]? = some u := by simpa using hi
  have hl : i < args.size := (Array.getElem?_eq_some_iff.1 hi').1
  rw [Nat.zero_add]
  show (args ++ Array.replicate (fn.ntmps - args.size) undef).getD i undef = u
  rw [Array.getD_eq_getD_getElem?, Array.getElem?_append_left hl, hi']
  rfl
theorem c_ret {P : Program} {fn : Func} {a : Act} {w : World} {K : Value → World → Prop} {n : Nat} {L : List (Nat × Value)} (F : Fr a n L) {v : Value} (hr : (results fn a.tmps).run P w = .ok v w) (hK : K v w) : bodyPost P fn (Rt K) .ret a w := ⟨F.defers, v, hr, v, rfl, hK⟩
theorem c_end {P : Program} {fn : Func} {a : Act} {w : World} {K : Value → World → Prop} {n : Nat} {L : List (Nat × Value)} (F : Fr a n L) {v : Value} (hr : (results fn a.tmps).run P w = .ok v w) (hK : K v w) : bodyPost P fn (Rt K) .normal a w := ⟨F.defers, v, hr, v, rfl, hK⟩
theorem res1 {P : Program} {fn : Func} {a : Act} {w : World} {t : Nat} {v : Value} (h : fn.results = #[.tmp t]) (ht : a.tmps.getD t undef = v) : (results fn a.tmps).run P w = .ok v w := by subst ht; simp [results, h]
theorem res0 {P : Program} {fn : Func} {a : Act} {w : World} (h : fn.results = #[]) : (results fn a.tmps).run P w = .ok (.tuple #[]) w := by simp [results, h]
theorem res2 {P : Program} {fn : Func} {a : Act} {w : World} {t t' : Nat} {v v' : Value} (h : fn.results = #[.tmp t, .tmp t']) (ht : a.tmps.getD t undef = v) (ht' : a.tmps.getD t' undef = v') : (results fn a.tmps).run P w = .ok (.tuple #[v, v']) w := by subst ht; subst ht'; simp [results, h]
/-! Operations that answer a value -/
section
variable {P : Program} {ρ : Operand → Value} {o : Oper} {w : World} {x y z : Operand} {T T' : TypeId} {k : IntKind} {X Y Z : Int} {v u : Value} {b c : Bool} {s r : ByteArray}
theorem x_move  (hop : o.op = .move x) (hx : ρ x = v) :
    (execOp ρ o).run P w = .ok (.value (v)) w := by
  simp [execOp, hop, hx]
theorem x_assign  (hop : o.op = .assign x) (hx : ρ x = v) :
    (execOp ρ o).run P w = .ok (.value (v)) w := by
  simp [execOp, hop, hx]
theorem x_nil {p : Addr} (hop : o.op = .nilCheck x)  (hx : ρ x = .pointer (some p)) :
    (execOp ρ o).run P w = .ok (.value (.pointer (some p))) w := by
  simp [execOp, hop, hx]
theorem x_add  (hop : o.op = .binOp .add T x y T') (ht : P.underlying T = some (.int k)) (hx : ρ x = .int k X) (hy : ρ y = .int k Y) (hw : k.wrap (X + Y) = Z) :
    (execOp ρ o).run P w = .ok (.value (.int k Z)) w := by
  subst hw; simp [execOp, hop, hx, hy, go_sem, ht]
theorem x_sub  (hop : o.op = .binOp .sub T x y T') (ht : P.underlying T = some (.int k)) (hx : ρ x = .int k X) (hy : ρ y = .int k Y) (hw : k.wrap (X - Y) = Z) :
    (execOp ρ o).run P w = .ok (.value (.int k Z)) w := by
  subst hw; simp [execOp, hop, hx, hy, go_sem, ht]
theorem x_mul  (hop : o.op = .binOp .mul T x y T') (ht : P.underlying T = some (.int k)) (hx : ρ x = .int k X) (hy : ρ y = .int k Y) (hw : k.wrap (X * Y) = Z) :
    (execOp ρ o).run P w = .ok (.value (.int k Z)) w := by
  subst hw; simp [execOp, hop, hx, hy, go_sem, ht]
theorem x_lss  (hop : o.op = .binOp .lss T x y T') (ht : P.underlying T = some (.int k)) (hx : ρ x = .int k X) (hy : ρ y = .int k Y) :
    (execOp ρ o).run P w = .ok (.value (.bool (decide (X < Y)))) w := by
  simp [execOp, hop, hx, hy, go_sem, ht]
theorem x_leq  (hop : o.op = .binOp .leq T x y T') (ht : P.underlying T = some (.int k)) (hx : ρ x = .int k X) (hy : ρ y = .int k Y) :
    (execOp ρ o).run P w = .ok (.value (.bool (decide (X ≤ Y)))) w := by
  simp [execOp, hop, hx, hy, go_sem, ht]
theorem x_gtr  (hop : o.op = .binOp .gtr T x y T') (ht : P.underlying T = some (.int k)) (hx : ρ x = .int k X) (hy : ρ y = .int k Y) :
    (execOp ρ o).run P w = .ok (.value (.bool (decide (Y < X)))) w := by
  simp [execOp, hop, hx, hy, go_sem, ht]
theorem x_geq  (hop : o.op = .binOp .geq T x y T') (ht : P.underlying T = some (.int k)) (hx : ρ x = .int k X) (hy : ρ y = .int k Y) :
    (execOp ρ o).run P w = .ok (.value (.bool (decide (Y ≤ X)))) w := by
  simp [execOp, hop, hx, hy, go_sem, ht]
theorem x_eql  (hop : o.op = .binOp .eql T x y T') (ht : P.underlying T = some (.int k)) (hx : ρ x = .int k X) (hy : ρ y = .int k Y) :
    (execOp ρ o).run P w = .ok (.value (.bool (decide (X = Y)))) w := by
  simp [execOp, hop, hx, hy, go_sem, ht]
  rw [Bool.eq_iff_iff]; simp
theorem x_neq  (hop : o.op = .binOp .neq T x y T') (ht : P.underlying T = some (.int k)) (hx : ρ x = .int k X) (hy : ρ y = .int k Y) :
    (execOp ρ o).run P w = .ok (.value (.bool (decide (X ≠ Y)))) w := by
  simp [execOp, hop, hx, hy, go_sem, ht]
  rw [Bool.eq_iff_iff]; simp
theorem x_quo  (hop : o.op = .binOp .quo T x y T') (ht : P.underlying T = some (.int k)) (hx : ρ x = .int k X) (hy : ρ y = .int k Y) (h : Y ≠ 0) (hw : k.wrap (X.tdiv Y) = Z) :
    (execOp ρ o).run P w = .ok (.value (.int k Z)) w := by
  subst hw; simp [execOp, hop, hx, hy, go_sem, ht, h]
theorem x_rem  (hop : o.op = .binOp .rem T x y T') (ht : P.underlying T = some (.int k)) (hx : ρ x = .int k X) (hy : ρ y = .int k Y) (h : Y ≠ 0) (hw : X.tmod Y = Z) :
    (execOp ρ o).run P w = .ok (.value (.int k Z)) w := by
  subst hw; simp [execOp, hop, hx, hy, go_sem, ht, h]
theorem x_and  (hop : o.op = .binOp .and T x y T') (ht : P.underlying T = some (.int k)) (hx : ρ x = .int k X) (hy : ρ y = .int k Y) (hw : bits .and k X Y = Z) :
    (execOp ρ o).run P w = .ok (.value (.int k Z)) w := by
  subst hw; simp [execOp, hop, hx, hy, go_sem, ht]
theorem x_or  (hop : o.op = .binOp .or T x y T') (ht : P.underlying T = some (.int k)) (hx : ρ x = .int k X) (hy : ρ y = .int k Y) (hw : bits .or k X Y = Z) :
    (execOp ρ o).run P w = .ok (.value (.int k Z)) w := by
  subst hw; simp [execOp, hop, hx, hy, go_sem, ht]
theorem x_xor  (hop : o.op = .binOp .xor T x y T') (ht : P.underlying T = some (.int k)) (hx : ρ x = .int k X) (hy : ρ y = .int k Y) (hw : bits .xor k X Y = Z) :
    (execOp ρ o).run P w = .ok (.value (.int k Z)) w := by
  subst hw; simp [execOp, hop, hx, hy, go_sem, ht]
theorem x_shl {k' : IntKind} (hop : o.op = .binOp .shl T x y T')  (ht : P.underlying T = some (.int k)) (hx : ρ x = .int k X) (hy : ρ y = .int k' Y) (h : 0 ≤ Y) (hw : k.wrap (X * 2 ^ (min Y.toNat k.bits)) = Z) :
    (execOp ρ o).run P w = .ok (.value (.int k Z)) w := by
  subst hw; simp [execOp, hop, hx, hy, go_sem, ht, h]
theorem x_shr {k' : IntKind} (hop : o.op = .binOp .shr T x y T')  (ht : P.underlying T = some (.int k)) (hx : ρ x = .int k X) (hy : ρ y = .int k' Y) (h : 0 ≤ Y) (hw : X / 2 ^ (min Y.toNat k.bits) = Z) :
    (execOp ρ o).run P w = .ok (.value (.int k Z)) w := by
  subst hw; simp [execOp, hop, hx, hy, go_sem, ht, h]; try rfl
theorem x_not  (hop : o.op = .unOp .not T x) (hx : ρ x = .bool b) :
    (execOp ρ o).run P w = .ok (.value (.bool (!b))) w := by
  simp [execOp, hop, hx, go_sem]
theorem x_cpl  (hop : o.op = .unOp .xor T x) (hx : ρ x = .int k X) (hw : bits .xor k (if k.signed then -1 else k.max) X = Z) :
    (execOp ρ o).run P w = .ok (.value (.int k Z)) w := by
  subst hw; simp [execOp, hop, hx, go_sem]
theorem x_pickT {d : Operand} (hop : o.op = .pick d x y)  (hc : ρ d = .bool true) (hx : ρ x = v) :
    (execOp ρ o).run P w = .ok (.value (v)) w := by
  simp [execOp, hop, hc, hx, go_sem]
theorem x_pickF {d : Operand} (hop : o.op = .pick d x y)  (hc : ρ d = .bool false) (hy : ρ y = v) :
    (execOp ρ o).run P w = .ok (.value (v)) w := by
  simp [execOp, hop, hc, hy, go_sem]
theorem x_cvI {k' : IntKind} (hop : o.op = .convert T T' x)  (ht : P.underlying T = some (.int k)) (ht' : P.underlying T' = some (.int k')) (hx : ρ x = .int k X) (hw : k'.wrap X = Z) :
    (execOp ρ o).run P w = .ok (.value (.int k' Z)) w := by
  subst hw; simp [execOp, hop, hx, go_sem, ht, ht']
theorem x_ext {vs : Array Value} {i : Nat} (hop : o.op = .extract x i)   (hx : ρ x = .tuple vs) (hv : vs[i]? = some v) :
    (execOp ρ o).run P w = .ok (.value (v)) w := by
  simp [execOp, hop, hx, go_sem, hv]
theorem x_lenSl {A : Option Addr} {n c : Nat} {t : TypeId} {e : TypeId} (hop : o.op = .call { callee := .builtin .len, args := #[x], argTypes := #[t] })     (hx : ρ x = .slice A n c) (ht : P.underlying t = some (.slice e)) :
    (execOp ρ o).run P w = .ok (.value (.int .i64 n)) w := by
  simp [execOp, hop, hx, go_sem, ht]
theorem x_min {t t' : TypeId} (hop : o.op = .call { callee := .builtin .min, args := #[x, y], argTypes := #[t, t'] })  (ht : P.underlying o.type = some (.int k)) (hx : ρ x = .int k X) (hy : ρ y = .int k Y) :
    (execOp ρ o).run P w = .ok (.value (.int k (min X Y))) w := by
  simp [execOp, hop, hx, hy, go_sem, ht]
  omega
end
/-! Numbers of a kind -/
theorem wr_i64 {X : Int} (h : -9223372036854775808 ≤ X ∧ X ≤ 9223372036854775807) : IntKind.i64.wrap X = X := by
  unfold IntKind.wrap
  simp [IntKind.bits, IntKind.signed]; try omega
theorem wm_u8 (X : Int) : IntKind.u8.wrap X = X % 256 := by
  unfold IntKind.wrap
  simp [IntKind.bits, IntKind.signed]
theorem wr_u32 {X : Int} (h : 0 ≤ X ∧ X ≤ 4294967295) : IntKind.u32.wrap X = X := by
  unfold IntKind.wrap
  simp [IntKind.bits, IntKind.signed]; try omega
theorem wm_u32 (X : Int) : IntKind.u32.wrap X = X % 4294967296 := by
  unfold IntKind.wrap
  simp [IntKind.bits, IntKind.signed]
theorem wr_u64 {X : Int} (h : 0 ≤ X ∧ X ≤ 18446744073709551615) : IntKind.u64.wrap X = X := by
  unfold IntKind.wrap
  simp [IntKind.bits, IntKind.signed]; try omega
theorem wm_u64 (X : Int) : IntKind.u64.wrap X = X % 18446744073709551616 := by
  unfold IntKind.wrap
  simp [IntKind.bits, IntKind.signed]
end Go.Proofs.YtiehijephkagbaaDoor.Sl
