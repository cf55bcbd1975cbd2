/- Names and ops: what layer 17 says, in lists. -/
import Derived.Test.YtdjaoonjfampmaaZOpCopiesvalm
import Derived.Test.YtdjaoonjfampmaaZOpCopiesMk
namespace Go.Proofs.Ytdjaoonjfampmaa.Ops
open Go.RowKit Go.Proofs.Ytdjaoonjfampmaa.Sl Go.Proofs.Ytdjaoonjfampmaa.Leb Go.Proofs.Ytdjaoonjfampmaa.Utf Go.Proofs.Ytdjaoonjfampmaa.Val
set_option linter.unusedVariables false
set_option linter.unusedSimpArgs false
set_option linter.unusedSectionVars false
structure Oid where
  ctr : Int
  actor : ByteArray
  deriving DecidableEq
def Oid.z : Oid := ⟨0, ByteArray.empty⟩
def tOid : Fl Oid := ⟨2, fun c => [.int .i64 c.ctr, .string c.actor], fun _ => rfl, fun c u h => by
  simp only [List.mem_cons, List.not_mem_nil, or_false] at h
  rcases h with rfl | rfl <;> rfl, by decide⟩
theorem oid_eq {a b : Oid} : (a.ctr = b.ctr ∧ a.actor = b.actor) ↔ a = b := by cases a; cases b; simp
structure Op where
  obj : Oid
  key : ByteArray
  keyed : Bool
  elem : Oid
  ins : Bool
  act : Int
  val : Val
  s : Sv
  preds : List Oid
def Op.z : Op := ⟨Oid.z, ByteArray.empty, false, Oid.z, false, 0, Val.z, Sv.nil, []⟩
def tOp : Fl Op := ⟨13, fun o => [.int .i64 o.obj.ctr, .string o.obj.actor, .string o.key, .bool o.keyed, .int .i64 o.elem.ctr, .string o.elem.actor, .bool o.ins, .int .i64 o.act, .int .i64 o.val.kind, .int .u64 o.val.u, .int .i64 o.val.n, .string o.val.s, o.s.v], fun _ => rfl, fun c u h => by
  simp only [List.mem_cons, List.not_mem_nil, or_false] at h
  rcases h with rfl | rfl | rfl | rfl | rfl | rfl | rfl | rfl | rfl | rfl | rfl | rfl | rfl <;> rfl, by decide⟩
/-! Texts in order -/
def ltB : List Int → List Int → Bool
  | _, [] => false
  | [], _ :: _ => true
  | a :: x, b :: y => decide (a < b) || (decide (a = b) && ltB x y)
theorem ltB_irr : ∀ x : List Int, ltB x x = false
  | [] => rfl
  | a :: x => by rw [ltB, ltB_irr x]; simp
theorem ltB_tri : ∀ x y : List Int, ltB x y = false → ltB y x = false → x = y
  | [], [], _, _ => rfl
  | [], b :: y, h, _ => by cases h
  | a :: x, [], _, h => by cases h
  | a :: x, b :: y, h1, h2 => by
    rw [ltB, Bool.or_eq_false_iff] at h1 h2
    have e : a = b := by have h3 := of_decide_eq_false h1.1; have h4 := of_decide_eq_false h2.1; omega
    subst e
    simp only [decide_true, Bool.true_and] at h1 h2
    rw [ltB_tri x y h1.2 h2.2]
theorem ltB_asym : ∀ x y : List Int, ltB x y = true → ltB y x = false
  | x, [], h => by cases x <;> cases h
  | [], b :: y, _ => by rfl
  | a :: x, b :: y, h => by
    rw [ltB, Bool.or_eq_true, Bool.and_eq_true, decide_eq_true_iff, decide_eq_true_iff] at h
    rw [ltB, Bool.or_eq_false_iff]
    rcases h with h | ⟨rfl, h⟩
    · exact ⟨decide_eq_false (by omega), by rw [decide_eq_false (show ¬ b = a by omega)]; rfl⟩
    · exact ⟨decide_eq_false (by omega), by rw [ltB_asym x y h]; simp⟩
theorem less_ltB : ∀ x y : List UInt8, Go.Op.bytesLess x y = ltB (x.map fun b => (b.toNat : Int)) (y.map fun b => (b.toNat : Int))
  | x, [] => by cases x <;> rfl
  | [], b :: y => rfl
  | a :: x, b :: y => by
    rw [Go.Op.bytesLess, List.map_cons, List.map_cons, ltB, less_ltB x y]
    have h1 : decide (a < b) = decide ((a.toNat : Int) < (b.toNat : Int)) := decide_eq_decide.2 (by rw [UInt8.lt_iff_toNat_lt]; omega)
    have h2 : (a == b) = decide ((a.toNat : Int) = (b.toNat : Int)) := by
      rw [Bool.eq_iff_iff, beq_iff_eq, decide_eq_true_iff]
      constructor
      · rintro rfl; rfl
      · intro h; exact UInt8.toNat_inj.1 (by omega)
    rw [h1, h2]
theorem ss_list (s : ByteArray) : ss s = s.toList.map fun b => (b.toNat : Int) := by rw [ByteArray.toList_eq]; rfl
section
variable {P : Program} {ρ : Operand → Value} {o : Oper} {w : World} {x y : Operand} {T T' : TypeId} {s r : ByteArray}
theorem x_lssS (hop : o.op = .binOp .lss T x y T') (ht : P.underlying T = some .string) (hx : ρ x = .string s) (hy : ρ y = .string r) : (execOp ρ o).run P w = .ok (.value (.bool (ltB (ss s) (ss r)))) w := by
  have h := less_ltB s.toList r.toList
  rw [← ss_list, ← ss_list] at h
  simp [execOp, hop, hx, hy, go_sem, ht]
  exact h
theorem x_gtrS (hop : o.op = .binOp .gtr T x y T') (ht : P.underlying T = some .string) (hx : ρ x = .string s) (hy : ρ y = .string r) : (execOp ρ o).run P w = .ok (.value (.bool (ltB (ss r) (ss s)))) w := by
  have h := less_ltB s.toList r.toList
  rw [← ss_list, ← ss_list] at h
  have e : (!(Go.Op.bytesLess s.toList r.toList || s.toList == r.toList)) = ltB (ss r) (ss s) := by
    rw [h, toList_iff]
    cases h1 : ltB (ss s) (ss r) with
    | true => rw [ltB_asym _ _ h1]; rfl
    | false =>
      cases h2 : ltB (ss r) (ss s) with
      | true =>
        have : ¬ s = r := fun e => by subst e; rw [ltB_irr] at h2; cases h2
        rw [decide_eq_false this]; rfl
      | false => rw [decide_eq_true (ss_inj.1 (ltB_tri _ _ h1 h2))]; rfl
  simp [execOp, hop, hx, hy, go_sem, ht, Go.binOp, Go.Op.stringOp, run_underlying ht]
  simpa using e
end
/-! Names -/
def cI (x y : Int) : Int := if x < y then -1 else if y < x then 1 else 0
def cS (s r : ByteArray) : Int := if ltB (ss s) (ss r) = true then -1 else if ltB (ss r) (ss s) = true then 1 else 0
def orL : List Int → Int
  | [] => 0
  | x :: l => if x ≠ 0 then x else orL l
theorem or_step {l : List Int} {i : Nat} (h : i < l.length) : orL (l.drop i) = if l.getD i 0 ≠ 0 then l.getD i 0 else orL (l.drop (i + 1)) := by rw [drop_getD 0 h]; rfl
def cmpO (a b : Oid) : Int := orL [cI a.ctr b.ctr, cS a.actor b.actor]
def actB (s : ByteArray) : Bool := decide (1 ≤ s.size ∧ s.size ≤ 16)
def zeroI (x : Oid) : Bool := decide (x.ctr = 0 ∧ x.actor = ByteArray.empty)
def idI (x : Oid) : Bool := decide (1 ≤ x.ctr ∧ x.ctr ≤ 9007199254740991) && actB x.actor
theorem zeroI_iff (x : Oid) : zeroI x = true ↔ x = Oid.z := by
  unfold zeroI; rw [decide_eq_true_iff]; exact oid_eq (b := Oid.z)
/-- As far as i names are right, and rise. -/
def Pre (l : List Oid) (i : Nat) : Prop := ∀ j, j < i → idI (l.getD j Oid.z) = true ∧ (0 < j → cmpO (l.getD (j - 1) Oid.z) (l.getD j Oid.z) < 0)
instance (l : List Oid) (i : Nat) : Decidable (Pre l i) := by unfold Pre; infer_instance
def predsB (l : List Oid) : Bool := decide (Pre l l.length ∧ l.length ≤ 16)
theorem Pre.zero (l : List Oid) : Pre l 0 := fun j hj => by omega
theorem Pre.succ {l : List Oid} {i : Nat} (h : Pre l i) (h1 : idI (l.getD i Oid.z) = true) (h2 : 0 < i → cmpO (l.getD (i - 1) Oid.z) (l.getD i Oid.z) < 0) : Pre l (i + 1) := fun j hj => by
  by_cases e : j = i
  · subst e; exact ⟨h1, h2⟩
  · exact h j (by omega)
theorem Pre.take {l : List Oid} (h : Pre l l.length) (k : Nat) : Pre (l.take k) (l.take k).length := fun j hj => by
  have hj' : j < l.length ∧ j < k := by rw [List.length_take] at hj; omega
  have e : ∀ q, q < k → (l.take k).getD q Oid.z = l.getD q Oid.z := fun q hq => by simp only [List.getD_eq_getElem?_getD, List.getElem?_take]; rw [if_pos hq]
  have := h j hj'.1
  rw [e j hj'.2]
  exact ⟨this.1, fun h0 => by rw [e (j - 1) (by omega)]; exact this.2 h0⟩
def keyB (o : Op) : Bool := if o.keyed = true then zeroI o.elem && ((!o.ins) && (decide ((o.key.size : Int) ≤ 4000) && good o.key)) else decide (o.key = ByteArray.mk #[]) && (zeroI o.elem || idI o.elem)
def rightO (o : Op) : Bool := (zeroI o.obj || idI o.obj) && (keyB o && (decide (0 ≤ o.act) && (decide (o.act ≤ 1000) && (rightG o.val && predsB o.preds))))
theorem rightO_ok {o : Op} (h1 : zeroI o.obj = true ∨ idI o.obj = true) (h2 : keyB o = true) (h3 : 0 ≤ o.act) (h4 : o.act ≤ 1000) (h5 : rightG o.val = true) (h6 : predsB o.preds = true) : rightO o = true := by
  unfold rightO
  rw [h2, decide_eq_true h3, decide_eq_true h4, h5, h6]
  rcases h1 with h1 | h1 <;> rw [h1] <;> simp
theorem rightO_inv {o : Op} (h : rightO o = true) : (zeroI o.obj = true ∨ idI o.obj = true) ∧ keyB o = true ∧ 0 ≤ o.act ∧ o.act ≤ 1000 ∧ rightG o.val = true ∧ predsB o.preds = true := by
  unfold rightO at h
  simp only [Bool.and_eq_true, Bool.or_eq_true, decide_eq_true_iff] at h
  exact h
/-- Sizes that the walks ask for. -/
def OR (o : Op) : Prop := o.key.size ≤ 100000000 ∧ VR o.val ∧ (-9223372036854775808 ≤ o.act ∧ o.act < 9223372036854775808)
theorem awake_op : rightO ⟨Oid.z, ByteArray.mk #[97], true, Oid.z, false, 0, Val.z, Sv.nil, []⟩ = true ∧ rightO Op.z = true ∧ rightO ⟨Oid.z, ByteArray.mk #[97], false, Oid.z, false, 0, Val.z, Sv.nil, []⟩ = false := by
  have hv : VR Val.z := ⟨⟨by decide, by decide⟩, ⟨by decide, by decide⟩, ⟨by decide, by decide⟩, by decide⟩
  have hr : rightG Val.z = true := by rw [rightG_eq hv]; exact decide_eq_true ((right_P (v := Val.z) (.inl rfl)).2 ⟨rfl, rfl, rfl⟩)
  have hp : predsB [] = true := decide_eq_true ⟨Pre.zero _, by decide⟩
  have hz : zeroI Oid.z = true := (zeroI_iff _).2 rfl
  have hg : good (ByteArray.mk #[97]) = true := by
    rw [good_iff]
    have e : ss (ByteArray.mk #[97]) = [97] := rfl
    rw [e]
    have h1 : nx [97] = 1 := by decide
    rw [wh_go (by omega), h1]
    show 1 + wh [] = 1
    rw [wh_nil]
  refine ⟨?_, ?_, ?_⟩
  · simp only [rightO, keyB, hz, hr, hp, hg, if_true, Bool.true_or, Bool.true_and, Bool.and_true]; decide
  · simp only [rightO, keyB, Op.z, hz, hr, hp, Bool.true_or, Bool.true_and, Bool.and_true]; decide
  · simp only [rightO, keyB, hz, hr, hp, Bool.true_or, Bool.true_and, Bool.and_true]
    rw [if_neg (by decide), decide_eq_false (fun e => by have := congrArg ByteArray.size e; cases this)]; rfl
/-- Few names, and short texts. -/
def FewO (o : Op) : Prop := o.preds.length ≤ 40 ∧ o.key.size ≤ 5000 ∧ o.val.s.size ≤ 5000 ∧ o.obj.actor.size ≤ 100 ∧ o.elem.actor.size ≤ 100 ∧ ∀ k, k < o.preds.length → (o.preds.getD k Oid.z).actor.size ≤ 100
/-- What an argument is like. -/
def OpOk (o : Op) : Prop := (-9223372036854775808 ≤ o.obj.ctr ∧ o.obj.ctr < 9223372036854775808) ∧ (-9223372036854775808 ≤ o.act ∧ o.act < 9223372036854775808) ∧ (-9223372036854775808 ≤ o.val.kind ∧ o.val.kind < 9223372036854775808) ∧ (0 ≤ o.val.u ∧ o.val.u < 18446744073709551616) ∧ (-9223372036854775808 ≤ o.val.n ∧ o.val.n < 9223372036854775808)
theorem or_of {o : Op} (h : OpOk o) (hf : FewO o) : OR o := ⟨by have := hf.2.1; omega, ⟨h.2.2.1, h.2.2.2.1, h.2.2.2.2, by have := hf.2.2.1; omega⟩, h.2.1⟩
def bad2 (o : Op) : Bool := !((zeroI o.obj || idI o.obj) && (zeroI o.elem || idI o.elem))
def bad4 (o : Op) : Bool := o.keyed && !(zeroI o.elem && ((!o.ins) && ((!decide (4000 < (o.key.size : Int))) && good o.key)))
def bad6 (o : Op) : Bool := ((!o.keyed) && decide (0 < (o.key.size : Int))) || (decide (o.act < 0) || (decide (1000 < o.act) || ((!rightV o.val) || decide (16 < (o.preds.length : Int)))))
/-- All names that an op speaks of. -/
def namesO (o : Op) : List Oid := ([o.obj, o.elem] ++ o.preds).filter fun x => !zeroI x
/-- What an argument is, laid open. -/
def OidArg (_ : Hp) (x : Oid) : Prop := (-9223372036854775808 ≤ x.ctr ∧ x.ctr < 9223372036854775808) ∧ x.actor.size ≤ 9223372036854775807
def ValArg (_ : Hp) (x : Val) : Prop := (-9223372036854775808 ≤ x.kind ∧ x.kind < 9223372036854775808) ∧ (0 ≤ x.u ∧ x.u < 18446744073709551616) ∧ (-9223372036854775808 ≤ x.n ∧ x.n < 9223372036854775808) ∧ x.s.size ≤ 9223372036854775807
def OpArg (f : Hp) (o : Op) : Prop := OidArg f o.obj ∧ o.key.size ≤ 9223372036854775807 ∧ OidArg f o.elem ∧ (-9223372036854775808 ≤ o.act ∧ o.act < 9223372036854775808) ∧ ValArg f o.val ∧ Rd tOid f o.s.v o.preds ∧ ∀ p ∈ o.preds, OidArg f p
theorem OpArg.ok {f : Hp} {o : Op} (h : OpArg f o) : OpOk o := ⟨h.1.1, h.2.2.2.1, h.2.2.2.2.1.1, h.2.2.2.2.1.2.1, h.2.2.2.2.1.2.2.1⟩
theorem OpArg.rd {f : Hp} {o : Op} (h : OpArg f o) : Rd tOid f o.s.v o.preds := h.2.2.2.2.2.1
theorem OpArg.sz {f : Hp} {o : Op} (h : OpArg f o) : o.key.size ≤ 9223372036854775807 ∧ o.val.s.size ≤ 9223372036854775807 ∧ o.obj.actor.size ≤ 9223372036854775807 ∧ o.elem.actor.size ≤ 9223372036854775807 := ⟨h.2.1, h.2.2.2.2.1.2.2.2, h.1.2, h.2.2.1.2⟩
theorem OpArg.ac {f : Hp} {o : Op} (h : OpArg f o) : ∀ p ∈ o.preds, p.actor.size ≤ 9223372036854775807 := fun p hp => (h.2.2.2.2.2.2 p hp).2
def nz (x : Oid) : Bool := !zeroI x
theorem row_eq {α : Type} {a b : List α} (d : α) (hl : a.length = b.length) (h : ∀ j, j < a.length → a.getD j d = b.getD j d) : a = b := by
  apply List.ext_getElem hl
  intro i h1 h2
  have := h i h1
  simpa [List.getD_eq_getElem?_getD, h1, h2] using this
/-- Alike, memory aside. -/
def SameP (a b : Op) : Prop := a.obj = b.obj ∧ a.key = b.key ∧ a.keyed = b.keyed ∧ a.elem = b.elem ∧ a.ins = b.ins ∧ a.act = b.act ∧ a.val = b.val ∧ a.preds = b.preds
instance (a b : Op) : Decidable (SameP a b) := by unfold SameP; infer_instance
def SameL (a b : List Op) : Prop := a.length = b.length ∧ ∀ i, i < a.length → SameP (a.getD i Op.z) (b.getD i Op.z)
instance (a b : List Op) : Decidable (SameL a b) := by unfold SameL; infer_instance
end Go.Proofs.Ytdjaoonjfampmaa.Ops
