/- Slices of an array in a variable, and the copy that moves eight words on. -/
import Derived.Test.YtiehijephkagbaaDoorZShaPartsGl
namespace Go.Proofs.YtiehijephkagbaaDoor.Sha
open Go.RowKit Go.Proofs.YtiehijephkagbaaDoor.Sl
set_option linter.unusedVariables false
set_option linter.unusedSimpArgs false
def un8 (s : St8) : List Int := [s.a, s.b, s.c, s.d, s.e, s.f, s.g, s.h]
section
variable {P : Program} {ρ : Operand → Value} {o : Oper} {w : World} {x y : Operand} {T T' e : TypeId} {p n : Nat} {fm : Fm} {rs : List Res} {i : Nat} {k : IntKind} {tl : List Value}
theorem x_slA1 {lo : Nat} {X : Int} (hop : o.op = .slice T x (some y) none none) (ht : P.underlying T = some (.array n e)) (hs : ∀ w, (sizeOf e).run P w = .ok 1 w) (hx : ρ x = .pointer (some ⟨p, 0, none⟩)) (hy : ρ y = .int k X) (hX : X = (lo : Int)) (h0 : 0 < lo) (hl : lo < n) :
    (execOp ρ o).run P w = .ok (.value (.slice (some ⟨p, lo, none⟩) (n - lo) (n - lo))) w := by
  subst hX
  have h1 : ¬ (n = lo) := by omega
  have h2 : ¬ (lo = 0) := by omega
  have h3 : lo ≤ n := by omega
  simp [execOp, hop, Instr.sliceAt, Instr.sureAddr, Instr.sliceBounds, Instr.sliceBound, asIntOf, hx, hy, run_underlying ht, hs, Addr.add, h1, h2, h3]
theorem x_slA2 {hi : Nat} {X : Int} (hop : o.op = .slice T x none (some y) none) (ht : P.underlying T = some (.array n e)) (hs : ∀ w, (sizeOf e).run P w = .ok 1 w) (hx : ρ x = .pointer (some ⟨p, 0, none⟩)) (hy : ρ y = .int k X) (hX : X = (hi : Int)) (hl : hi ≤ n) :
    (execOp ρ o).run P w = .ok (.value (.slice (some ⟨p, 0, none⟩) hi n)) w := by
  subst hX
  simp [execOp, hop, Instr.sliceAt, Instr.sureAddr, Instr.sliceBounds, Instr.sliceBound, asIntOf, hx, hy, run_underlying ht, hs, Addr.add, hl]
theorem d_cp8 {a b c d e' f g h : Int} (H : Holds w fm rs) (hr : rs[i]? = some (Pt p T' (ar .u32 [a, b, c, d, e', f, g, h] ++ tl))) (hop : o.op = .call { callee := .builtin .copy, args := #[x, y], argTypes := #[T, T] }) (ht : P.underlying T = some (.slice e)) (hs : (P.info? e).map (·.size) = some 1)
    (hx : ρ x = .slice (some ⟨p, 1, none⟩) 7 7) (hy : ρ y = .slice (some ⟨p, 0, none⟩) 7 8) : Does P ρ o w fun v' w' => v' = .int .i64 7 ∧ Holds w' fm (rs.set i (Pt p T' (ar .u32 [a, a, b, c, d, e', f, g] ++ tl))) := by
  have hg := H.pt hr
  have hc := ar_cells H hr
  let cs : List Value := ar .u32 [a, b, c, d, e', f, g]
  have hcs : ∀ j v, cs[j]? = some v → w.cell? ((⟨p, 0, none⟩ : Addr).add j) = some v := fun j v hv => hc j v (by
    have : ar .u32 [a, b, c, d, e', f, g, h] = cs ++ [.int .u32 h] := rfl
    rw [this, List.getElem?_append_left (List.getElem?_eq_some_iff.1 hv).1]; exact hv)
  have hrun := run_copy_row (P := P) w T T o.type e p 1 7 7 ⟨p, 0, none⟩ 7 8 (ar .u32 [a, b, c, d, e', f, g, h] ++ tl).toArray T' cs ht hs hg rfl hcs (by simp [cs, ar]) (ar_one _ _)
  refine Does.of (v := goInt cs.length) (w' := w.setRow p _) ?_ ⟨rfl, H.chg (w' := w.setRow p _) hr rfl rfl rfl (fun b' _ hn => setRow_other w p b' _ (fun e => hn e)) (Pt p T' (ar .u32 [a, a, b, c, d, e', f, g] ++ tl)) (fun b' hb' => .inl hb') (setRow_heap w p _ _ T' _ hg)⟩
  simp only [execOp, hop, resolve, invoke, builtin, Sem.run_bind, Sem.run_pure, Result.andThen_ok, List.map_toArray, List.map_cons, List.map_nil, hx, hy, hrun]
  rfl
theorem x_ixA {xs : List Int} {X : Int} (hop : o.op = .index T x y) (ht : P.underlying T = some (.array n e)) (hA : ∀ w, (isAgg e).run P w = .ok false w) (hs : ∀ w, (sizeOf e).run P w = .ok 1 w) (hx : ρ x = .agg (ar .u32 xs).toArray) (hy : ρ y = .int k X) {j : Nat} (hX : X = (j : Int)) (hj : j < n) (hl : xs.length = n) :
    (execOp ρ o).run P w = .ok (.value (.int .u32 (xs.getD j 0))) w := by
  subst hX
  have hg := ar_at (k := .u32) (xs := xs) (tl := []) (i := j) (by omega)
  rw [List.append_nil] at hg
  simp [execOp, hop, Instr.index, asIntOf, asAgg, part, hx, hy, run_underlying ht, hA, hs, hj, hg]
end
/-! Big-endian words by shifts -/
theorem or24 {a b : Int} (ha : 0 ≤ a ∧ a < 256) (hb : 0 ≤ b ∧ b < 256) : bits .or .u32 (a * 16777216) (b * 65536) = (a * 256 + b) * 65536 := by
  have h := or_sum (a := a) (b := b * 65536) (k := 24) (by decide) ⟨ha.1, by show a * 16777216 < _; omega⟩ ⟨by omega, by show b * 65536 < 16777216; omega⟩
  have e : a * 2 ^ 24 = a * 16777216 := rfl
  rw [e] at h; rw [h]; omega
theorem or16 {a b : Int} (ha : 0 ≤ a ∧ a < 65536) (hb : 0 ≤ b ∧ b < 256) : bits .or .u32 (a * 65536) (b * 256) = (a * 256 + b) * 256 := by
  have h := or_sum (a := a) (b := b * 256) (k := 16) (by decide) ⟨ha.1, by show a * 65536 < _; omega⟩ ⟨by omega, by show b * 256 < 65536; omega⟩
  have e : a * 2 ^ 16 = a * 65536 := rfl
  rw [e] at h; rw [h]; omega
theorem or8 {a b : Int} (ha : 0 ≤ a ∧ a < 16777216) (hb : 0 ≤ b ∧ b < 256) : bits .or .u32 (a * 256) b = a * 256 + b := by
  have h := or_sum (a := a) (b := b) (k := 8) (by decide) ⟨ha.1, by show a * 256 < _; omega⟩ ⟨hb.1, by show b < 256; omega⟩
  exact h
theorem be4_four (l : List Int) (j : Nat) : be4 l j 4 = ((l.getD j 0 * 256 + l.getD (j + 1) 0) * 256 + l.getD (j + 2) 0) * 256 + l.getD (j + 3) 0 := by
  simp only [be4]; rw [Int.zero_mul, Int.zero_add]; rfl
/-! The array of words, filled from the left -/
def wf (l : List Int) (i : Nat) : List Int := wds l 0 i ++ List.replicate (64 - i) 0
theorem wf_len (l : List Int) {i : Nat} (h : i ≤ 64) : (wf l i).length = 64 := by unfold wf; rw [List.length_append, wds_len, List.length_replicate]; omega
theorem wf_get (l : List Int) {i j : Nat} (h : j < i) : (wf l i).getD j 0 = (wds l 0 i).getD j 0 := by
  unfold wf; rw [List.getD_eq_getElem?_getD, List.getElem?_append_left (by rw [wds_len]; exact h), ← List.getD_eq_getElem?_getD]
theorem wf_set (l : List Int) {i : Nat} {v : Int} (h : i < 64) (hv : v = if i < 16 then be4 l (0 + 4 * i) 4 else nw (wds l 0 i) i) : (wf l i).set i v = wf l (i + 1) := by
  unfold wf
  rw [List.set_append_right _ _ (by rw [wds_len]; exact Nat.le_refl _), wds_len, Nat.sub_self, show 64 - i = (64 - (i + 1)) + 1 by omega, List.replicate_succ, List.set_cons_zero, wds, ← hv, List.append_assoc]
  rfl
theorem wf_all (l : List Int) : wf l 64 = wds l 0 64 := by unfold wf; rw [Nat.sub_self, List.replicate_zero, List.append_nil]
/-! The words of the state, summed from the left -/
def pls (xs : List Int) (v : St8) (i : Nat) : List Int := (plus xs v).take i ++ xs.drop i
theorem pls_len {xs : List Int} (v : St8) (h : xs.length = 8) (i : Nat) : i ≤ 8 → (pls xs v i).length = 8 := fun hi => by
  have : (plus xs v).length = 8 := rfl
  unfold pls; rw [List.length_append, List.length_take, List.length_drop]; omega
theorem pls_get {xs : List Int} (v : St8) (h : xs.length = 8) {i : Nat} (hi : i < 8) : (pls xs v i).getD i 0 = xs.getD i 0 := by
  have hp : (plus xs v).length = 8 := rfl
  unfold pls
  rw [List.getD_eq_getElem?_getD, List.getElem?_append_right (by rw [List.length_take]; omega), List.length_take, Nat.min_eq_left (by omega), Nat.sub_self, List.getElem?_drop, Nat.add_zero, ← List.getD_eq_getElem?_getD]
theorem plus_at (xs : List Int) (v : St8) {i : Nat} (hi : i < 8) : (plus xs v).getD i 0 = (xs.getD i 0 + (un8 v).getD i 0) % 4294967296 := by
  match i, hi with
  | 0, _ => rfl
  | 1, _ => rfl
  | 2, _ => rfl
  | 3, _ => rfl
  | 4, _ => rfl
  | 5, _ => rfl
  | 6, _ => rfl
  | 7, _ => rfl
theorem pls_set {xs : List Int} (v : St8) (h : xs.length = 8) {i : Nat} {z : Int} (hi : i < 8) (hz : z = ((pls xs v i).getD i 0 + (un8 v).getD i 0) % 4294967296) : (pls xs v i).set i z = pls xs v (i + 1) := by
  have hp : (plus xs v).length = 8 := rfl
  rw [pls_get v h hi, ← plus_at xs v hi] at hz
  unfold pls
  rw [List.set_append_right _ _ (by rw [List.length_take]; omega), List.length_take, Nat.min_eq_left (by omega), Nat.sub_self, drop_getD 0 (show i < xs.length by omega), List.set_cons_zero, take_getD 0 (show i < (plus xs v).length by omega), hz, List.append_assoc]
  rfl
theorem pls_all {xs : List Int} (v : St8) (h : xs.length = 8) : pls xs v 8 = plus xs v := by
  unfold pls; rw [List.drop_of_length_le (by omega), List.append_nil]; rfl
theorem un8_of {xs : List Int} (h : xs.length = 8) : xs = un8 (ofL xs) := by
  match xs, h with
  | [a, b, c, d, e, f, g, i], _ => rfl
theorem shf3 (x : Int) : shf x 3 = x / 8 := by simp only [shf]; omega
theorem shf10 (x : Int) : shf x 10 = x / 1024 := by simp only [shf]; omega
theorem cpl32 {e : Int} (h : W32 e) : bits .xor .u32 (if IntKind.u32.signed then -1 else IntKind.u32.max) e = 4294967295 - e := by
  show bits .xor .u32 4294967295 e = _
  rw [bits_nn]
  show ((BitVec.ofInt 32 4294967295 ^^^ BitVec.ofInt 32 e).toNat : Int) = _
  rw [show BitVec.ofInt 32 4294967295 = BitVec.allOnes 32 by decide, BitVec.allOnes_xor, ← bv_not h, BitVec.toNat_ofInt]
  unfold W32 at h; omega
end Go.Proofs.YtiehijephkagbaaDoor.Sha
