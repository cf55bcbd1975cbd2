/- More steps: strings and bytes, fields, numbers; words for the printed walks. -/
import Derived.Test.YtiehijephkagbaaDoorZShaPartsRo
namespace Go.Proofs.YtiehijephkagbaaDoor.Sl
open Go.RowKit
set_option linter.unusedVariables false
set_option linter.unusedSimpArgs false
/-! Strings and their bytes -/
def bs (xs : List Int) : ByteArray := ⟨(xs.map fun x => UInt8.ofNat x.toNat).toArray⟩
def ss (s : ByteArray) : List Int := s.data.toList.map fun b => (b.toNat : Int)
def Bs (xs : List Int) : Prop := ∀ x ∈ xs, 0 ≤ x ∧ x < 256
theorem Bs.nil : Bs [] := fun _ h => (List.not_mem_nil h).elim
theorem Bs.append {xs ys : List Int} (h : Bs xs) (h' : Bs ys) : Bs (xs ++ ys) := fun x hx => (List.mem_append.1 hx).elim (h x) (h' x)
theorem Bs.one {x : Int} (h : 0 ≤ x ∧ x < 256) : Bs [x] := fun y hy => by rw [List.mem_singleton.1 hy]; exact h
theorem Bs.take {xs : List Int} (h : Bs xs) (n : Nat) : Bs (xs.take n) := fun x hx => h x (List.mem_of_mem_take hx)
theorem Bs.drop {xs : List Int} (h : Bs xs) (n : Nat) : Bs (xs.drop n) := fun x hx => h x (List.mem_of_mem_drop hx)
theorem Bs.left {xs ys : List Int} (h : Bs (xs ++ ys)) : Bs xs := fun x hx => h x (List.mem_append_left _ hx)
theorem Bs.ss (s : ByteArray) : Bs (ss s) := fun x hx => by
  obtain ⟨b, _, rfl⟩ := List.mem_map.1 hx
  have := b.toNat_lt
  exact ⟨Int.natCast_nonneg _, by omega⟩
theorem Bs.getD {xs : List Int} (h : Bs xs) (i : Nat) : 0 ≤ xs.getD i 0 ∧ xs.getD i 0 < 256 := by
  rw [List.getD_eq_getElem?_getD]
  cases hi : xs[i]? with
  | none => simp
  | some x => exact h x (List.mem_of_getElem? hi)
section
variable {P : Program} {ρ : Operand → Value} {o : Oper} {w : World} {fm : Fm} {rs : List Res} {x y z : Operand} {T T' U e : TypeId} {k : IntKind} {X Y : Int} {v u : Value} {α : Type} {t : Fl α} {f : Hp} {xs ys : List α} {A : Addr} {n i j : Nat} {p : Nat} {cells : List Value} {s : ByteArray}
theorem Holds.ptCells (H : Holds w fm rs) (hi : rs[i]? = some (Pt p T cells)) (off : Nat) {cs : List Value} (hc : (cells.drop off).take cs.length = cs) : ∀ j u, cs[j]? = some u → w.cell? ((⟨p, off, none⟩ : Addr).add j) = some u := fun j u hu => by
  rw [Addr.add_lit]
  refine H.ptCell hi ?_
  rw [← hc, List.getElem?_take] at hu
  split at hu
  · rwa [List.getElem?_drop] at hu
  · cases hu
end
section
variable {ρ : Operand → Value} {x1 x2 x3 x4 x5 x6 : Operand} {u1 u2 u3 u4 u5 u6 : Value}
theorem map0 : (#[] : Array Operand).map ρ = #[] := by simp
theorem map1 (h1 : ρ x1 = u1) : (#[x1] : Array Operand).map ρ = #[u1] := by simp [h1]
theorem map2 (h1 : ρ x1 = u1) (h2 : ρ x2 = u2) : (#[x1, x2] : Array Operand).map ρ = #[u1, u2] := by simp [h1, h2]
theorem map3 (h1 : ρ x1 = u1) (h2 : ρ x2 = u2) (h3 : ρ x3 = u3) : (#[x1, x2, x3] : Array Operand).map ρ = #[u1, u2, u3] := by simp [h1, h2, h3]
end
theorem on0 : ∀ u ∈ ([] : List Value), u.oneCell' = true := fun _ h => (List.not_mem_nil h).elim
theorem oc {x : Value} {l : List Value} (h : x.oneCell' = true) (hs : ∀ u ∈ l, u.oneCell' = true) : ∀ u ∈ x :: l, u.oneCell' = true := fun u hu => (List.mem_cons.1 hu).elim (fun e => e ▸ h) (hs u)
theorem ieq {k : IntKind} {X Y : Int} (h : X = Y) : Value.int k X = .int k Y := by rw [h]
theorem beq {b c : Bool} (h : b = c) : Value.bool b = .bool c := by rw [h]
theorem rem_nn {X Y : Int} (h : 0 ≤ X) : X.tmod Y = X % Y := Int.tmod_eq_emod_of_nonneg h
theorem tdiv_nn {X Y : Int} (h : 0 ≤ X) : X.tdiv Y = X / Y := Int.tdiv_eq_ediv_of_nonneg h
theorem div_le {X Y : Int} (h : 0 ≤ X) (hy : 0 < Y) : 0 ≤ X / Y ∧ X / Y ≤ X := ⟨Int.ediv_nonneg h (by omega), Int.ediv_le_self _ h⟩
theorem quo_i64 {X Y : Int} (h : 0 ≤ X) (hy : 0 < Y) (hx : X ≤ 9223372036854775807) : IntKind.i64.wrap (X.tdiv Y) = X / Y := by
  rw [tdiv_nn h]; have := div_le h hy; exact wr_i64 ⟨by omega, by omega⟩
theorem quo_u32 {X Y : Int} (h : 0 ≤ X) (hy : 0 < Y) (hx : X ≤ 4294967295) : IntKind.u32.wrap (X.tdiv Y) = X / Y := by
  rw [tdiv_nn h]; have := div_le h hy; exact wr_u32 ⟨by omega, by omega⟩
theorem quo_u64 {X Y : Int} (h : 0 ≤ X) (hy : 0 < Y) (hx : X ≤ 18446744073709551615) : IntKind.u64.wrap (X.tdiv Y) = X / Y := by
  rw [tdiv_nn h]; have := div_le h hy; exact wr_u64 ⟨by omega, by omega⟩
theorem bn_and_u64 {a b : Nat} (ha : a ≤ 18446744073709551615) (hb : b ≤ 18446744073709551615) : bits .and .u64 (a : Int) (b : Int) = ((a &&& b : Nat) : Int) := by
  have hx : a &&& b < 2 ^ 64 := Nat.and_lt_two_pow _ (by omega)
  show IntKind.u64.wrap ((BitVec.ofInt 64 (a : Int) &&& BitVec.ofInt 64 (b : Int)).toNat : Int) = _
  rw [BitVec.toNat_and, BitVec.ofInt_natCast, BitVec.ofInt_natCast, BitVec.toNat_ofNat, BitVec.toNat_ofNat, Nat.mod_eq_of_lt (by omega), Nat.mod_eq_of_lt (by omega)]
  exact wr_u64 ⟨by omega, by omega⟩
theorem and_u64 {X : Int} {M m : Nat} (h : 0 ≤ X ∧ X ≤ 18446744073709551615) (hM : M + 1 = 2 ^ m) (hk : M ≤ 18446744073709551615) : bits .and .u64 X (M : Int) = X % ((M + 1 : Nat) : Int) := by
  obtain ⟨a, rfl⟩ := Int.eq_ofNat_of_zero_le h.1
  rw [bn_and_u64 (by omega) hk, hM, show M = 2 ^ m - 1 by omega, Nat.and_two_pow_sub_one_eq_mod]; rfl
end Go.Proofs.YtiehijephkagbaaDoor.Sl
