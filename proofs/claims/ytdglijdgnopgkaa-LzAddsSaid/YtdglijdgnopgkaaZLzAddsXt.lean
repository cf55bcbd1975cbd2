/- More steps: strings and bytes, fields, numbers; words for the printed walks. -/
import Derived.Test.YtdglijdgnopgkaaZLzAddsRo
namespace Go.Proofs.Ytdglijdgnopgkaa.Sl
open Go.RowKit
set_option linter.unusedVariables false
set_option linter.unusedSimpArgs false
/-! Strings and their bytes -/
def bs (xs : List Int) : ByteArray := ⟨(xs.map fun x => UInt8.ofNat x.toNat).toArray⟩
def ss (s : ByteArray) : List Int := s.data.toList.map fun b => (b.toNat : Int)
def Bs (xs : List Int) : Prop := ∀ x ∈ xs, 0 ≤ x ∧ x < 256
theorem Bs.nil : Bs [] := fun _ h => (List.not_mem_nil h).elim
theorem Bs.append {xs ys : List Int} (h : Bs xs) (h' : Bs ys) : Bs (xs ++ ys) := fun x hx => (List.mem_append.1 hx).elim (h x) (h' x)
theorem Bs.one {x : Int} (h : 0 ≤ x ∧ x < 256) : Bs [x] := fun y hy => by rw [List.mem_singleton.1 hy]; exact h
theorem Bs.take {xs : List Int} (h : Bs xs) (n : Nat) : Bs (xs.take n) := fun x hx => h x (List.mem_of_mem_take hx)
theorem Bs.drop {xs : List Int} (h : Bs xs) (n : Nat) : Bs (xs.drop n) := fun x hx => h x (List.mem_of_mem_drop hx)
theorem Bs.ss (s : ByteArray) : Bs (ss s) := fun x hx => by
  obtain ⟨b, _, rfl⟩ := List.mem_map.1 hx
  have := b.toNat_lt
  exact ⟨Int.natCast_nonneg _, by omega⟩
theorem Bs.getD {xs : List Int} (h : Bs xs) (i : Nat) : 0 ≤ xs.getD i 0 ∧ xs.getD i 0 < 256 := by
  rw [List.getD_eq_getElem?_getD]
  cases hi : xs[i]? with
  | none => simp
  | some x => exact h x (List.mem_of_getElem? hi)
theorem size_bs (xs : List Int) : (bs xs).size = xs.length := by unfold bs ByteArray.size; simp
section
variable {P : Program} {ρ : Operand → Value} {o : Oper} {w : World} {fm : Fm} {rs : List Res} {x y z : Operand} {T T' U e : TypeId} {k : IntKind} {X Y : Int} {v u : Value} {α : Type} {t : Fl α} {f : Hp} {xs ys : List α} {A : Addr} {n i j : Nat} {p : Nat} {cells : List Value} {s : ByteArray}
theorem Holds.ptCells (H : Holds w fm rs) (hi : rs[i]? = some (Pt p T cells)) (off : Nat) {cs : List Value} (hc : (cells.drop off).take cs.length = cs) : ∀ j u, cs[j]? = some u → w.cell? ((⟨p, off, none⟩ : Addr).add j) = some u := fun j u hu => by
  rw [Addr.add_lit]
  refine H.ptCell hi ?_
  rw [← hc, List.getElem?_take] at hu
  split at hu
  · rwa [List.getElem?_drop] at hu
  · cases hu
theorem foldl_push (ns : List Int) : ∀ r : ByteArray, ns.foldl (fun r n => r.push (UInt8.ofNat n.toNat)) r = r ++ bs ns := by
  induction ns with
  | nil => intro r; apply Go.WideShapes.bytes_inj; simp [bs, ByteArray.data_append]
  | cons n ns ih =>
    intro r
    rw [List.foldl_cons, ih]
    apply Go.WideShapes.bytes_inj
    simp [bs, ByteArray.data_append, ByteArray.data_push]
theorem row_tI (k : IntKind) (xs : List Int) : (tI k).row xs = xs.map (Value.int k) := by
  induction xs with
  | nil => rfl
  | cons x xs ih => rw [Fl.row_cons, ih]; rfl
theorem x_bs {xs : List Int} (h : Rd (tI .u8) (hp w) v xs) (hop : o.op = .convert T U x) (ht : P.underlying T = some (.slice e)) (he : P.underlying e = some (.int .u8)) (hu : P.underlying U = some .string) (hx : ρ x = v) :
    (execOp ρ o).run P w = .ok (.value (.string (bs xs))) w := by
  obtain ⟨A, c, rfl, hc, hm, h3⟩ := h
  have hrun : (Conv.bytesToString (.slice A xs.length c)).run P w = .ok (.string (bs xs)) w := by
    cases A with
    | none =>
      have : xs = [] := by
        cases xs with
        | nil => rfl
        | cons y ys => obtain ⟨a, ea, _⟩ := h3 0 (.int .u8 y) rfl; cases ea
      subst this
      rfl
    | some a =>
      have hl := run_loadCells_list (P := P) w a ((tI .u8).row xs) (fun j u hu => by obtain ⟨a', ea, ha⟩ := h3 j u hu; obtain rfl := Option.some.inj ea; exact ha)
      rw [Fl.row_len, show (tI .u8).sz = 1 from rfl, Nat.mul_one, row_tI] at hl
      rw [run_bytesToString w a xs.length c xs hl, foldl_push]
      rw [show ByteArray.empty ++ bs xs = bs xs from by apply Go.WideShapes.bytes_inj; simp [ByteArray.data_append]]
  have hcv : (convert T U (.slice A xs.length c)).run P w = .ok (.string (bs xs)) w := by
    cases A <;> simp [convert, run_underlying ht, run_underlying hu, run_underlying he] <;> exact hrun
  simp [execOp, hop, hx, hcv]
end
section
variable {ρ : Operand → Value} {x1 x2 x3 x4 x5 x6 : Operand} {u1 u2 u3 u4 u5 u6 : Value}
theorem map0 : (#[] : Array Operand).map ρ = #[] := by simp
theorem map1 (h1 : ρ x1 = u1) : (#[x1] : Array Operand).map ρ = #[u1] := by simp [h1]
theorem map2 (h1 : ρ x1 = u1) (h2 : ρ x2 = u2) : (#[x1, x2] : Array Operand).map ρ = #[u1, u2] := by simp [h1, h2]
theorem map3 (h1 : ρ x1 = u1) (h2 : ρ x2 = u2) (h3 : ρ x3 = u3) : (#[x1, x2, x3] : Array Operand).map ρ = #[u1, u2, u3] := by simp [h1, h2, h3]
end
theorem on0 : ∀ u ∈ ([] : List Value), u.oneCell' = true := fun _ h => (List.not_mem_nil h).elim
theorem oc {x : Value} {l : List Value} (h : x.oneCell' = true) (hs : ∀ u ∈ l, u.oneCell' = true) : ∀ u ∈ x :: l, u.oneCell' = true := fun u hu => (List.mem_cons.1 hu).elim (fun e => e ▸ h) (hs u)
theorem ieq {k : IntKind} {X Y : Int} (h : X = Y) : Value.int k X = .int k Y := by rw [h]
theorem beq {b c : Bool} (h : b = c) : Value.bool b = .bool c := by rw [h]
end Go.Proofs.Ytdglijdgnopgkaa.Sl
