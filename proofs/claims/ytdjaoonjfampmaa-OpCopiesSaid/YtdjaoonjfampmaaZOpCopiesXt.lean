/- More steps: strings and bytes, fields, numbers; words for the printed walks. -/
import Derived.Test.YtdjaoonjfampmaaZOpCopiesRo
namespace Go.Proofs.Ytdjaoonjfampmaa.Sl
open Go.RowKit
set_option linter.unusedVariables false
set_option linter.unusedSimpArgs false
/-! Strings and their bytes -/
def bs (xs : List Int) : ByteArray := ⟨(xs.map fun x => UInt8.ofNat x.toNat).toArray⟩
def ss (s : ByteArray) : List Int := s.data.toList.map fun b => (b.toNat : Int)
def Bs (xs : List Int) : Prop := ∀ x ∈ xs, 0 ≤ x ∧ x < 256
theorem Bs.nil : Bs [] := fun _ h => (List.not_mem_nil h).elim
theorem Bs.append {xs ys : List Int} (h : Bs xs) (h' : Bs ys) : Bs (xs ++ ys) := fun x hx => (List.mem_append.1 hx).elim (h x) (h' x)
theorem Bs.one {x : Int} (h : 0 ≤ x ∧ x < 256) : Bs [x] := fun y hy => by rw [List.mem_singleton.1 hy]; exact h
theorem Bs.take {xs : List Int} (h : Bs xs) (n : Nat) : Bs (xs.take n) := fun x hx => h x (List.mem_of_mem_take hx)
theorem Bs.drop {xs : List Int} (h : Bs xs) (n : Nat) : Bs (xs.drop n) := fun x hx => h x (List.mem_of_mem_drop hx)
theorem Bs.right {xs ys : List Int} (h : Bs (xs ++ ys)) : Bs ys := fun x hx => h x (List.mem_append_right _ hx)
theorem Bs.ss (s : ByteArray) : Bs (ss s) := fun x hx => by
  obtain ⟨b, _, rfl⟩ := List.mem_map.1 hx
  have := b.toNat_lt
  exact ⟨Int.natCast_nonneg _, by omega⟩
theorem Bs.getD {xs : List Int} (h : Bs xs) (i : Nat) : 0 ≤ xs.getD i 0 ∧ xs.getD i 0 < 256 := by
  rw [List.getD_eq_getElem?_getD]
  cases hi : xs[i]? with
  | none => simp
  | some x => exact h x (List.mem_of_getElem? hi)
theorem size_bs (xs : List Int) : (bs xs).size = xs.length := by unfold bs ByteArray.size; simp
theorem size_ss (s : ByteArray) : (ss s).length = s.size := by unfold ss; rw [List.length_map, Array.length_toList]; rfl
theorem bs_ss (s : ByteArray) : bs (ss s) = s := by
  apply Go.WideShapes.bytes_inj
  simp only [bs, ss, List.map_map]
  conv => rhs; rw [← List.map_id s.data.toList]
  exact List.map_congr_left fun b _ => by simp
theorem ss_inj {s r : ByteArray} : ss s = ss r ↔ s = r := ⟨fun e => by rw [← bs_ss s, e, bs_ss], fun e => by rw [e]⟩
section
variable {P : Program} {ρ : Operand → Value} {o : Oper} {w : World} {fm : Fm} {rs : List Res} {x y z : Operand} {T T' U e : TypeId} {k : IntKind} {X Y : Int} {v u : Value} {α : Type} {t : Fl α} {f : Hp} {xs ys : List α} {A : Addr} {n i j : Nat} {p : Nat} {cells : List Value} {s : ByteArray}
theorem Holds.ptCells (H : Holds w fm rs) (hi : rs[i]? = some (Pt p T cells)) (off : Nat) {cs : List Value} (hc : (cells.drop off).take cs.length = cs) : ∀ j u, cs[j]? = some u → w.cell? ((⟨p, off, none⟩ : Addr).add j) = some u := fun j u hu => by
  rw [Addr.add_lit]
  refine H.ptCell hi ?_
  rw [← hc, List.getElem?_take] at hu
  split at hu
  · rwa [List.getElem?_drop] at hu
  · cases hu
theorem foldl_push (ns : List Int) : ∀ r : ByteArray, ns.foldl (fun r n => r.push (UInt8.ofNat n.toNat)) r = r ++ bs ns := by
  induction ns with
  | nil => intro r; apply Go.WideShapes.bytes_inj; simp [bs, ByteArray.data_append]
  | cons n ns ih =>
    intro r
    rw [List.foldl_cons, ih]
    apply Go.WideShapes.bytes_inj
    simp [bs, ByteArray.data_append, ByteArray.data_push]
theorem row_tI (k : IntKind) (xs : List Int) : (tI k).row xs = xs.map (Value.int k) := by
  induction xs with
  | nil => rfl
  | cons x xs ih => rw [Fl.row_cons, ih]; rfl
theorem x_bs {xs : List Int} (h : Rd (tI .u8) (hp w) v xs) (hop : o.op = .convert T U x) (ht : P.underlying T = some (.slice e)) (he : P.underlying e = some (.int .u8)) (hu : P.underlying U = some .string) (hx : ρ x = v) :
    (execOp ρ o).run P w = .ok (.value (.string (bs xs))) w := by
  obtain ⟨A, c, rfl, hc, hm, h3⟩ := h
  have hrun : (Conv.bytesToString (.slice A xs.length c)).run P w = .ok (.string (bs xs)) w := by
    cases A with
    | none =>
      have : xs = [] := by
        cases xs with
        | nil => rfl
        | cons y ys => obtain ⟨a, ea, _⟩ := h3 0 (.int .u8 y) rfl; cases ea
      subst this
      rfl
    | some a =>
      have hl := run_loadCells_list (P := P) w a ((tI .u8).row xs) (fun j u hu => by obtain ⟨a', ea, ha⟩ := h3 j u hu; obtain rfl := Option.some.inj ea; exact ha)
      rw [Fl.row_len, show (tI .u8).sz = 1 from rfl, Nat.mul_one, row_tI] at hl
      rw [run_bytesToString w a xs.length c xs hl, foldl_push]
      rw [show ByteArray.empty ++ bs xs = bs xs from by apply Go.WideShapes.bytes_inj; simp [ByteArray.data_append]]
  have hcv : (convert T U (.slice A xs.length c)).run P w = .ok (.string (bs xs)) w := by
    cases A <;> simp [convert, run_underlying ht, run_underlying hu, run_underlying he] <;> exact hrun
  simp [execOp, hop, hx, hcv]
theorem d_sb (H : Holds w fm rs) (hop : o.op = .convert T U x) (ht : P.underlying T = some .string) (hu : P.underlying U = some (.slice e)) (he : P.underlying e = some (.int .u8)) (hx : ρ x = .string s) (hs : s.size ≤ 140737488355328) :
    Does P ρ o w fun v' w' => Holds w' fm (OwnR (tI .u8) v' (ss s) :: rs) := by
  have hcap : s.size ≤ (Question.appendCap s.size 0 e).cut (w.tape w.drawn (.appendCap s.size 0 e)) ∧ (Question.appendCap s.size 0 e).cut (w.tape w.drawn (.appendCap s.size 0 e)) ≤ maxLen := by
    have hlt := Nat.mod_lt (w.tape w.drawn (.appendCap s.size 0 e)) (show 0 < 2 ^ 63 - s.size by omega)
    simp only [Question.cut, maxLen]; omega
  generalize hce : (Question.appendCap s.size 0 e).cut (w.tape w.drawn (.appendCap s.size 0 e)) = cap at hcap
  let C : Array Value := s.data.map (fun b : UInt8 => Value.int .u8 (b.toNat : Int)) ++ Array.replicate (cap - s.size) (Value.int .u8 0)
  have hCs : C.size = cap := by simp only [C, Array.size_append, Array.size_map, Array.size_replicate]; have : s.data.size = s.size := rfl; omega
  let w2 := (w.alloc (.cells C e)).drew
  have hsh : (w.alloc (.cells C e)).shape? w.heap.size = some (e, cap) := by
    unfold World.shape?
    rw [heap_alloc_new w (.cells C e), ← hCs]
  have hrun : (Conv.stringToBytes e s).run P w = .ok (.slice (some ⟨w.heap.size, 0, none⟩) s.size cap) (w2.freeze ⟨w.heap.size, cap, none⟩ 1) := by
    simp only [C] at hsh
    simp [Conv.stringToBytes, Question.forced, newRow, markStringish, w2, C, hce, go_sem, hsh, freeze, Sem.run]
  have hget : w2.heap[w.heap.size]? = some (.cells C e (0, 0)) := heap_alloc_new w _
  have H2 : Holds w2 fm (OwnR (tI .u8) (.slice (some ⟨w.heap.size, 0, none⟩) s.size cap) (ss s) :: rs) := by
    refine (H.alloc (.cells C e) (OwnR (tI .u8) (.slice (some ⟨w.heap.size, 0, none⟩) s.size cap) (ss s)) (fun b hb => (Option.some.inj hb).symm) (.inr ⟨w.heap.size, 0, cap, C, e, (0, 0), by rw [size_ss], by rw [size_ss]; exact hcap.1, hcap.2, alloc_ok _ _, ?_, ?_⟩)).drew
    · show 0 + cap * 1 ≤ C.size; omega
    · rw [List.drop_zero, size_ss, row_tI]
      show List.take (s.size * 1) C.toList = _
      have hl : (s.data.toList.map (fun b : UInt8 => Value.int .u8 (b.toNat : Int))).length = s.size * 1 := by rw [List.length_map, Array.length_toList, Nat.mul_one]; rfl
      simp only [C, Array.toList_append, Array.toList_map]
      rw [← hl, List.take_left]
      simp [ss]
  have H3 : Holds (w2.freeze ⟨w.heap.size, cap, none⟩ 1) fm (OwnR (tI .u8) (.slice (some ⟨w.heap.size, 0, none⟩) s.size cap) (ss s) :: rs) := by
    have hheap : ∀ b, (w2.freeze ⟨w.heap.size, cap, none⟩ 1).heap[b]? = if w.heap.size = b then some (.cells C e (cap, cap + 1)) else w2.heap[b]? := fun b => by
      simp only [World.freeze, Nat.one_ne_zero, if_false, Array.getElem?_modify]
      split
      · rename_i hb; subst hb; rw [hget]; simp
      · rfl
    have hc := H2.chg (w' := w2.freeze ⟨w.heap.size, cap, none⟩ 1) (i := 0) rfl rfl rfl rfl (fun b _ hn => by rw [hheap, if_neg (fun h => hn (congrArg some h))]) (OwnR (tI .u8) (.slice (some ⟨w.heap.size, 0, none⟩) s.size cap) (ss s)) (fun b hb => .inl hb) ?_
    · exact hc
    · rcases H2.oks _ (mem_get (i := 0) rfl) with ⟨h, _⟩ | ⟨b, off, c, cells, e', fz, hv, h1, h2, h3, h4, h5⟩
      · cases h
      · injection hv with hv1 hv2 hv3
        obtain ⟨rfl, rfl⟩ : w.heap.size = b ∧ 0 = off := by injection hv1 with hv1; injection hv1 with a b; exact ⟨a, b⟩
        have : Obj.cells C e (0, 0) = Obj.cells cells e' fz := Option.some.inj (hget.symm.trans h3)
        injection this with q1 q2 q3
        subst q1
        exact .inr ⟨w.heap.size, 0, c, C, e, (cap, cap + 1), by rw [← hv2, ← hv3], h1, h2, by show (w2.freeze _ 1).heap[_]? = _; rw [hheap, if_pos rfl], h4, h5⟩
  exact Does.of (v := .slice (some ⟨w.heap.size, 0, none⟩) s.size cap) (w' := w2.freeze ⟨w.heap.size, cap, none⟩ 1) (by
    have hcv : (convert T U (.string s)).run P w = .ok (.slice (some ⟨w.heap.size, 0, none⟩) s.size cap) (w2.freeze ⟨w.heap.size, cap, none⟩ 1) := by
      simp [convert, run_underlying ht, run_underlying hu, run_underlying he]; exact hrun
    simp [execOp, hop, hx, hcv]) H3
end
section
variable {ρ : Operand → Value} {x1 x2 x3 x4 x5 x6 : Operand} {u1 u2 u3 u4 u5 u6 : Value}
theorem map0 : (#[] : Array Operand).map ρ = #[] := by simp
theorem map1 (h1 : ρ x1 = u1) : (#[x1] : Array Operand).map ρ = #[u1] := by simp [h1]
theorem map2 (h1 : ρ x1 = u1) (h2 : ρ x2 = u2) : (#[x1, x2] : Array Operand).map ρ = #[u1, u2] := by simp [h1, h2]
end
theorem on0 : ∀ u ∈ ([] : List Value), u.oneCell' = true := fun _ h => (List.not_mem_nil h).elim
theorem oc {x : Value} {l : List Value} (h : x.oneCell' = true) (hs : ∀ u ∈ l, u.oneCell' = true) : ∀ u ∈ x :: l, u.oneCell' = true := fun u hu => (List.mem_cons.1 hu).elim (fun e => e ▸ h) (hs u)
theorem ieq {k : IntKind} {X Y : Int} (h : X = Y) : Value.int k X = .int k Y := by rw [h]
theorem beq {b c : Bool} (h : b = c) : Value.bool b = .bool c := by rw [h]
theorem bn_and_u8 {a b : Nat} (ha : a ≤ 255) (hb : b ≤ 255) : bits .and .u8 (a : Int) (b : Int) = ((a &&& b : Nat) : Int) := by
  have hx : a &&& b < 2 ^ 8 := Nat.and_lt_two_pow _ (by omega)
  show IntKind.u8.wrap ((BitVec.ofInt 8 (a : Int) &&& BitVec.ofInt 8 (b : Int)).toNat : Int) = _
  rw [BitVec.toNat_and, BitVec.ofInt_natCast, BitVec.ofInt_natCast, BitVec.toNat_ofNat, BitVec.toNat_ofNat, Nat.mod_eq_of_lt (by omega), Nat.mod_eq_of_lt (by omega)]
  exact wr_u8 ⟨by omega, by omega⟩
theorem and_u8 {X : Int} {M m : Nat} (h : 0 ≤ X ∧ X ≤ 255) (hM : M + 1 = 2 ^ m) (hk : M ≤ 255) : bits .and .u8 X (M : Int) = X % ((M + 1 : Nat) : Int) := by
  obtain ⟨a, rfl⟩ := Int.eq_ofNat_of_zero_le h.1
  rw [bn_and_u8 (by omega) hk, hM, show M = 2 ^ m - 1 by omega, Nat.and_two_pow_sub_one_eq_mod]; rfl
end Go.Proofs.Ytdjaoonjfampmaa.Sl
