/- The small words that the laws of this seat share: strings of numbers, bounds, wraps, rounds; no program in it. -/
import Derived.Test.YtdglijdgnopgkaaWWords
import Derived.Test.YtdglijdgnopgkaaWMore
import Derived.RowKit
import Derived.Laws.BytesArg
namespace Go.Proofs.Ytdglijdgnopgkaa.U
open Go.RowKit Go.Proofs.YtdglijdgnopgkaaW.PrintWords

theorem wf_u64 {a : Int} : (Lit.int .u64 a).wf = true ↔ 0 ≤ a ∧ a < 18446744073709551616 := by
  simp only [Lit.wf, IntKind.min, IntKind.max, IntKind.signed, IntKind.bits, Bool.and_eq_true, Bool.false_eq_true, if_false, decide_eq_true_eq]
  omega
theorem wf_u8 {a : Int} : (Lit.int .u8 a).wf = true ↔ 0 ≤ a ∧ a < 256 := by
  simp only [Lit.wf, IntKind.min, IntKind.max, IntKind.signed, IntKind.bits, Bool.and_eq_true, Bool.false_eq_true, if_false, decide_eq_true_eq]
  omega
theorem wf_u16 {a : Int} : (Lit.int .u16 a).wf = true ↔ 0 ≤ a ∧ a < 65536 := by
  simp only [Lit.wf, IntKind.min, IntKind.max, IntKind.signed, IntKind.bits, Bool.and_eq_true, Bool.false_eq_true, if_false, decide_eq_true_eq]
  omega
theorem wf_u32 {a : Int} : (Lit.int .u32 a).wf = true ↔ 0 ≤ a ∧ a < 4294967296 := by
  simp only [Lit.wf, IntKind.min, IntKind.max, IntKind.signed, IntKind.bits, Bool.and_eq_true, Bool.false_eq_true, if_false, decide_eq_true_eq]
  omega
theorem wf_i64 {a : Int} : (Lit.int .i64 a).wf = true ↔ -9223372036854775808 ≤ a ∧ a < 9223372036854775808 := by
  simp only [Lit.wf, IntKind.min, IntKind.max, IntKind.signed, IntKind.bits, Bool.and_eq_true, decide_eq_true_eq, if_true]
  omega
theorem w64 {n : Int} (h : -9223372036854775808 ≤ n) (h' : n < 9223372036854775808) : wrap64 n = n := by
  unfold wrap64; omega
theorem u64w (n : Int) : IntKind.u64.wrap n = n % 18446744073709551616 := by
  simp only [IntKind.wrap, IntKind.signed, IntKind.bits, Bool.false_and, Bool.false_eq_true, if_false]
  rfl

theorem emod_cast {a b j : Nat} (h : a % b = j) : (a : Int) % (b : Int) = (j : Int) := by subst h; simp
theorem tdivp {x d : Int} (h : 0 ≤ x) : Int.tdiv x d = x / d := Int.tdiv_eq_ediv_of_nonneg h
theorem tmodp {x d : Int} (h : 0 ≤ x) : Int.tmod x d = x % d := Int.tmod_eq_emod_of_nonneg h
theorem tdivn {x d : Int} (h : x ≤ 0) : Int.tdiv x d = -((-x) / d) := by
  have e : x = -(-x) := by omega
  rw [e, Int.neg_tdiv, Int.tdiv_eq_ediv_of_nonneg (by omega), ← e]
theorem tmodn {x d : Int} (h : x ≤ 0) : Int.tmod x d = -((-x) % d) := by
  have e : x = -(-x) := by omega
  rw [e, Int.neg_tmod, Int.tmod_eq_emod_of_nonneg (by omega), ← e]

/-! Strings of numbers -/
/-- All are bytes. -/
def Bs (l : List Int) : Prop := ∀ x ∈ l, 0 ≤ x ∧ x < 256
theorem Bs.nil : Bs [] := fun _ h => by cases h
theorem Bs.cons {x : Int} {l : List Int} (h0 : 0 ≤ x) (h1 : x < 256) (h : Bs l) : Bs (x :: l) := by
  intro y hy
  rcases List.mem_cons.1 hy with rfl | hy
  · exact ⟨h0, h1⟩
  · exact h y hy
theorem Bs.append {a b : List Int} (ha : Bs a) (hb : Bs b) : Bs (a ++ b) := fun x hx => (List.mem_append.1 hx).elim (ha x) (hb x)
theorem Bs.take {a : List Int} (ha : Bs a) (n : Nat) : Bs (a.take n) := fun x hx => ha x (List.mem_of_mem_take hx)
theorem Bs.drop {a : List Int} (ha : Bs a) (n : Nat) : Bs (a.drop n) := fun x hx => ha x (List.mem_of_mem_drop hx)
theorem str_list (l : List Int) : (strOfNums l).toList = l.map (fun n => UInt8.ofNat n.toNat) := by
  rw [ByteArray.toList_eq]; simp [strOfNums]
theorem byte_inj {x y : Int} (hx : 0 ≤ x ∧ x < 256) (hy : 0 ≤ y ∧ y < 256) (h : UInt8.ofNat x.toNat = UInt8.ofNat y.toNat) : x = y := by
  have := congrArg UInt8.toNat h
  simp only [UInt8.toNat_ofNat'] at this
  omega
theorem map_inj : ∀ {a b : List Int}, Bs a → Bs b → a.map (fun n => UInt8.ofNat n.toNat) = b.map (fun n => UInt8.ofNat n.toNat) → a = b
  | [], [], _, _, _ => rfl
  | [], _ :: _, _, _, h => by simp at h
  | _ :: _, [], _, _, h => by simp at h
  | x :: a, y :: b, ha, hb, h => by
    simp only [List.map_cons, List.cons.injEq] at h
    rw [byte_inj (ha x (by simp)) (hb y (by simp)) h.1, map_inj (fun z hz => ha z (by simp [hz])) (fun z hz => hb z (by simp [hz])) h.2]
theorem str_inj {a b : List Int} (ha : Bs a) (hb : Bs b) (h : (strOfNums a).toList = (strOfNums b).toList) : a = b := by
  rw [str_list, str_list] at h
  exact map_inj ha hb h
theorem str_size (l : List Int) : (strOfNums l).size = l.length := by
  simp [strOfNums, ByteArray.size]
theorem str_append (a b : List Int) : strOfNums a ++ strOfNums b = strOfNums (a ++ b) := by
  apply ByteArray.ext
  simp [strOfNums, ByteArray.data_append]
theorem str_nil : (⟨#[]⟩ : ByteArray) = strOfNums [] := rfl

/-! Rounds -/
theorem Ev.to {α : Type} {g : Nat → Option α} {r r' : α} (h : Ev g r) (e : r = r') : Ev g r' := e ▸ h
theorem Ev.some' {α : Type} {r r' : α} (e : r = r') : Ev (fun _ => some r) r' := e ▸ Ev.now r
theorem Ev.pos {α : Type} {f g : Nat → Option α} {r : α} {c : Prop} [Decidable c] (hc : c) (h : Ev f r) : Ev (fun n => if c then f n else g n) r := Ev.congr (fun _ => if_pos hc) h
theorem Ev.neg {α : Type} {f g : Nat → Option α} {r : α} {c : Prop} [Decidable c] (hc : ¬ c) (h : Ev g r) : Ev (fun n => if c then f n else g n) r := Ev.congr (fun _ => if_neg hc) h
theorem rd_nat (l : List Int) (i : Nat) (h : i < l.length) : rd l (i : Int) = l[i] := by
  simp [rd, List.getD_eq_getElem?_getD, List.getElem?_eq_getElem h]
theorem take_snoc {α : Type} (l : List α) (i : Nat) (h : i < l.length) : l.take (i + 1) = l.take i ++ [l[i]] := by
  rw [List.take_succ_eq_append_getElem h]
end Go.Proofs.Ytdglijdgnopgkaa.U
