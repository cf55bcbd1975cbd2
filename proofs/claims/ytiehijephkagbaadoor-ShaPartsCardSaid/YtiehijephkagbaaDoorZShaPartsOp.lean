/- Arguments laid open: what can be read as data, as rows. -/
import Derived.Test.YtiehijephkagbaaDoorZShaPartsRg
import Derived.Deep.Slices
import Derived.DataReads
import Derived.ChangeArms
namespace Go.Proofs.YtiehijephkagbaaDoor.Sl
open Go.RowKit Go.ChangeShapes Go.WideShapes Go.Deep
set_option linter.unusedVariables false
set_option linter.unusedSimpArgs false
def Opn {α : Type} (P : Program) (T : TypeId) (t : Fl α) (Ok : Hp → α → Prop) : Prop :=
  ∀ (H : Type) (enc : TypeId × Value → H) (w : World) (base : Nat) (spare : Nat → Bool) (held : Bool) (n : Nat) (cs : List Value) (y : DataW H × List MemPlace), DataW.trod enc P w base spare held n T cs = some y → ∃ x, cs = t.enc x ∧ Ok (hp w) x
theorem opn_int {P : Program} {T : TypeId} {k : IntKind} (ht : P.underlying T = some (.int k)) : Opn P T (tI k) (fun _ x => (Lit.int k x).wf = true) := fun H enc w base sp held n cs y h => by
  obtain ⟨x, hc, _, hw⟩ := DataW.trod_int ht h
  exact ⟨x, hc, hw⟩
theorem wf_u8 {x : Int} (h : (Lit.int .u8 x).wf = true) : 0 ≤ x ∧ x < 256 := by simp [Lit.wf] at h; rw [show IntKind.u8.min = 0 from rfl, show IntKind.u8.max = 255 from rfl] at h; omega
theorem opn_slice {α : Type} {P : Program} {T e : TypeId} {t : Fl α} {Ok : Hp → α → Prop} (ht : P.underlying T = some (.slice e)) (hc : P.cellsOf e = t.sz) (he : Opn P e t Ok) {H : Type} {enc : TypeId × Value → H} {w : World} {base : Nat} {sp : Nat → Bool} {held : Bool} {n : Nat} {v : Value} {y : DataW H × List MemPlace}
    (h : DataW.trod enc P w base sp held n T [v] = some y) : ∃ xs, Rd t (hp w) v xs ∧ ∀ x ∈ xs, Ok (hp w) x := by
  rcases open_slice ht h with ⟨hcs, _⟩ | ⟨a, len, cap, m, n', D, Pl, hcs, _, hl, hm, hmm, _, hi⟩
  · obtain rfl : v = .slice none 0 0 := by simpa using hcs
    exact ⟨[], Rd.nil, fun _ h => (List.not_mem_nil h).elim⟩
  · obtain rfl : v = .slice (some a) len cap := by simpa using hcs
    have hlm : len ≤ m := by rw [hmm]; split <;> omega
    have key : ∀ k, k ≤ len → ∃ xs : List α, xs.length = k ∧ (∀ x ∈ xs, Ok (hp w) x) ∧ ∀ i x, xs[i]? = some x → ∀ j u, (t.enc x)[j]? = some u → (hp w).cell (a.add (i * t.sz + j)) = some u := by
      intro k
      induction k with
      | zero => exact fun _ => ⟨[], rfl, fun _ h => (List.not_mem_nil h).elim, fun i x hx => by simp at hx⟩
      | succ k ih =>
        intro hk
        obtain ⟨xs, hxl, hok, hcell⟩ := ih (by omega)
        obtain ⟨cs', hcs', htr⟩ := hi k (by omega)
        obtain ⟨x, rfl, hx⟩ := he H enc w base sp held n' cs' _ htr
        obtain ⟨_, hlen, hat⟩ := World.cells?_some hcs'
        refine ⟨xs ++ [x], by simp [hxl], fun z hz => ?_, fun i z hz j u hu => ?_⟩
        · rcases List.mem_append.1 hz with hz | hz
          · exact hok z hz
          · rw [List.mem_singleton.1 hz]; exact hx
        · rcases Nat.lt_or_ge i k with h2 | h2
          · rw [List.getElem?_append_left (by omega)] at hz
            exact hcell i z hz j u hu
          · have hik : i = k := by
              have := (List.getElem?_eq_some_iff.1 hz).1
              simp [hxl] at this; omega
            subst hik
            rw [List.getElem?_append_right (by omega), hxl, Nat.sub_self] at hz
            obtain rfl : x = z := by simpa using hz
            have hj := (List.getElem?_eq_some_iff.1 hu).1
            have := hat j (by rw [hc]; rw [t.len] at hj; exact hj)
            rw [hc] at this
            rw [hp_cell, ← Go.Deep.add_add, this]; exact hu
    obtain ⟨xs, hxl, hok, hcell⟩ := key len (Nat.le_refl _)
    subst hxl
    refine ⟨xs, ⟨some a, cap, rfl, hl, hm, fun j u hu => ⟨a, rfl, ?_⟩⟩, hok⟩
    have hj := (List.getElem?_eq_some_iff.1 hu).1
    rw [Fl.row_len] at hj
    have hpos := t.pos
    have hdiv : j / t.sz < xs.length := Nat.div_lt_of_lt_mul (by rw [Nat.mul_comm]; exact hj)
    have hx := getD_get (xs[j / t.sz]) hdiv
    have hjm : j / t.sz * t.sz + j % t.sz = j := by rw [Nat.mul_comm]; exact Nat.div_add_mod j t.sz
    have hlt : j % t.sz < (t.enc (xs.getD (j / t.sz) (xs[j / t.sz]))).length := by rw [t.len]; exact Nat.mod_lt _ hpos
    have hrow := Fl.row_get (t := t) hx (List.getElem?_eq_getElem hlt)
    rw [hjm, hu] at hrow
    have := hcell _ _ hx (j % t.sz) u (by rw [List.getElem?_eq_getElem hlt]; exact hrow.symm)
    rwa [hjm] at this
/-- A slice among an element's cells. -/
structure Sv where
  a : Option Addr
  n : Nat
  c : Nat
def Sv.v (s : Sv) : Value := .slice s.a s.n s.c
theorem Rd.sv {α : Type} {t : Fl α} {f : Hp} {v : Value} {xs : List α} (h : Rd t f v xs) : ∃ s : Sv, v = s.v := by obtain ⟨A, c, rfl, _⟩ := h; exact ⟨⟨A, _, c⟩, rfl⟩
end Go.Proofs.YtiehijephkagbaaDoor.Sl
