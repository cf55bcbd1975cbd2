/- Rows of rows of bytes; what a hash's end is. -/
import Derived.Test.YtiehijephkagbaaDoorZShaPartsShd
import Derived.Test.YtiehijephkagbaaDoorZShaPartsOd
namespace Go.Proofs.YtiehijephkagbaaDoor.Sha
open Go.RowKit Go.Proofs.YtiehijephkagbaaDoor.Sl
set_option linter.unusedVariables false
structure Pb where
  s : Sv
  b : List Int
def Pb.z : Pb := ⟨Sv.nil, []⟩
def tPb : Fl Pb := ⟨1, fun x => [x.s.v], fun _ => rfl, fun _ u h => by rw [List.mem_singleton.1 h]; rfl, Nat.one_pos⟩
def jn (cs : List Pb) : List Int := cs.flatMap (·.b)
theorem jn_nil : jn [] = [] := rfl
theorem jn_take {cs : List Pb} {i : Nat} (h : i < cs.length) : jn (cs.take (i + 1)) = jn (cs.take i) ++ (cs.getD i Pb.z).b := by
  unfold jn; rw [take_getD Pb.z h, List.flatMap_append]; simp
theorem jn_all {cs : List Pb} {i : Nat} (h : cs.length ≤ i) : jn (cs.take i) = jn cs := by rw [List.take_of_length_le h]
theorem jn_le {cs : List Pb} {i : Nat} (h : i < cs.length) : (jn (cs.take i)).length + ((cs.getD i Pb.z).b).length ≤ (jn cs).length := by
  have e : cs = cs.take (i + 1) ++ cs.drop (i + 1) := (List.take_append_drop _ _).symm
  have h2 := jn_take h
  have h3 : jn cs = jn (cs.take (i + 1)) ++ jn (cs.drop (i + 1)) := by
    conv => lhs; rw [e]
    unfold jn; rw [List.flatMap_append]
  rw [h3, h2, List.length_append, List.length_append]; omega
theorem jn_by {cs : List Pb} (h : ∀ c ∈ cs, By c.b) : By (jn cs) := fun x hx => by
  obtain ⟨c, hc, hx⟩ := List.mem_flatMap.1 hx
  exact h c hc x hx
theorem By.nil : By [] := fun x hx => (List.not_mem_nil hx).elim
theorem By.app {l m : List Int} (h : By l) (k : By m) : By (l ++ m) := fun x hx => by
  rcases List.mem_append.1 hx with hx | hx
  · exact h x hx
  · exact k x hx
theorem By.drop {l : List Int} (h : By l) (n : Nat) : By (l.drop n) := fun x hx => h x (List.mem_of_mem_drop hx)
theorem By.set {l : List Int} (h : By l) (i : Nat) {z : Int} (hz : 0 ≤ z ∧ z < 256) : By (l.set i z) := fun x hx => by
  rcases List.mem_or_eq_of_mem_set hx with hx | rfl
  · exact h x hx
  · exact hz
theorem hr_len (A : List Int) : (hr A).length = A.length % 64 := by unfold hr; rw [List.length_drop]; omega
/-! What stands behind -/
def tailL (n : Nat) : List Int := padz [] (zz n) ++ be8 ((n : Int) * 8) 8
theorem tail_pad (A : List Int) : A ++ tailL A.length = padL A := by unfold tailL padL padz; simp [List.append_assoc]
theorem tail_len (n : Nat) : (tailL n).length ≤ 73 := by unfold tailL; rw [List.length_append, padz_len, be8_len]; unfold zz; simp; omega
theorem tail_by (A : List Int) (h : By A) : By (tailL A.length) := fun x hx => padL_by h x (by rw [← tail_pad]; exact List.mem_append_right _ hx)
theorem outs_four {s : List Int} {i : Nat} (h : i < 8) :
    ((((outs s (4 * i) ++ List.replicate (32 - 4 * i) (0 : Int)).set (4 * i) (s.getD i 0 / 16777216 % 256)).set (4 * i + 1) (s.getD i 0 / 65536 % 256)).set (4 * i + 2) (s.getD i 0 / 256 % 256)).set (4 * i + 3) (s.getD i 0 % 256) = outs s (4 * (i + 1)) ++ List.replicate (32 - 4 * (i + 1)) 0 := by
  have a0 := outs_step (s := s) (i := 4 * i) (by omega)
  have a1 := outs_step (s := s) (i := 4 * i + 1) (by omega)
  have a2 := outs_step (s := s) (i := 4 * i + 2) (by omega)
  have a3 := outs_step (s := s) (i := 4 * i + 3) (by omega)
  rw [show 4 * i / 4 = i by omega, show 24 - 8 * (4 * i % 4) = 24 by omega] at a0
  rw [show (4 * i + 1) / 4 = i by omega, show 24 - 8 * ((4 * i + 1) % 4) = 16 by omega] at a1
  rw [show (4 * i + 2) / 4 = i by omega, show 24 - 8 * ((4 * i + 2) % 4) = 8 by omega] at a2
  rw [show (4 * i + 3) / 4 = i by omega, show 24 - 8 * ((4 * i + 3) % 4) = 0 by omega, Int.pow_zero, Int.ediv_one] at a3
  have e0 : (2 : Int) ^ 24 = 16777216 := rfl
  have e1 : (2 : Int) ^ 16 = 65536 := rfl
  have e2 : (2 : Int) ^ 8 = 256 := rfl
  rw [e0] at a0; rw [e1] at a1; rw [e2] at a2
  rw [a0, a1, a2, a3, show 4 * i + 3 + 1 = 4 * (i + 1) by omega]
theorem eight {xs : List Int} (h : xs.length = 8) : ∃ x0 x1 x2 x3 x4 x5 x6 x7, xs = [x0, x1, x2, x3, x4, x5, x6, x7] := by
  match xs, h with
  | [a, b, c, d, e, f, g, i], _ => exact ⟨a, b, c, d, e, f, g, i, rfl⟩
end Go.Proofs.YtiehijephkagbaaDoor.Sha
