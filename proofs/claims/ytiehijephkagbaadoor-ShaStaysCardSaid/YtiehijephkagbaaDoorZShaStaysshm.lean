/- Layer 4: whole numbers by digits, roots, primes: the tables. -/
import Derived.Test.YtiehijephkagbaaDoorZShaStaysMk
namespace Go.Proofs.YtiehijephkagbaaDoor.Sha
open Go.RowKit Go.Proofs.YtiehijephkagbaaDoor.Sl
set_option linter.unusedVariables false
/-! Digits to the base 2^16, the lowest first -/
def val : List Int → Int
  | [] => 0
  | d :: l => d + 65536 * val l
def Dg (l : List Int) : Prop := ∀ d ∈ l, 0 ≤ d ∧ d < 65536
theorem Dg.at {l : List Int} (h : Dg l) (i : Nat) : 0 ≤ l.getD i 0 ∧ l.getD i 0 < 65536 := by
  by_cases hi : i < l.length
  · exact h _ (mem_getD hi)
  · rw [List.getD_eq_getElem?_getD, List.getElem?_eq_none (by omega)]; simp
theorem Dg.nil : Dg [] := fun d h => (List.not_mem_nil h).elim
theorem Dg.add {l : List Int} {d : Int} (h : Dg l) (hd : 0 ≤ d ∧ d < 65536) : Dg (l ++ [d]) := fun x hx => by
  rcases List.mem_append.1 hx with hx | hx
  · exact h x hx
  · obtain rfl : x = d := by simpa using hx
    exact hd
theorem Dg.cons {l : List Int} {d : Int} (h : Dg l) (hd : 0 ≤ d ∧ d < 65536) : Dg (d :: l) := fun x hx => by
  rcases List.mem_cons.1 hx with rfl | hx
  · exact hd
  · exact h x hx
/-! Roots -/
/-! Primes -/
def stepP (out : List Int) (x : Int) : List Int := if out.all (fun q => decide (x % q ≠ 0)) then out ++ [x] else out
def pf : Nat → List Int
  | 0 => []
  | k + 1 => stepP (pf k) ((k : Int) + 2)
def PL : List Int := pf 310
def keysL : List Int := [0x428a2f98, 0x71374491, 0xb5c0fbcf, 0xe9b5dba5, 0x3956c25b, 0x59f111f1, 0x923f82a4, 0xab1c5ed5, 0xd807aa98, 0x12835b01, 0x243185be, 0x550c7dc3, 0x72be5d74, 0x80deb1fe, 0x9bdc06a7, 0xc19bf174, 0xe49b69c1, 0xefbe4786, 0x0fc19dc6, 0x240ca1cc, 0x2de92c6f, 0x4a7484aa, 0x5cb0a9dc, 0x76f988da, 0x983e5152, 0xa831c66d, 0xb00327c8, 0xbf597fc7, 0xc6e00bf3, 0xd5a79147, 0x06ca6351, 0x14292967, 0x27b70a85, 0x2e1b2138, 0x4d2c6dfc, 0x53380d13, 0x650a7354, 0x766a0abb, 0x81c2c92e, 0x92722c85, 0xa2bfe8a1, 0xa81a664b, 0xc24b8b70, 0xc76c51a3, 0xd192e819, 0xd6990624, 0xf40e3585, 0x106aa070, 0x19a4c116, 0x1e376c08, 0x2748774c, 0x34b0bcb5, 0x391c0cb3, 0x4ed8aa4a, 0x5b9cca4f, 0x682e6ff3, 0x748f82ee, 0x78a5636f, 0x84c87814, 0x8cc70208, 0x90befffa, 0xa4506ceb, 0xbef9a3f7, 0xc67178f2]
def beginL : List Int := [0x6a09e667, 0xbb67ae85, 0x3c6ef372, 0xa54ff53a, 0x510e527f, 0x9b05688c, 0x1f83d9ab, 0x5be0cd19]
/-- A whole root with these last 32 bits. -/
def full (P : Int) (k : Nat) (r : Int) : Int := (((List.range 16).map fun (j : Nat) => (j : Int) * 4294967296 + r).find? fun a => decide (a ^ k ≤ P ∧ P < (a + 1) ^ k)).getD (-1)
def okR (p r : Int) (k : Nat) : Bool := let P := p * 4294967296 ^ k; let a := full P k r; decide (0 ≤ a ∧ a ^ k ≤ P ∧ P < (a + 1) ^ k ∧ a % 4294967296 = r)
end Go.Proofs.YtiehijephkagbaaDoor.Sha
