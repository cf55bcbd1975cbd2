/- Layer 4: words, rounds and blocks, by the reference's own operations. -/
import Derived.Test.YtiehijephkagbaaDoorZShaPartsshm
import Derived.Test.YtiehijephkagbaaDoorZShaPartsAr
namespace Go.Proofs.YtiehijephkagbaaDoor.Sha
open Go.RowKit Go.Proofs.YtiehijephkagbaaDoor.Sl
set_option linter.unusedVariables false
abbrev M32 : Int := 4294967296
def trn (x : Int) : Nat → Int
  | 0 => x
  | n + 1 => trn x n / 2 + trn x n % 2 * 2147483648
def shf (x : Int) : Nat → Int
  | 0 => x
  | n + 1 => shf x n / 2
def W32 (x : Int) : Prop := 0 ≤ x ∧ x < 4294967296
theorem trn_w {x : Int} (h : W32 x) : ∀ n, W32 (trn x n)
  | 0 => h
  | n + 1 => by have ih := trn_w h n; unfold W32 at *; simp only [trn]; omega
theorem shf_w {x : Int} (h : W32 x) : ∀ n, W32 (shf x n)
  | 0 => h
  | n + 1 => by have ih := shf_w h n; unfold W32 at *; simp only [shf]; omega
theorem mod_w (x : Int) : W32 (x % 4294967296) := by unfold W32; omega
/-! The words of a block -/
def be4 (l : List Int) (j : Nat) : Nat → Int
  | 0 => 0
  | k + 1 => be4 l j k * 256 + l.getD (j + k) 0
def sg0 (p : Int) : Int := bits .xor .u32 (bits .xor .u32 (trn p 7) (trn p 18)) (shf p 3)
def sg1 (q : Int) : Int := bits .xor .u32 (bits .xor .u32 (trn q 17) (trn q 19)) (shf q 10)
def nw (w : List Int) (i : Nat) : Int := (((w.getD (i - 16) 0 + sg0 (w.getD (i - 15) 0)) % 4294967296 + w.getD (i - 7) 0) % 4294967296 + sg1 (w.getD (i - 2) 0)) % 4294967296
def wds (l : List Int) (at_ : Nat) : Nat → List Int
  | 0 => []
  | i + 1 => wds l at_ i ++ [if i < 16 then be4 l (at_ + 4 * i) 4 else nw (wds l at_ i) i]
theorem wds_len (l : List Int) (a : Nat) : ∀ i, (wds l a i).length = i
  | 0 => rfl
  | i + 1 => by rw [wds, List.length_append, wds_len l a i]; rfl
/-! Rounds -/
structure St8 where
  a : Int
  b : Int
  c : Int
  d : Int
  e : Int
  f : Int
  g : Int
  h : Int
def eg1 (e : Int) : Int := bits .xor .u32 (bits .xor .u32 (trn e 6) (trn e 11)) (trn e 25)
def eg0 (a : Int) : Int := bits .xor .u32 (bits .xor .u32 (trn a 2) (trn a 13)) (trn a 22)
def chf (e f g : Int) : Int := bits .or .u32 (bits .and .u32 e f) (bits .and .u32 (4294967295 - e) g)
def mjf (a b c : Int) : Int := bits .or .u32 (bits .or .u32 (bits .and .u32 a b) (bits .and .u32 a c)) (bits .and .u32 b c)
def tmp1 (s : St8) (k w : Int) : Int := ((((s.h + eg1 s.e) % 4294967296 + chf s.e s.f s.g) % 4294967296 + k) % 4294967296 + w) % 4294967296
def tmp2 (s : St8) : Int := (eg0 s.a + mjf s.a s.b s.c) % 4294967296
def rnd (s : St8) (k w : Int) : St8 := ⟨(tmp1 s k w + tmp2 s) % 4294967296, s.a, s.b, s.c, (s.d + tmp1 s k w) % 4294967296, s.e, s.f, s.g⟩
def rds (s : St8) (ks ws : List Int) : Nat → St8
  | 0 => s
  | i + 1 => rnd (rds s ks ws i) (ks.getD i 0) (ws.getD i 0)
def ofL (s : List Int) : St8 := ⟨s.getD 0 0, s.getD 1 0, s.getD 2 0, s.getD 3 0, s.getD 4 0, s.getD 5 0, s.getD 6 0, s.getD 7 0⟩
def plus (s : List Int) (v : St8) : List Int := [(s.getD 0 0 + v.a) % 4294967296, (s.getD 1 0 + v.b) % 4294967296, (s.getD 2 0 + v.c) % 4294967296, (s.getD 3 0 + v.d) % 4294967296, (s.getD 4 0 + v.e) % 4294967296, (s.getD 5 0 + v.f) % 4294967296, (s.getD 6 0 + v.g) % 4294967296, (s.getD 7 0 + v.h) % 4294967296]
def blk (ks l s : List Int) (a : Nat) : List Int := plus s (rds (ofL s) ks (wds l a 64) 64)
def blks (ks l s : List Int) : Nat → List Int
  | 0 => s
  | n + 1 => blk ks l (blks ks l s n) (64 * n)
/-! What stands behind the bytes -/
def zz (n : Nat) : Nat := (119 - n % 64) % 64
def be8 (n : Int) : Nat → List Int
  | 0 => []
  | j + 1 => be8 n j ++ [n / 2 ^ (8 * (7 - j)) % 256]
theorem be8_len (n : Int) : ∀ j, (be8 n j).length = j
  | 0 => rfl
  | j + 1 => by rw [be8, List.length_append, be8_len n j]; rfl
def padz (b : List Int) (z : Nat) : List Int := b ++ [128] ++ List.replicate z 0
theorem padz_len (b : List Int) (z : Nat) : (padz b z).length = b.length + 1 + z := by unfold padz; simp; omega
theorem padz_step (b : List Int) (z : Nat) : padz b z ++ [0] = padz b (z + 1) := by unfold padz; rw [List.replicate_succ', ← List.append_assoc]
def padL (b : List Int) : List Int := padz b (zz b.length) ++ be8 ((b.length : Int) * 8) 8
theorem padL_len (b : List Int) : (padL b).length = b.length + 1 + zz b.length + 8 := by unfold padL; rw [List.length_append, padz_len, be8_len]
theorem padL_mod (b : List Int) : (padL b).length % 64 = 0 := by rw [padL_len]; unfold zz; omega
def outs (s : List Int) : Nat → List Int
  | 0 => []
  | i + 1 => outs s i ++ [s.getD (i / 4) 0 / 2 ^ (24 - 8 * (i % 4)) % 256]
theorem outs_len (s : List Int) : ∀ i, (outs s i).length = i
  | 0 => rfl
  | i + 1 => by rw [outs, List.length_append, outs_len s i]; rfl
def hashL (ks s b : List Int) : List Int := outs (blks ks (padL b) s ((padL b).length / 64)) 32
theorem outs_step {s : List Int} {i : Nat} (h : i < 32) : (outs s i ++ List.replicate (32 - i) (0 : Int)).set i (s.getD (i / 4) 0 / 2 ^ (24 - 8 * (i % 4)) % 256) = outs s (i + 1) ++ List.replicate (32 - (i + 1)) 0 := by
  rw [List.set_append_right _ _ (by rw [outs_len]; exact Nat.le_refl _), outs_len, Nat.sub_self, show 32 - i = (32 - (i + 1)) + 1 by omega, List.replicate_succ, List.set_cons_zero, outs, List.append_assoc]
  rfl
/-! Ranges -/
theorem getD_w {l : List Int} (h : ∀ x ∈ l, W32 x) (i : Nat) : W32 (l.getD i 0) := by
  by_cases hi : i < l.length
  · exact h _ (mem_getD hi)
  · rw [List.getD_eq_getElem?_getD, List.getElem?_eq_none (by omega)]; unfold W32; simp
def By (l : List Int) : Prop := ∀ x ∈ l, 0 ≤ x ∧ x < 256
theorem By.at {l : List Int} (h : By l) (i : Nat) : 0 ≤ l.getD i 0 ∧ l.getD i 0 < 256 := by
  by_cases hi : i < l.length
  · exact h _ (mem_getD hi)
  · rw [List.getD_eq_getElem?_getD, List.getElem?_eq_none (by omega)]; simp
theorem be4_rng {l : List Int} (h : By l) (j : Nat) : ∀ k, 0 ≤ be4 l j k ∧ be4 l j k < 256 ^ k
  | 0 => by simp [be4]
  | k + 1 => by
    have ih := be4_rng h j k; have hb := h.at (j + k)
    simp only [be4, Int.pow_succ]; omega
theorem wds_w {l : List Int} (h : By l) (a : Nat) : ∀ i, ∀ x ∈ wds l a i, W32 x
  | 0, x, hx => (List.not_mem_nil hx).elim
  | i + 1, x, hx => by
    simp only [wds] at hx
    rcases List.mem_append.1 hx with hx | hx
    · exact wds_w h a i x hx
    · rw [List.mem_singleton] at hx
      rw [hx]
      split
      · have := be4_rng h (a + 4 * i) 4; unfold W32; omega
      · exact mod_w _
theorem begin_w : ∀ x ∈ beginL, W32 x := fun x hx => by
  have h : beginL.all (fun x => decide (0 ≤ x ∧ x < 4294967296)) = true := by decide +kernel
  have h2 : 0 ≤ x ∧ x < 4294967296 := of_decide_eq_true (List.all_eq_true.1 h x hx)
  exact h2
structure W8 (s : St8) : Prop where
  a : W32 s.a
  b : W32 s.b
  c : W32 s.c
  d : W32 s.d
  e : W32 s.e
  f : W32 s.f
  g : W32 s.g
  h : W32 s.h
theorem W8.rnd {s : St8} (h : W8 s) (k w : Int) : W8 (rnd s k w) := ⟨mod_w _, h.a, h.b, h.c, mod_w _, h.e, h.f, h.g⟩
theorem W8.rds {s : St8} (h : W8 s) (ks ws : List Int) : ∀ i, W8 (rds s ks ws i)
  | 0 => h
  | i + 1 => (W8.rds h ks ws i).rnd _ _
theorem W8.ofL {s : List Int} (h : ∀ x ∈ s, W32 x) : W8 (ofL s) := ⟨getD_w h 0, getD_w h 1, getD_w h 2, getD_w h 3, getD_w h 4, getD_w h 5, getD_w h 6, getD_w h 7⟩
theorem plus_w (s : List Int) (v : St8) : ∀ x ∈ plus s v, W32 x := fun x hx => by
  simp only [plus, List.mem_cons, List.not_mem_nil, or_false] at hx
  rcases hx with rfl | rfl | rfl | rfl | rfl | rfl | rfl | rfl <;> exact mod_w _
theorem blks_w {ks l s : List Int} (h : ∀ x ∈ s, W32 x) : ∀ n, ∀ x ∈ blks ks l s n, W32 x
  | 0 => h
  | n + 1 => plus_w _ _
theorem blks_len {ks l s : List Int} (h : s.length = 8) : ∀ n, (blks ks l s n).length = 8
  | 0 => h
  | n + 1 => rfl
theorem padL_by {b : List Int} (h : By b) : By (padL b) := fun x hx => by
  unfold padL padz at hx
  simp only [List.mem_append, List.mem_singleton, List.mem_replicate] at hx
  rcases hx with ((hx | rfl) | ⟨_, rfl⟩) | hx
  · exact h x hx
  · decide
  · decide
  · have : ∀ (n : Int) (j : Nat), ∀ x ∈ be8 n j, 0 ≤ x ∧ x < 256 := fun n j => by
      induction j with
      | zero => intro x hx; exact (List.not_mem_nil hx).elim
      | succ j ih =>
        intro x hx
        simp only [be8] at hx
        rcases List.mem_append.1 hx with hx | hx
        · exact ih x hx
        · rw [List.mem_singleton] at hx; omega
    exact this _ _ x hx
end Go.Proofs.YtiehijephkagbaaDoor.Sha
