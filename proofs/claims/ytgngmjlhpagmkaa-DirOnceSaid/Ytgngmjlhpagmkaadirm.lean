/- A list of columns as bytes: heads, then data; and back; what layer 16 says, in lists. -/
import Derived.Test.YtgngmjlhpagmkaaPo
import Derived.Test.Ytgngmjlhpagmkaalebn
namespace Go.Proofs.Ytgngmjlhpagmkaa.Dir
open Go.RowKit Go.Proofs.Ytgngmjlhpagmkaa.Sl Go.Proofs.Ytgngmjlhpagmkaa.Leb
set_option linter.unusedVariables false
set_option linter.unusedSimpArgs false
structure Col where
  id : Int
  s : Sv
  xs : List Int
def Col.z : Col := ⟨0, Sv.nil, []⟩
def tCol : Fl Col := ⟨2, fun c => [.int .i64 c.id, c.s.v], fun _ => rfl, fun c u h => by
  simp only [List.mem_cons, List.not_mem_nil, or_false] at h
  rcases h with rfl | rfl <;> rfl, by decide⟩
structure RC where
  id : Int
  s : ByteArray
def RC.z : RC := ⟨0, ByteArray.empty⟩
def tRC : Fl RC := ⟨2, fun c => [.int .i64 c.id, .string c.s], fun _ => rfl, fun c u h => by
  simp only [List.mem_cons, List.not_mem_nil, or_false] at h
  rcases h with rfl | rfl <;> rfl, by decide⟩
abbrev DC := List (Int × List Int)
def Col.d (c : Col) : Int × List Int := (c.id, c.xs)
def RC.d (c : RC) : Int × List Int := (c.id, ss c.s)
def dc (l : List Col) : DC := l.map Col.d
def rc (l : List RC) : DC := l.map RC.d
def poolOf (cs : List Col) : List (Value × List Int) := cs.map fun c => (c.s.v, c.xs)
theorem mem_poolOf {cs : List Col} {c : Col} (h : c ∈ cs) : (c.s.v, c.xs) ∈ poolOf cs := List.mem_map_of_mem (f := fun c : Col => (c.s.v, c.xs)) h
theorem poolOf_snoc (cs : List Col) (c : Col) : poolOf (cs ++ [c]) = poolOf cs ++ [(c.s.v, c.xs)] := by simp [poolOf]
theorem dc_len (l : List Col) : (dc l).length = l.length := by simp [dc]
theorem rc_len (l : List RC) : (rc l).length = l.length := by simp [rc]
theorem dc_snoc (l : List Col) (c : Col) : dc (l ++ [c]) = dc l ++ [c.d] := by simp [dc]
theorem rc_snoc (l : List RC) (c : RC) : rc (l ++ [c]) = rc l ++ [c.d] := by simp [rc]
theorem dc_step {l : List Col} {i : Nat} (h : i < l.length) : dc (l.take (i + 1)) = dc (l.take i) ++ [(l.getD i Col.z).d] := by rw [take_getD Col.z h, dc_snoc]
theorem rc_step {l : List RC} {i : Nat} (h : i < l.length) : rc (l.take (i + 1)) = rc (l.take i) ++ [(l.getD i RC.z).d] := by rw [take_getD RC.z h, rc_snoc]
theorem dc_getD {l : List Col} {i : Nat} (h : i < l.length) : (dc l).getD i (0, []) = (l.getD i Col.z).d := by
  simp [dc, List.getD_eq_getElem?_getD, h]
theorem rc_getD {l : List RC} {i : Nat} (h : i < l.length) : (rc l).getD i (0, []) = (l.getD i RC.z).d := by
  simp [rc, List.getD_eq_getElem?_getD, h]
theorem s_nil {s : ByteArray} : s = ByteArray.mk #[] ↔ ss s = [] := by rw [show ByteArray.mk #[] = bs [] from rfl, ← ss_inj, ss_bs Sl.Bs.nil]
theorem s_nil' {s : ByteArray} : s = ByteArray.mk #[] ↔ (ss s).length = 0 := by rw [s_nil, List.length_eq_zero_iff]
/-! The bytes -/
def nz (l : DC) : DC := l.filter fun c => decide (c.2 ≠ [])
def flat (l : DC) : List Int := l.flatMap fun c => [c.1, (c.2.length : Int)]
def heads (l : DC) : List Int := flat (nz l)
def datas (l : DC) : List Int := l.flatMap (·.2)
def put (l : DC) : List Int := uBs (((nz l).length : Int) :: heads l) ++ datas l
theorem nz_no (l : DC) {c : Int × List Int} (h : c.2 = []) : nz (l ++ [c]) = nz l := by simp [nz, h]
theorem nz_yes (l : DC) {c : Int × List Int} (h : c.2 ≠ []) : nz (l ++ [c]) = nz l ++ [c] := by simp [nz, h]
theorem flat_snoc (l : DC) (c : Int × List Int) : flat (l ++ [c]) = flat l ++ [c.1, (c.2.length : Int)] := by simp [flat]
theorem datas_snoc (l : DC) (c : Int × List Int) : datas (l ++ [c]) = datas l ++ c.2 := by simp [datas]
theorem datas_no (l : DC) {c : Int × List Int} (h : c.2 = []) : datas (l ++ [c]) = datas l := by rw [datas_snoc, h, List.append_nil]
theorem heads_no (l : DC) {c : Int × List Int} (h : c.2 = []) : heads (l ++ [c]) = heads l := by unfold heads; rw [nz_no l h]
theorem heads_yes (l : DC) {c : Int × List Int} (h : c.2 ≠ []) : heads (l ++ [c]) = heads l ++ [c.1, (c.2.length : Int)] := by unfold heads; rw [nz_yes l h, flat_snoc]
theorem nz_len (l : DC) : (nz l).length ≤ l.length := List.length_filter_le _ _
theorem flat_len (l : DC) : (flat l).length = 2 * l.length := by
  induction l with
  | nil => rfl
  | cons c l ih => simp only [flat, List.flatMap_cons, List.length_append, List.length_cons, List.length_nil] at *; omega
theorem heads_len (l : DC) : (heads l).length ≤ 2 * l.length := by unfold heads; rw [flat_len]; have := nz_len l; omega
theorem nz_nz (l : DC) : nz (nz l) = nz l := by simp [nz, List.filter_filter]
theorem datas_nz (l : DC) : datas (nz l) = datas l := by
  induction l with
  | nil => rfl
  | cons c l ih =>
    by_cases h : c.2 = []
    · simp [nz, datas, h] at *; exact ih
    · simp [nz, datas, h] at *; exact ih
theorem put_nz (l : DC) : put (nz l) = put l := by unfold put heads; rw [nz_nz, datas_nz]
theorem datas_append (a b : DC) : datas (a ++ b) = datas a ++ datas b := by simp [datas]
theorem datas_take (l : DC) (i : Nat) : (datas (l.take i)).length ≤ (datas l).length := by
  have := congrArg List.length (congrArg datas (List.take_append_drop i l))
  rw [datas_append, List.length_append] at this; omega
theorem dc_take (l : List Col) (i : Nat) : dc (l.take i) = (dc l).take i := by simp [dc, List.map_take]
theorem rc_take (l : List RC) (i : Nat) : rc (l.take i) = (rc l).take i := by simp [rc, List.map_take]
/-- What the heads may be. -/
def Ok (l : DC) : Prop := ∀ c ∈ l, 0 ≤ c.1 ∧ c.1 < 9223372036854775808 ∧ (c.2.length : Int) < 9223372036854775808 ∧ Bs c.2
theorem Ok.nz {l : DC} (h : Ok l) : Ok (nz l) := fun c hc => h c (List.mem_filter.1 hc).1
theorem flat_bd {l : DC} (h : Ok l) : ∀ x ∈ flat l, 0 ≤ x ∧ x < 18446744073709551616 := fun x hx => by
  obtain ⟨c, hc, hx⟩ := List.mem_flatMap.1 hx
  have := h c hc
  simp only [List.mem_cons, List.not_mem_nil, or_false] at hx
  rcases hx with rfl | rfl <;> omega
theorem heads_bd {l : DC} (h : Ok l) : ∀ x ∈ heads l, 0 ≤ x ∧ x < 18446744073709551616 := flat_bd h.nz
theorem datas_bs {l : DC} (h : Ok l) : Bs (datas l) := fun x hx => by
  obtain ⟨c, hc, hx⟩ := List.mem_flatMap.1 hx
  exact (h c hc).2.2.2 x hx
theorem put_bs {l : DC} (h : Ok l) : Bs (put l) := (uBs_bytes _).append (datas_bs h)
theorem Ok.col {l : List Col} (h : Ok (dc l)) {i : Nat} (hi : i < l.length) : 0 ≤ (l.getD i Col.z).id ∧ (l.getD i Col.z).id < 9223372036854775808 ∧ ((l.getD i Col.z).xs.length : Int) < 9223372036854775808 ∧ Bs (l.getD i Col.z).xs := h _ (List.mem_map_of_mem (f := Col.d) (mem_getD hi))
theorem Ok.rc {l : List RC} (h : Ok (rc l)) {i : Nat} (hi : i < l.length) : 0 ≤ (l.getD i RC.z).id ∧ (l.getD i RC.z).id < 9223372036854775808 ∧ ((l.getD i RC.z).s.size : Int) < 9223372036854775808 := by
  have := h _ (List.mem_map_of_mem (f := RC.d) (mem_getD (d := RC.z) hi))
  simp only [RC.d, size_ss] at this
  omega
theorem put_skip {l : List Col} {i : Nat} (hi : i < l.length) (h : (l.getD i Col.z).xs.length = 0) : nz (dc (l.take (i + 1))) = nz (dc (l.take i)) ∧ heads (dc (l.take (i + 1))) = heads (dc (l.take i)) ∧ datas (dc (l.take (i + 1))) = datas (dc (l.take i)) := by
  have h0 : (l.getD i Col.z).d.2 = [] := List.length_eq_zero_iff.1 h
  rw [dc_step hi]
  exact ⟨nz_no _ h0, heads_no _ h0, datas_no _ h0⟩
theorem put_more {l : List Col} {i : Nat} (hi : i < l.length) (h : (l.getD i Col.z).xs.length ≠ 0) : (nz (dc (l.take (i + 1)))).length = (nz (dc (l.take i))).length + 1 ∧ heads (dc (l.take (i + 1))) = heads (dc (l.take i)) ++ [(l.getD i Col.z).id, ((l.getD i Col.z).xs.length : Int)] ∧ datas (dc (l.take (i + 1))) = datas (dc (l.take i)) ++ (l.getD i Col.z).xs := by
  have h0 : (l.getD i Col.z).d.2 ≠ [] := fun e => h (List.length_eq_zero_iff.2 e)
  rw [dc_step hi]
  exact ⟨by rw [nz_yes _ h0]; simp, heads_yes _ h0, datas_snoc _ _⟩
theorem rput_skip {l : List RC} {i : Nat} (hi : i < l.length) (h : (l.getD i RC.z).s = ByteArray.mk #[]) : nz (rc (l.take (i + 1))) = nz (rc (l.take i)) ∧ heads (rc (l.take (i + 1))) = heads (rc (l.take i)) ∧ datas (rc (l.take (i + 1))) = datas (rc (l.take i)) := by
  have h0 : (l.getD i RC.z).d.2 = [] := s_nil.1 h
  rw [rc_step hi]
  exact ⟨nz_no _ h0, heads_no _ h0, datas_no _ h0⟩
theorem rput_more {l : List RC} {i : Nat} (hi : i < l.length) (h : (l.getD i RC.z).s ≠ ByteArray.mk #[]) : (nz (rc (l.take (i + 1)))).length = (nz (rc (l.take i))).length + 1 ∧ uBs (heads (rc (l.take (i + 1)))) = uBs (heads (rc (l.take i))) ++ uB (l.getD i RC.z).id.toNat ++ uB (l.getD i RC.z).s.size ∧ datas (rc (l.take (i + 1))) = datas (rc (l.take i)) ++ ss (l.getD i RC.z).s := by
  have h0 : (l.getD i RC.z).d.2 ≠ [] := fun e => h (s_nil.2 e)
  rw [rc_step hi]
  refine ⟨by rw [nz_yes _ h0]; simp, ?_, datas_snoc _ _⟩
  rw [heads_yes _ h0, uBs_append]
  simp [uBs, RC.d, size_ss]
theorem uheads_len {l : DC} (h : Ok l) : (uBs (heads l)).length ≤ 20 * l.length := by
  have h1 := uBs_len (heads l) (heads_bd h)
  have h2 := heads_len l
  omega
theorem Ok.take {l : DC} (h : Ok l) (i : Nat) : Ok (l.take i) := fun c hc => h c (List.mem_of_mem_take hc)
theorem Ok.snoc {l : DC} (h : Ok l) {c : Int × List Int} (hc : 0 ≤ c.1 ∧ c.1 < 9223372036854775808 ∧ (c.2.length : Int) < 9223372036854775808 ∧ Bs c.2) : Ok (l ++ [c]) := fun x hx => by
  rcases List.mem_append.1 hx with hx | hx
  · exact h x hx
  · rw [List.mem_singleton.1 hx]; exact hc
theorem Ok.nil : Ok [] := fun _ h => (List.not_mem_nil h).elim
/-! The first with this name -/
def find (id : Int) : DC → List Int
  | [] => []
  | c :: l => if c.1 = id then c.2 else find id l
theorem find_step {l : List Col} {i : Nat} (id : Int) (hi : i < l.length) : find id (dc (l.drop i)) = if (l.getD i Col.z).id = id then (l.getD i Col.z).xs else find id (dc (l.drop (i + 1))) := by
  rw [drop_getD Col.z hi]; rfl
theorem find_up {l : List RC} {i : Nat} (id : Int) (hi : i < l.length) : find id (rc (l.drop i)) = if (l.getD i RC.z).id = id then ss (l.getD i RC.z).s else find id (rc (l.drop (i + 1))) := by
  rw [drop_getD RC.z hi]; rfl
/-! Numbers with a bound -/
def num (most : Int) (l : List Int) (e : Int) : Int × List Int × Int :=
  if e ≠ 0 then (0, l, e) else if (getU l).2.2 ≠ 0 then (0, l, (getU l).2.2) else if most < (getU l).1 then (0, l, 4) else ((getU l).1, l.drop (getU l).2.1.toNat, 0)
def numv (most : Int) (v : Value) (l : List Int) (e : Int) : Value :=
  if e ≠ 0 then v else if (getU l).2.2 ≠ 0 then v else if most < (getU l).1 then v else sl v (getU l).2.1.toNat l.length 1
theorem getU_rng {l : List Int} (hb : Bs l) : 0 ≤ (getU l).1 ∧ (getU l).1 < 18446744073709551616 ∧ 0 ≤ (getU l).2.1 ∧ (getU l).2.1 ≤ l.length ∧ ((getU l).2.2 = 0 ∨ (getU l).2.2 = 2 ∨ (getU l).2.2 = 3) := by
  by_cases h : (getU l).2.2 = 0
  · obtain ⟨n, rest, hn, e, hg⟩ := getU_inv hb h
    subst e; rw [hg]
    refine ⟨Int.natCast_nonneg n, by show (n : Int) < _; omega, Int.natCast_nonneg _, by show ((uB n).length : Int) ≤ _; rw [List.length_append]; omega, .inl rfl⟩
  · have := getU_err hb h; omega
theorem numv_rd {f : Hp} {v : Value} {l : List Int} (most e : Int) (hb : Bs l) (h : Rd (tI .u8) f v l) : Rd (tI .u8) f (numv most v l e) (num most l e).2.1 := by
  unfold numv num
  split
  · exact h
  · split
    · exact h
    · split
      · exact h
      · exact h.drop (by have := getU_rng hb; omega)
theorem num_bs {l : List Int} (most e : Int) (hb : Bs l) : Bs (num most l e).2.1 := by
  unfold num
  split
  · exact hb
  · split
    · exact hb
    · split
      · exact hb
      · exact hb.drop _
theorem num_rng {l : List Int} {most : Int} (e : Int) (hm : 0 ≤ most) (hb : Bs l) : 0 ≤ (num most l e).1 ∧ (num most l e).1 ≤ most ∧ (num most l e).2.1.length ≤ l.length ∧ ((num most l e).2.2 ≠ 0 → (num most l e).1 = 0) := by
  have := getU_rng hb
  unfold num
  split
  · simp; omega
  · split
    · simp; omega
    · split
      · simp; omega
      · simp; omega
theorem num_err {l : List Int} {most e : Int} (h : e ≠ 0) : num most l e = (0, l, e) := by unfold num; rw [if_pos h]
theorem num_bad {l : List Int} {most : Int} (h : (getU l).2.2 ≠ 0) : num most l 0 = (0, l, (getU l).2.2) := by unfold num; rw [if_neg (by omega), if_pos h]
theorem num_big {l : List Int} {most : Int} (h : (getU l).2.2 = 0) (h2 : most < (getU l).1) : num most l 0 = (0, l, 4) := by unfold num; rw [if_neg (by omega), if_neg (by omega), if_pos h2]
theorem num_ok {l : List Int} {most : Int} (h : (getU l).2.2 = 0) (h2 : ¬ most < (getU l).1) : num most l 0 = ((getU l).1, l.drop (getU l).2.1.toNat, 0) := by unfold num; rw [if_neg (by omega), if_neg (by omega), if_neg h2]
theorem numv_err {v : Value} {l : List Int} {most e : Int} (h : e ≠ 0) : numv most v l e = v := by unfold numv; rw [if_pos h]
theorem numv_bad {v : Value} {l : List Int} {most : Int} (h : (getU l).2.2 ≠ 0) : numv most v l 0 = v := by unfold numv; rw [if_neg (by omega), if_pos h]
theorem numv_big {v : Value} {l : List Int} {most : Int} (h : (getU l).2.2 = 0) (h2 : most < (getU l).1) : numv most v l 0 = v := by unfold numv; rw [if_neg (by omega), if_neg (by omega), if_pos h2]
theorem numv_ok {v : Value} {l : List Int} {most : Int} (h : (getU l).2.2 = 0) (h2 : ¬ most < (getU l).1) : numv most v l 0 = sl v (getU l).2.1.toNat l.length 1 := by unfold numv; rw [if_neg (by omega), if_neg (by omega), if_neg h2]
/-! Back -/
def hd : Nat → Int → List Int → Int × List (Int × Int) × List Int
  | 0, _, l => (0, [], l)
  | k + 1, last, l =>
    if (num 1048576 (num 1048576 l 0).2.1 (num 1048576 l 0).2.2).2.2 ≠ 0 then ((num 1048576 (num 1048576 l 0).2.1 (num 1048576 l 0).2.2).2.2, [], [])
    else if (num 1048576 l 0).1 ≤ last ∨ (num 1048576 (num 1048576 l 0).2.1 (num 1048576 l 0).2.2).1 = 0 then (3, [], [])
    else if (hd k (num 1048576 l 0).1 (num 1048576 (num 1048576 l 0).2.1 (num 1048576 l 0).2.2).2.1).1 ≠ 0 then ((hd k (num 1048576 l 0).1 (num 1048576 (num 1048576 l 0).2.1 (num 1048576 l 0).2.2).2.1).1, [], [])
    else (0, ((num 1048576 l 0).1, (num 1048576 (num 1048576 l 0).2.1 (num 1048576 l 0).2.2).1) :: (hd k (num 1048576 l 0).1 (num 1048576 (num 1048576 l 0).2.1 (num 1048576 l 0).2.2).2.1).2.1, (hd k (num 1048576 l 0).1 (num 1048576 (num 1048576 l 0).2.1 (num 1048576 l 0).2.2).2.1).2.2)
def cmb (hs : List (Int × Int)) (r : Int × List (Int × Int) × List Int) : Int × List (Int × Int) × List Int := if r.1 ≠ 0 then (r.1, [], []) else (0, hs ++ r.2.1, r.2.2)
def fill : List (Int × Int) → List Int → Int × DC
  | [], l => if 0 < l.length then (3, []) else (0, [])
  | h :: hs, l => if (l.length : Int) < h.2 then (2, []) else if (fill hs (l.drop h.2.toNat)).1 ≠ 0 then ((fill hs (l.drop h.2.toNat)).1, []) else (0, (h.1, l.take h.2.toNat) :: (fill hs (l.drop h.2.toNat)).2)
def cmd (d : DC) (r : Int × DC) : Int × DC := if r.1 ≠ 0 then (r.1, []) else (0, d ++ r.2)
def get (l : List Int) : Int × DC :=
  if (num 64 l 0).2.2 ≠ 0 then ((num 64 l 0).2.2, [])
  else if (hd (num 64 l 0).1.toNat (-1) (num 64 l 0).2.1).1 ≠ 0 then ((hd (num 64 l 0).1.toNat (-1) (num 64 l 0).2.1).1, [])
  else fill (hd (num 64 l 0).1.toNat (-1) (num 64 l 0).2.1).2.1 (hd (num 64 l 0).1.toNat (-1) (num 64 l 0).2.1).2.2
theorem cmb_nil (r : Int × List (Int × Int) × List Int) (h : r.1 ≠ 0 → r.2 = ([], [])) : cmb [] r = r := by
  unfold cmb
  split
  · rename_i h1; obtain ⟨a, b⟩ := r; have := h h1; simp at this; simp [this]
  · rename_i h1; obtain ⟨a, b, c⟩ := r; simp at h1; simp [h1]
theorem hd_bad (k : Nat) (last : Int) (l : List Int) : (hd k last l).1 ≠ 0 → (hd k last l).2 = ([], []) := by
  cases k with
  | zero => intro h; exact absurd rfl h
  | succ k =>
    unfold hd
    split
    · intro _; rfl
    · split
      · intro _; rfl
      · split
        · intro _; rfl
        · intro h; exact absurd rfl h
theorem cmb_bad {hs : List (Int × Int)} {k : Nat} {last : Int} {l : List Int} {e : Int} (h : (num 1048576 (num 1048576 l 0).2.1 (num 1048576 l 0).2.2).2.2 = e) (he : e ≠ 0) (hk : 0 < k) : cmb hs (hd k last l) = (e, [], []) := by
  obtain ⟨k, rfl⟩ := Nat.exists_eq_succ_of_ne_zero (by omega : k ≠ 0)
  unfold hd; rw [h, if_pos he]; unfold cmb; rw [if_pos he]
theorem cmb_three {hs : List (Int × Int)} {k : Nat} {last : Int} {l : List Int} (h : (num 1048576 (num 1048576 l 0).2.1 (num 1048576 l 0).2.2).2.2 = 0) (h3 : (num 1048576 l 0).1 ≤ last ∨ (num 1048576 (num 1048576 l 0).2.1 (num 1048576 l 0).2.2).1 = 0) (hk : 0 < k) : cmb hs (hd k last l) = (3, [], []) := by
  obtain ⟨k, rfl⟩ := Nat.exists_eq_succ_of_ne_zero (by omega : k ≠ 0)
  unfold hd; rw [if_neg (by omega), if_pos h3]; rfl
theorem cmb_step {hs : List (Int × Int)} {k : Nat} {last : Int} {l : List Int} (h : (num 1048576 (num 1048576 l 0).2.1 (num 1048576 l 0).2.2).2.2 = 0) (h3 : ¬ ((num 1048576 l 0).1 ≤ last ∨ (num 1048576 (num 1048576 l 0).2.1 (num 1048576 l 0).2.2).1 = 0)) :
    cmb hs (hd (k + 1) last l) = cmb (hs ++ [((num 1048576 l 0).1, (num 1048576 (num 1048576 l 0).2.1 (num 1048576 l 0).2.2).1)]) (hd k (num 1048576 l 0).1 (num 1048576 (num 1048576 l 0).2.1 (num 1048576 l 0).2.2).2.1) := by
  rw [hd, if_neg (by omega), if_neg h3]
  generalize hd k _ _ = r
  split
  · rename_i h1; unfold cmb; rw [if_pos h1, if_pos h1]
  · rename_i h1; unfold cmb; rw [if_neg (fun h => h rfl), if_neg h1]; simp
def outH (hs : List (Int × Int)) : List Col := hs.map fun h => ⟨h.1, Sv.nil, []⟩
def outR (hs : List (Int × Int)) : List RC := hs.map fun h => ⟨h.1, ByteArray.empty⟩
def szs (hs : List (Int × Int)) : List Int := hs.map (·.2)
theorem outH_snoc (hs : List (Int × Int)) (a b : Int) : outH (hs ++ [(a, b)]) = outH hs ++ [⟨a, Sv.nil, []⟩] := by simp [outH]
theorem outR_snoc (hs : List (Int × Int)) (a b : Int) : outR (hs ++ [(a, b)]) = outR hs ++ [⟨a, ByteArray.empty⟩] := by simp [outR]
theorem szs_snoc (hs : List (Int × Int)) (a b : Int) : szs (hs ++ [(a, b)]) = szs hs ++ [b] := by simp [szs]
theorem outH_len (hs : List (Int × Int)) : (outH hs).length = hs.length := by simp [outH]
theorem outR_len (hs : List (Int × Int)) : (outR hs).length = hs.length := by simp [outR]
theorem szs_len (hs : List (Int × Int)) : (szs hs).length = hs.length := by simp [szs]
theorem fill_bad (hs : List (Int × Int)) (l : List Int) : (fill hs l).1 ≠ 0 → (fill hs l).2 = [] := by
  cases hs with
  | nil => unfold fill; split; exact fun _ => rfl; exact fun _ => rfl
  | cons h hs =>
    unfold fill
    split
    · exact fun _ => rfl
    · split
      · exact fun _ => rfl
      · intro h; exact absurd rfl h
theorem cmd_nil (r : Int × DC) (h : r.1 ≠ 0 → r.2 = []) : cmd [] r = r := by
  unfold cmd
  split
  · rename_i h1; obtain ⟨a, b⟩ := r; have := h h1; simp at this; simp [this]
  · rename_i h1; obtain ⟨a, b⟩ := r; simp at h1; simp [h1]
theorem szs_getD {hs : List (Int × Int)} {i : Nat} (hi : i < hs.length) : (szs hs).getD i 0 = (hs.getD i (0, 0)).2 := by
  simp [szs, List.getD_eq_getElem?_getD, hi]
theorem cmd_two {d : DC} {hs : List (Int × Int)} {l : List Int} {i : Nat} (hi : i < hs.length) (h : (l.length : Int) < (szs hs).getD i 0) : cmd d (fill (hs.drop i) l) = (2, []) := by
  rw [szs_getD hi] at h
  rw [drop_getD (0, 0) hi, fill, if_pos h]; rfl
theorem cmd_step {d : DC} {hs : List (Int × Int)} {l : List Int} {i : Nat} (hi : i < hs.length) (h : ¬ (l.length : Int) < (szs hs).getD i 0) : cmd d (fill (hs.drop i) l) = cmd (d ++ [((hs.getD i (0, 0)).1, l.take ((szs hs).getD i 0).toNat)]) (fill (hs.drop (i + 1)) (l.drop ((szs hs).getD i 0).toNat)) := by
  rw [szs_getD hi] at h ⊢
  rw [drop_getD (0, 0) hi, fill, if_neg h]
  generalize fill (hs.drop (i + 1)) _ = r
  split
  · rename_i h1; unfold cmd; rw [if_pos h1, if_pos h1]
  · rename_i h1; unfold cmd; rw [if_neg (fun h => h rfl), if_neg h1]; simp
theorem cmd_three {d : DC} {hs : List (Int × Int)} {l : List Int} {i : Nat} (hi : hs.length ≤ i) (h : 0 < l.length) : cmd d (fill (hs.drop i) l) = (3, []) := by
  rw [List.drop_of_length_le hi, fill, if_pos h]; rfl
theorem cmd_end {d : DC} {hs : List (Int × Int)} {l : List Int} {i : Nat} (hi : hs.length ≤ i) (h : ¬ 0 < l.length) : cmd d (fill (hs.drop i) l) = (0, d) := by
  rw [List.drop_of_length_le hi, fill, if_neg h]; simp [cmd]
theorem getD_mid {α : Type} (B C : List α) (z : α) : (B ++ C).getD B.length z = C.getD 0 z := by
  simp only [List.getD_eq_getElem?_getD, List.getElem?_append_right (Nat.le_refl _), Nat.sub_self]
theorem setH {B : List Col} {hs : List (Int × Int)} {i : Nat} (hB : B.length = i) (hi : i < hs.length) (s : Sv) (xs : List Int) :
    (B ++ outH (hs.drop i)).set i { (B ++ outH (hs.drop i)).getD i Col.z with s := s, xs := xs } = (B ++ [⟨(hs.getD i (0, 0)).1, s, xs⟩]) ++ outH (hs.drop (i + 1)) := by
  subst hB
  rw [getD_mid, drop_getD (0, 0) hi, List.set_append_right _ _ (Nat.le_refl _), Nat.sub_self]
  simp [outH]
theorem setR {B : List RC} {hs : List (Int × Int)} {i : Nat} (hB : B.length = i) (hi : i < hs.length) (s : ByteArray) :
    (B ++ outR (hs.drop i)).set i { (B ++ outR (hs.drop i)).getD i RC.z with s := s } = (B ++ [⟨(hs.getD i (0, 0)).1, s⟩]) ++ outR (hs.drop (i + 1)) := by
  subst hB
  rw [getD_mid, drop_getD (0, 0) hi, List.set_append_right _ _ (Nat.le_refl _), Nat.sub_self]
  simp [outR]
end Go.Proofs.Ytgngmjlhpagmkaa.Dir
