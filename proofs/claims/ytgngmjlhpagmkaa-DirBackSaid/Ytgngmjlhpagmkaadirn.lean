/- Columns: what the walks ask, in lists. -/
import Derived.Test.Ytgngmjlhpagmkaadirm
namespace Go.Proofs.Ytgngmjlhpagmkaa.Dir
open Go.RowKit Go.Proofs.Ytgngmjlhpagmkaa.Sl Go.Proofs.Ytgngmjlhpagmkaa.Leb
set_option linter.unusedVariables false
set_option linter.unusedSimpArgs false
theorem datas_ge {l : List Col} {i : Nat} (hi : i < l.length) : (l.getD i Col.z).xs.length ≤ (datas (dc l)).length := by
  have := datas_take (dc l) (i + 1)
  rw [← dc_take, dc_step hi, datas_snoc, List.length_append] at this
  simp only [Col.d] at this
  omega
theorem lv_downT {l : List Int} {k j : Nat} (h1 : 1 ≤ j) (hj : j ≤ k) (hk : k ≤ l.length) (hb : Bs l) : IntKind.u64.wrap (IntKind.u64.wrap (((lv ((l.take k).drop j) % 18446744073709551616 : Nat) : Int) * 128) + (l.getD (j - 1) 0) % 128) = ((lv ((l.take k).drop (j - 1)) % 18446744073709551616 : Nat) : Int) := by
  have hl : (l.take k).length = k := by simp; omega
  have := lv_down (l := l.take k) (j := j - 1) (by omega) (Sl.Bs.take hb k)
  rw [show j - 1 + 1 = j by omega] at this
  rw [this]
  have hg : (l.take k).getD (j - 1) 0 = l.getD (j - 1) 0 := by
    simp only [List.getD_eq_getElem?_getD, List.getElem?_take]; rw [if_pos (by omega)]
  rw [hg]
def rnumv (most : Int) (v : Value) (l : List Int) : Value := if (num most l 0).2.2 = 0 then sl v (getU l).2.1.toNat l.length 1 else .slice none 0 0
theorem rnumv_rd {f : Hp} {v : Value} {l : List Int} {most : Int} (hb : Bs l) (h0 : (num most l 0).2.2 = 0) (h : Rd (tI .u8) f v l) : Rd (tI .u8) f (rnumv most v l) (num most l 0).2.1 := by
  have := numv_rd most 0 hb h
  have e : numv most v l 0 = rnumv most v l := by
    unfold rnumv numv
    rw [if_pos h0, if_neg (by omega)]
    unfold num at h0
    rw [if_neg (by omega)] at h0
    split at h0
    · exact absurd h0 (by assumption)
    · split at h0
      · exact absurd h0 (show ¬ (4 : Int) = 0 by decide)
      · rename_i a b; rw [if_neg a, if_neg b]
  rwa [e] at this
def RN (most : Int) (v : Value) (l : List Int) : Value := .tuple #[.int .i64 (num most l 0).1, rnumv most v l, .int .i64 (num most l 0).2.2]
theorem rn_bad {most : Int} {v : Value} {l : List Int} {a b e : Int} (h : getU l = (a, b, e)) (he : e ≠ 0) : Value.tuple #[.int .i64 0, .slice none 0 0, .int .i64 e] = RN most v l := by
  have h2 : (getU l).2.2 = e := by rw [h]
  unfold RN rnumv
  rw [num_bad (by omega), h2, if_neg he]
theorem rn_big {most : Int} {v : Value} {l : List Int} {a b : Int} (h : getU l = (a, b, 0)) (he : most < a) : Value.tuple #[.int .i64 0, .slice none 0 0, .int .i64 4] = RN most v l := by
  unfold RN rnumv
  rw [num_big (by rw [h]) (by rw [h]; exact he)]; rfl
theorem rn_ok {most : Int} {v : Value} {l : List Int} {a : Int} {k : Nat} (h : getU l = (a, (k : Int), 0)) (he : ¬ most < a) : Value.tuple #[.int .i64 a, sl v k l.length 1, .int .i64 0] = RN most v l := by
  unfold RN rnumv
  rw [num_ok (by rw [h]) (by rw [h]; exact he), if_pos rfl, h]; rfl
/-! What Get says -/
theorem get_one {b : List Int} (h : (num 64 b 0).2.2 ≠ 0) : get b = ((num 64 b 0).2.2, []) := by unfold get; rw [if_pos h]
theorem get_hd {b : List Int} {e : Int} (h0 : (num 64 b 0).2.2 = 0) (h : hd (num 64 b 0).1.toNat (-1) (num 64 b 0).2.1 = (e, [], [])) (he : e ≠ 0) : get b = (e, []) := by
  unfold get; rw [if_neg (by omega), h, if_pos he]
theorem get_fill {b : List Int} {hs : List (Int × Int)} {l : List Int} (h0 : (num 64 b 0).2.2 = 0) (h : hd (num 64 b 0).1.toNat (-1) (num 64 b 0).2.1 = (0, hs, l)) : get b = fill hs l := by
  unfold get; rw [if_neg (by omega), h, if_neg (fun h => h rfl)]
theorem cmb_end {hs : List (Int × Int)} {k : Nat} {last : Int} {l : List Int} (hk : k = 0) : cmb hs (hd k last l) = (0, hs, l) := by subst hk; simp [cmb, hd]
theorem cmbR_bad1 {hs : List (Int × Int)} {k : Nat} {last : Int} {l : List Int} (h : (num 1048576 l 0).2.2 ≠ 0) (hk : 0 < k) : cmb hs (hd k last l) = ((num 1048576 l 0).2.2, [], []) :=
  cmb_bad (by rw [num_err h]) h hk
theorem cmbR_bad2 {hs : List (Int × Int)} {k : Nat} {last : Int} {l : List Int} (h1 : (num 1048576 l 0).2.2 = 0) (h : (num 1048576 (num 1048576 l 0).2.1 0).2.2 ≠ 0) (hk : 0 < k) : cmb hs (hd k last l) = ((num 1048576 (num 1048576 l 0).2.1 0).2.2, [], []) :=
  cmb_bad (by rw [h1]) h hk
theorem cmbR_three {hs : List (Int × Int)} {k : Nat} {last : Int} {l : List Int} (h1 : (num 1048576 l 0).2.2 = 0) (h : (num 1048576 (num 1048576 l 0).2.1 0).2.2 = 0) (h3 : (num 1048576 l 0).1 ≤ last ∨ (num 1048576 (num 1048576 l 0).2.1 0).1 = 0) (hk : 0 < k) : cmb hs (hd k last l) = (3, [], []) :=
  cmb_three (by rw [h1]; exact h) (by rw [h1]; exact h3) hk
theorem cmbR_step {hs : List (Int × Int)} {k : Nat} {last : Int} {l : List Int} (h1 : (num 1048576 l 0).2.2 = 0) (h : (num 1048576 (num 1048576 l 0).2.1 0).2.2 = 0) (h3 : ¬ ((num 1048576 l 0).1 ≤ last ∨ (num 1048576 (num 1048576 l 0).2.1 0).1 = 0)) :
    cmb hs (hd (k + 1) last l) = cmb (hs ++ [((num 1048576 l 0).1, (num 1048576 (num 1048576 l 0).2.1 0).1)]) (hd k (num 1048576 l 0).1 (num 1048576 (num 1048576 l 0).2.1 0).2.1) := by
  have := cmb_step (hs := hs) (k := k) (last := last) (l := l) (by rw [h1]; exact h) (by rw [h1]; exact h3)
  rw [h1] at this; exact this
theorem lastR {hs : List (Int × Int)} {i : Nat} (h : hs.length = i) (a b : Int) : ((outR (hs ++ [(a, b)])).getD (i + 1 - 1) RC.z).id = a := by
  subst h
  rw [outR_snoc, show hs.length + 1 - 1 = (outR hs).length by rw [outR_len]; omega, getD_mid]; rfl
theorem szs_nn {hs : List (Int × Int)} (h : ∀ x ∈ hs, 0 ≤ x.2 ∧ x.2 ≤ 1048576) {i : Nat} (hi : i < hs.length) : 0 ≤ (szs hs).getD i 0 ∧ (szs hs).getD i 0 ≤ 1048576 := by
  rw [szs_getD hi]; exact h _ (mem_getD hi)
theorem nn_snoc {hs : List (Int × Int)} (h : ∀ x ∈ hs, 0 ≤ x.2 ∧ x.2 ≤ 1048576) {a b : Int} (hb : 0 ≤ b ∧ b ≤ 1048576) : ∀ x ∈ hs ++ [(a, b)], 0 ≤ x.2 ∧ x.2 ≤ 1048576 := fun x hx => by
  rcases List.mem_append.1 hx with hx | hx
  · exact h x hx
  · rw [List.mem_singleton.1 hx]; exact hb
theorem same_at {a : List Col} {b : List RC} (h : dc a = nz (rc b)) {i : Nat} (hi : i < b.length) (hne : ¬ (b.getD i RC.z).s = ByteArray.mk #[]) :
    (nz (rc (b.take i))).length < a.length ∧ (a.getD (nz (rc (b.take i))).length Col.z).id = (b.getD i RC.z).id ∧ (a.getD (nz (rc (b.take i))).length Col.z).xs = ss (b.getD i RC.z).s := by
  have h0 : (b.getD i RC.z).d.2 ≠ [] := fun e => hne (s_nil.2 e)
  have hs : dc a = nz (rc (b.take i)) ++ (b.getD i RC.z).d :: nz (rc (b.drop (i + 1))) := by
    rw [h]
    have : rc b = rc (b.take i) ++ (b.getD i RC.z).d :: rc (b.drop (i + 1)) := by
      have e := List.take_append_drop i b
      rw [drop_getD RC.z hi] at e
      have := congrArg rc e
      rw [← this]; simp [rc]
    rw [this]
    generalize (b.getD i RC.z).d = d at h0
    simp [nz, h0]
  have hl := congrArg List.length hs
  rw [dc_len, List.length_append, List.length_cons] at hl
  have hlt : (nz (rc (b.take i))).length < a.length := by omega
  have hg := dc_getD hlt
  rw [hs, getD_mid] at hg
  simp only [List.getD_cons_zero] at hg
  exact ⟨hlt, (congrArg Prod.fst hg).symm, (congrArg Prod.snd hg).symm⟩
theorem same_end {a : List Col} {b : List RC} (h : dc a = nz (rc b)) : (nz (rc b)).length = a.length := by rw [← h, dc_len]
/-! The columns that the laws make -/
def Cs (l : DC) : Prop := l.length ≤ 60 ∧ (∀ c ∈ l, 0 < c.1 ∧ c.1 ≤ 15360 ∧ c.2.length ≤ 200 ∧ Bs c.2) ∧ l.Pairwise fun a b => a.1 < b.1
def CsI (i : Nat) (id : Int) (l : DC) : Prop := l.length = i ∧ i ≤ 60 ∧ 0 ≤ id ∧ id ≤ 256 * i ∧ (∀ c ∈ l, 0 < c.1 ∧ c.1 ≤ id ∧ c.2.length ≤ 200 ∧ Bs c.2) ∧ l.Pairwise fun a b => a.1 < b.1
theorem CsI.nil : CsI 0 0 [] := ⟨rfl, by omega, by omega, by omega, fun _ h => (List.not_mem_nil h).elim, List.Pairwise.nil⟩
theorem CsI.step {i : Nat} {id x : Int} {l : DC} {d : List Int} (h : CsI i id l) (hi : i < 60) (hx : 0 ≤ x ∧ x < 256) (hd : d.length ≤ 200) (hb : Bs d) : CsI (i + 1) (id + 1 + x) (l ++ [(id + 1 + x, d)]) := by
  obtain ⟨h1, h2, h3, h4, h5, h6⟩ := h
  refine ⟨by simp [h1], by omega, by omega, by omega, fun c hc => ?_, ?_⟩
  · rcases List.mem_append.1 hc with hc | hc
    · have := h5 c hc; exact ⟨this.1, by omega, this.2.2⟩
    · rw [List.mem_singleton.1 hc]; exact ⟨by omega, by omega, hd, hb⟩
  · rw [List.pairwise_append]
    refine ⟨h6, List.pairwise_singleton _ _, fun a ha b hb => ?_⟩
    rw [List.mem_singleton.1 hb]
    have := h5 a ha
    show a.1 < id + 1 + x
    omega
theorem CsI.cs {i : Nat} {id : Int} {l : DC} (h : CsI i id l) : Cs l := by
  obtain ⟨h1, h2, h3, h4, h5, h6⟩ := h
  exact ⟨by omega, fun c hc => by have := h5 c hc; exact ⟨this.1, by omega, this.2.2⟩, h6⟩
theorem Cs.ok {l : DC} (h : Cs l) : Ok l := fun c hc => by have := h.2.1 c hc; exact ⟨by omega, by omega, by omega, this.2.2.2⟩
theorem datas_le {l : DC} {n : Nat} (h : ∀ c ∈ l, c.2.length ≤ n) : (datas l).length ≤ n * l.length := by
  induction l with
  | nil => simp [datas]
  | cons c l ih =>
    have h1 := ih fun x hx => h x (List.mem_cons_of_mem _ hx)
    have h2 := h c List.mem_cons_self
    simp only [datas, List.flatMap_cons, List.length_append, List.length_cons] at *
    rw [Nat.mul_add]; omega
theorem Cs.datas {l : DC} (h : Cs l) : (datas l).length ≤ 12000 := by
  have := datas_le (l := l) (n := 200) fun c hc => (h.2.1 c hc).2.2.1
  have := h.1
  omega
theorem Cs.put_len {l : DC} (h : Cs l) : (put l).length ≤ 13230 := by
  unfold put
  have h1 := h.datas
  have h2 := uBs_len (((nz l).length : Int) :: heads l) (fun x hx => by
    rcases List.mem_cons.1 hx with rfl | hx
    · have := nz_len l; have := h.1; omega
    · exact heads_bd h.ok x hx)
  have h3 := heads_len l
  have := h.1
  rw [List.length_append]
  rw [List.length_cons] at h2
  omega
theorem awake_put (s : Sv) : bs (put (dc [⟨5, s, [1, 2]⟩])) = ByteArray.mk #[1, 5, 2, 1, 2] := by
  have : put (dc [⟨5, s, [1, 2]⟩]) = [1, 5, 2, 1, 2] := by
    simp [put, dc, Col.d, nz, heads, flat, datas, uBs, uB_lo]
  rw [this]; rfl
theorem awake_ok (s : Sv) : Ok (dc [⟨5, s, [1, 2]⟩]) := fun c hc => by
  rw [List.mem_singleton.1 hc]
  refine ⟨show (0 : Int) ≤ 5 by decide, show (5 : Int) < _ by decide, show ((2 : Nat) : Int) < _ by decide, fun x hx => ?_⟩
  simp [Col.d] at hx
  omega
end Go.Proofs.Ytgngmjlhpagmkaa.Dir
