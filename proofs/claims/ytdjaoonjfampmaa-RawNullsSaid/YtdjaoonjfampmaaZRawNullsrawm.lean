/- Columns of values: what layer 15 says, in lists. -/
import Derived.Test.YtdjaoonjfampmaaZRawNullsvalm
import Derived.Test.YtdjaoonjfampmaaZRawNullsrleg
import Derived.Test.YtdjaoonjfampmaaZRawNullsMk
namespace Go.Proofs.Ytdjaoonjfampmaa.Raw
open Go.RowKit Go.Proofs.Ytdjaoonjfampmaa.Sl Go.Proofs.Ytdjaoonjfampmaa.Leb Go.Proofs.Ytdjaoonjfampmaa.Utf Go.Proofs.Ytdjaoonjfampmaa.Val Go.Proofs.Ytdjaoonjfampmaa.Rle
set_option linter.unusedVariables false
set_option linter.unusedSimpArgs false
set_option linter.unusedSectionVars false
def metaV (v : Val) : Cell := if v.kind = 0 then Cell.z else ⟨true, 16 * ((putV v).length : Int) + v.kind⟩
def Okv (v : Val) : Prop := VR v ∧ RightP v
theorem kind_rng {v : Val} (h : RightP v) : 0 ≤ v.kind ∧ v.kind ≤ 8 := by
  unfold RightP kP kS at h
  rcases h with h | h | h | h | h <;> omega
theorem zero_kind {v : Val} (h : RightP v) (hk : v.kind = 0) : v = Val.z := by
  have h1 := (right_P (v := v) (.inl hk)).1 h
  obtain ⟨k, u, n, s⟩ := v
  simp only at hk h1
  obtain ⟨rfl, rfl, rfl⟩ := h1
  subst hk
  rfl
theorem putV_small {v : Val} (h : Okv v) : (putV v).length ≤ 4000 := by
  obtain ⟨⟨h1, h2, h3, h4⟩, hr⟩ := h
  rcases kinds v.kind with h' | h' | h' | h' | h' | h'
  · rw [putV_P h']; exact Nat.zero_le _
  · rw [putV_U h']; have := uB_len10 (n := v.u.toNat) (by omega); omega
  · rw [putV_S h']; have := sB_len10 h3.1 h3.2; omega
  · rw [putV_T (.inl h'), size_ss]; exact ((right_T h').1 hr).2.2.1
  · rw [putV_T (.inr h'), size_ss]; exact ((right_B h').1 hr).2.2
  · exact absurd hr (right_X h')
theorem metaV_nm {v : Val} (h : Okv v) : Nm false (metaV v) ∧ 0 ≤ (metaV v).n ∧ (metaV v).n ≤ 100000 := by
  have h1 := kind_rng h.2
  have h2 := putV_small h
  unfold metaV Nm
  split
  · exact ⟨⟨by decide, by decide, fun _ => by decide, fun _ => rfl⟩, by decide, by decide⟩
  · simp only
    exact ⟨⟨by omega, by omega, fun _ => by omega, fun e => by cases e⟩, by omega, by omega⟩
theorem meta_nm {l : List Val} (h : ∀ v ∈ l, Okv v) : ∀ c ∈ l.map metaV, Nm false c := map_all fun v hv => (metaV_nm (h v hv)).1
theorem meta_fits {l : List Val} (h : ∀ v ∈ l, Okv v) : Fits nF nG (l.map metaV) := nF_fits (meta_nm h)
theorem flat_small : ∀ {l : List Val}, (∀ v ∈ l, Okv v) → (l.flatMap putV).length ≤ 4000 * l.length
  | [], _ => by simp
  | v :: l, h => by
    have h1 := putV_small (h v List.mem_cons_self)
    have h2 := flat_small (l := l) fun w hw => h w (List.mem_cons_of_mem _ hw)
    rw [List.flatMap_cons, List.length_append, List.length_cons]; omega
theorem flat_bsV (l : List Val) : Bs (l.flatMap putV) := fun y hy => by
  obtain ⟨x, _, hy⟩ := List.mem_flatMap.1 hy
  exact putV_bs x y hy
theorem flat_takeV {l : List Val} {i : Nat} (h : i < l.length) : (l.take (i + 1)).flatMap putV = (l.take i).flatMap putV ++ putV (l.getD i Val.z) := by rw [take_getD Val.z h]; simp
theorem flat_leV {l : List Val} (h : ∀ v ∈ l, Okv v) (i : Nat) : ((l.take i).flatMap putV).length ≤ 4000 * l.length := by
  have h1 := flat_small (l := l.take i) fun v hv => h v (List.mem_of_mem_take hv)
  have h2 : (l.take i).length ≤ l.length := by rw [List.length_take]; omega
  omega
theorem or16 {a : Nat} {k : Int} (hk : 0 ≤ k ∧ k ≤ 8) (ha : a ≤ 1000000000) : Go.bits .or .i64 ((a : Int) * 16) k = 16 * (a : Int) + k := by
  obtain ⟨b, rfl⟩ := Int.eq_ofNat_of_zero_le hk.1
  have h := bn_or_i64 (a := 2 ^ 4 * a) (b := b) (by omega) (by omega)
  rw [← Nat.two_pow_add_eq_or_of_lt (i := 4) (b := b) (by omega)] at h
  rw [show ((a : Int) * 16) = ((2 ^ 4 * a : Nat) : Int) by omega, h]
  omega
def pad (cs : List Cell) (m : Nat) : List Cell := if cs = [] then List.replicate m Cell.z else cs
def vals : List Cell → List Int → List Val → List Val × Int
  | [], b, o => if b = [] then (o, 0) else ([], 3)
  | c :: cs, b, o => if c.is = false then vals cs b (o ++ [Val.z]) else if c.n % 16 = 0 then ([], 3) else if (b.length : Int) < c.n / 16 then ([], 2)
    else if (getV (c.n % 16) (b.take (c.n / 16).toNat)).2 = 0 then vals cs (b.drop (c.n / 16).toNat) (o ++ [(getV (c.n % 16) (b.take (c.n / 16).toNat)).1]) else ([], (getV (c.n % 16) (b.take (c.n / 16).toNat)).2)
def rawG (ms b : List Int) (n : Int) : List Val × Int :=
  if (gtv nG n.toNat nF ms).2 = 0 then (if (gtv nG n.toNat nF ms).1 = [] ∨ ((gtv nG n.toNat nF ms).1.length : Int) = n then vals (pad (gtv nG n.toNat nF ms).1 n.toNat) b [] else ([], 3)) else ([], (gtv nG n.toNat nF ms).2)
section
variable {cs : List Cell} {b : List Int} {o : List Val} {i : Nat}
theorem vals_null (hi : i < cs.length) (h : (cs.getD i Cell.z).is = false) : vals (cs.drop i) b o = vals (cs.drop (i + 1)) b (o ++ [Val.z]) := by rw [drop_getD Cell.z hi, vals, if_pos h]
theorem vals_form (hi : i < cs.length) (h : ¬ (cs.getD i Cell.z).is = false) (h1 : (cs.getD i Cell.z).n % 16 = 0) : vals (cs.drop i) b o = ([], 3) := by rw [drop_getD Cell.z hi, vals, if_neg h, if_pos h1]
theorem vals_short (hi : i < cs.length) (h : ¬ (cs.getD i Cell.z).is = false) (h1 : ¬ (cs.getD i Cell.z).n % 16 = 0) (h2 : (b.length : Int) < (cs.getD i Cell.z).n / 16) : vals (cs.drop i) b o = ([], 2) := by rw [drop_getD Cell.z hi, vals, if_neg h, if_neg h1, if_pos h2]
theorem vals_err (hi : i < cs.length) (h : ¬ (cs.getD i Cell.z).is = false) (h1 : ¬ (cs.getD i Cell.z).n % 16 = 0) (h2 : ¬ (b.length : Int) < (cs.getD i Cell.z).n / 16) (h3 : ¬ (getV ((cs.getD i Cell.z).n % 16) (b.take ((cs.getD i Cell.z).n / 16).toNat)).2 = 0) : vals (cs.drop i) b o = ([], (getV ((cs.getD i Cell.z).n % 16) (b.take ((cs.getD i Cell.z).n / 16).toNat)).2) := by rw [drop_getD Cell.z hi, vals, if_neg h, if_neg h1, if_neg h2, if_neg h3]
theorem vals_one (hi : i < cs.length) (h : ¬ (cs.getD i Cell.z).is = false) (h1 : ¬ (cs.getD i Cell.z).n % 16 = 0) (h2 : ¬ (b.length : Int) < (cs.getD i Cell.z).n / 16) (h3 : (getV ((cs.getD i Cell.z).n % 16) (b.take ((cs.getD i Cell.z).n / 16).toNat)).2 = 0) : vals (cs.drop i) b o = vals (cs.drop (i + 1)) (b.drop ((cs.getD i Cell.z).n / 16).toNat) (o ++ [(getV ((cs.getD i Cell.z).n % 16) (b.take ((cs.getD i Cell.z).n / 16).toNat)).1]) := by rw [drop_getD Cell.z hi, vals, if_neg h, if_neg h1, if_neg h2, if_pos h3]
theorem vals_end (hi : cs.length ≤ i) : vals (cs.drop i) b o = if b = [] then (o, 0) else ([], 3) := by rw [List.drop_of_length_le hi]; rfl
end
theorem pad_len (cs : List Cell) (m : Nat) : (pad cs m).length ≤ max cs.length m := by
  unfold pad; split
  · rw [List.length_replicate]; omega
  · omega
theorem pad_all {cs : List Cell} (m : Nat) {Q : Cell → Prop} (hz : Q Cell.z) (h : ∀ c ∈ cs, Q c) : ∀ c ∈ pad cs m, Q c := by
  unfold pad; split
  · intro c hc; rw [List.eq_of_mem_replicate hc]; exact hz
  · exact h
theorem vals_back : ∀ (l : List Val) (rest : List Int) (o : List Val), (∀ v ∈ l, Okv v) → vals (l.map metaV) (l.flatMap putV ++ rest) o = if rest = [] then (o ++ l, 0) else ([], 3)
  | [], rest, o, _ => by simp [vals]
  | v :: l, rest, o, h => by
    have hv := h v List.mem_cons_self
    have hk := kind_rng hv.2
    have ih := fun o => vals_back l rest o fun w hw => h w (List.mem_cons_of_mem _ hw)
    rw [List.map_cons, List.flatMap_cons, vals]
    by_cases h0 : v.kind = 0
    · have hz := zero_kind hv.2 h0
      subst hz
      rw [if_pos (by rfl), putV_P (v := Val.z) (.inl rfl), List.nil_append, ih, List.append_assoc]
      rfl
    · have e : metaV v = ⟨true, 16 * ((putV v).length : Int) + v.kind⟩ := by unfold metaV; rw [if_neg h0]
      rw [e]
      simp only
      rw [if_neg (by decide), show (16 * ((putV v).length : Int) + v.kind) % 16 = v.kind by omega, show (16 * ((putV v).length : Int) + v.kind) / 16 = ((putV v).length : Int) by omega, if_neg h0, Int.toNat_natCast, List.append_assoc, if_neg (by rw [List.length_append]; omega), List.take_left, (get_put hv.1).2 hv.2]
      simp only [if_true, List.drop_left]
      rw [ih, List.append_assoc]
      rfl
theorem any_meta {l : List Val} (h : ∀ v ∈ l, Okv v) (ha : anyF nF (l.map metaV) = false) : l.map metaV = List.replicate l.length Cell.z ∧ l.flatMap putV = [] := by
  have hall : ∀ v ∈ l, v = Val.z := fun v hv => by
    refine zero_kind (h v hv).2 (Decidable.byContradiction fun h0 => ?_)
    unfold anyF at ha
    rw [List.any_eq_false] at ha
    refine ha (metaV v) (List.mem_map_of_mem hv) ?_
    unfold metaV; rw [if_neg h0]; rfl
  constructor
  · rw [List.eq_replicate_iff]
    refine ⟨List.length_map _, fun c hc => ?_⟩
    obtain ⟨v, hv, rfl⟩ := List.mem_map.1 hc
    rw [hall v hv]; rfl
  · rw [List.flatMap_eq_nil_iff]
    intro v hv
    rw [hall v hv]; exact putV_P (v := Val.z) (.inl rfl)
theorem rawG_back {l : List Val} (h : ∀ v ∈ l, Okv v) (hl : l.length < 4611686018427387904) (rest : List Int) : rawG (put nF (l.map metaV)) (l.flatMap putV ++ rest) l.length = if rest = [] then (l, 0) else ([], 3) := by
  have hb := gtv_back (F := nF) (G := nG) (l := l.map metaV) (by rw [List.length_map]; exact hl) (meta_fits h)
  rw [List.length_map] at hb
  have hv := vals_back l rest [] h
  rw [List.nil_append] at hv
  unfold rawG
  rw [Int.toNat_natCast, hb]
  by_cases ha : anyF nF (l.map metaV) = true
  · rw [if_pos ha, if_pos rfl, if_pos (.inr (by rw [List.length_map])), show pad (l.map metaV) l.length = l.map metaV from if_neg (fun e => by rw [e] at ha; cases ha)]
    exact hv
  · have ha' : anyF nF (l.map metaV) = false := by simpa using ha
    rw [if_neg ha, if_pos rfl, if_pos (.inl rfl), show pad [] l.length = l.map metaV from (if_pos rfl).trans (any_meta h ha').1.symm]
    exact hv
theorem okv_z : Okv Val.z := ⟨⟨⟨by decide, by decide⟩, ⟨by decide, by decide⟩, ⟨by decide, by decide⟩, by decide⟩, (right_P (v := Val.z) (.inl rfl)).2 ⟨rfl, rfl, rfl⟩⟩
theorem nulls (k : Nat) : put nF ((List.replicate k Val.z).map metaV) = [] ∧ (List.replicate k Val.z).flatMap putV = [] := by
  have hm : (List.replicate k Val.z).map metaV = List.replicate k Cell.z := by rw [List.map_replicate]; rfl
  have ha : anyF nF (List.replicate k Cell.z) = false := by
    unfold anyF; rw [List.any_eq_false]; intro c hc; rw [List.eq_of_mem_replicate hc]; decide
  rw [hm]
  refine ⟨put_none ha, ?_⟩
  rw [List.flatMap_eq_nil_iff]; intro v hv; rw [List.eq_of_mem_replicate hv]; exact putV_P (v := Val.z) (.inl rfl)
theorem rawG_nulls (k : Nat) (hk : k < 4611686018427387904) : rawG [] [] (k : Int) = (List.replicate k Val.z, 0) := by
  have h := rawG_back (l := List.replicate k Val.z) (fun v hv => by rw [List.eq_of_mem_replicate hv]; exact okv_z) (by rw [List.length_replicate]; exact hk) []
  rw [(nulls k).1, (nulls k).2, List.append_nil, List.length_replicate, if_pos rfl] at h
  exact h
theorem awake_raw : bs (put nF ([(⟨3, 7, 0, ByteArray.empty⟩ : Val), Val.z].map metaV)) = ByteArray.mk #[127, 19, 0, 1] ∧ bs ([(⟨3, 7, 0, ByteArray.empty⟩ : Val), Val.z].flatMap putV) = ByteArray.mk #[7] := by
  have h1 : putV (⟨3, 7, 0, ByteArray.empty⟩ : Val) = [7] := by rw [putV_U (v := ⟨3, 7, 0, ByteArray.empty⟩) rfl]; exact uB_lo (by decide)
  have h2 : [(⟨3, 7, 0, ByteArray.empty⟩ : Val), Val.z].map metaV = [⟨true, 19⟩, Cell.z] := by simp [metaV, h1, Val.z]
  rw [h2]
  constructor
  · have : put nF [⟨true, 19⟩, Cell.z] = [127, 19, 0, 1] := by simp [put, anyF, rl, rlf, rn, lit, nF, uB_lo, sB_lo, Cell.z]
    rw [this]; rfl
  · rw [List.flatMap_cons, List.flatMap_cons, h1, putV_P (v := Val.z) (.inl rfl)]; rfl
end Go.Proofs.Ytdjaoonjfampmaa.Raw
