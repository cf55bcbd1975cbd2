/- Columns of values: what layer 15 says, in lists. -/
import Derived.Test.YtdjaoonjfampmaaZRawPutsvalm
import Derived.Test.YtdjaoonjfampmaaZRawPutsrleg
import Derived.Test.YtdjaoonjfampmaaZRawPutsMk
namespace Go.Proofs.Ytdjaoonjfampmaa.Raw
open Go.RowKit Go.Proofs.Ytdjaoonjfampmaa.Sl Go.Proofs.Ytdjaoonjfampmaa.Leb Go.Proofs.Ytdjaoonjfampmaa.Utf Go.Proofs.Ytdjaoonjfampmaa.Val Go.Proofs.Ytdjaoonjfampmaa.Rle
set_option linter.unusedVariables false
set_option linter.unusedSimpArgs false
set_option linter.unusedSectionVars false
def metaV (v : Val) : Cell := if v.kind = 0 then Cell.z else ⟨true, 16 * ((putV v).length : Int) + v.kind⟩
def Okv (v : Val) : Prop := VR v ∧ RightP v
theorem kind_rng {v : Val} (h : RightP v) : 0 ≤ v.kind ∧ v.kind ≤ 8 := by
  unfold RightP kP kS at h
  rcases h with h | h | h | h | h <;> omega
theorem putV_small {v : Val} (h : Okv v) : (putV v).length ≤ 4000 := by
  obtain ⟨⟨h1, h2, h3, h4⟩, hr⟩ := h
  rcases kinds v.kind with h' | h' | h' | h' | h' | h'
  · rw [putV_P h']; exact Nat.zero_le _
  · rw [putV_U h']; have := uB_len10 (n := v.u.toNat) (by omega); omega
  · rw [putV_S h']; have := sB_len10 h3.1 h3.2; omega
  · rw [putV_T (.inl h'), size_ss]; exact ((right_T h').1 hr).2.2.1
  · rw [putV_T (.inr h'), size_ss]; exact ((right_B h').1 hr).2.2
  · exact absurd hr (right_X h')
theorem metaV_nm {v : Val} (h : Okv v) : Nm false (metaV v) ∧ 0 ≤ (metaV v).n ∧ (metaV v).n ≤ 100000 := by
  have h1 := kind_rng h.2
  have h2 := putV_small h
  unfold metaV Nm
  split
  · exact ⟨⟨by decide, by decide, fun _ => by decide, fun _ => rfl⟩, by decide, by decide⟩
  · simp only
    exact ⟨⟨by omega, by omega, fun _ => by omega, fun e => by cases e⟩, by omega, by omega⟩
theorem meta_nm {l : List Val} (h : ∀ v ∈ l, Okv v) : ∀ c ∈ l.map metaV, Nm false c := map_all fun v hv => (metaV_nm (h v hv)).1
theorem flat_small : ∀ {l : List Val}, (∀ v ∈ l, Okv v) → (l.flatMap putV).length ≤ 4000 * l.length
  | [], _ => by simp
  | v :: l, h => by
    have h1 := putV_small (h v List.mem_cons_self)
    have h2 := flat_small (l := l) fun w hw => h w (List.mem_cons_of_mem _ hw)
    rw [List.flatMap_cons, List.length_append, List.length_cons]; omega
theorem flat_takeV {l : List Val} {i : Nat} (h : i < l.length) : (l.take (i + 1)).flatMap putV = (l.take i).flatMap putV ++ putV (l.getD i Val.z) := by rw [take_getD Val.z h]; simp
theorem flat_leV {l : List Val} (h : ∀ v ∈ l, Okv v) (i : Nat) : ((l.take i).flatMap putV).length ≤ 4000 * l.length := by
  have h1 := flat_small (l := l.take i) fun v hv => h v (List.mem_of_mem_take hv)
  have h2 : (l.take i).length ≤ l.length := by rw [List.length_take]; omega
  omega
theorem or16 {a : Nat} {k : Int} (hk : 0 ≤ k ∧ k ≤ 8) (ha : a ≤ 1000000000) : Go.bits .or .i64 ((a : Int) * 16) k = 16 * (a : Int) + k := by
  obtain ⟨b, rfl⟩ := Int.eq_ofNat_of_zero_le hk.1
  have h := bn_or_i64 (a := 2 ^ 4 * a) (b := b) (by omega) (by omega)
  rw [← Nat.two_pow_add_eq_or_of_lt (i := 4) (b := b) (by omega)] at h
  rw [show ((a : Int) * 16) = ((2 ^ 4 * a : Nat) : Int) by omega, h]
  omega
def pad (cs : List Cell) (m : Nat) : List Cell := if cs = [] then List.replicate m Cell.z else cs
def vals : List Cell → List Int → List Val → List Val × Int
  | [], b, o => if b = [] then (o, 0) else ([], 3)
  | c :: cs, b, o => if c.is = false then vals cs b (o ++ [Val.z]) else if c.n % 16 = 0 then ([], 3) else if (b.length : Int) < c.n / 16 then ([], 2)
    else if (getV (c.n % 16) (b.take (c.n / 16).toNat)).2 = 0 then vals cs (b.drop (c.n / 16).toNat) (o ++ [(getV (c.n % 16) (b.take (c.n / 16).toNat)).1]) else ([], (getV (c.n % 16) (b.take (c.n / 16).toNat)).2)
def rawG (ms b : List Int) (n : Int) : List Val × Int :=
  if (gtv nG n.toNat nF ms).2 = 0 then (if (gtv nG n.toNat nF ms).1 = [] ∨ ((gtv nG n.toNat nF ms).1.length : Int) = n then vals (pad (gtv nG n.toNat nF ms).1 n.toNat) b [] else ([], 3)) else ([], (gtv nG n.toNat nF ms).2)
section
variable {cs : List Cell} {b : List Int} {o : List Val} {i : Nat}
end
theorem okv_z : Okv Val.z := ⟨⟨⟨by decide, by decide⟩, ⟨by decide, by decide⟩, ⟨by decide, by decide⟩, by decide⟩, (right_P (v := Val.z) (.inl rfl)).2 ⟨rfl, rfl, rfl⟩⟩
theorem awake_raw : bs (put nF ([(⟨3, 7, 0, ByteArray.empty⟩ : Val), Val.z].map metaV)) = ByteArray.mk #[127, 19, 0, 1] ∧ bs ([(⟨3, 7, 0, ByteArray.empty⟩ : Val), Val.z].flatMap putV) = ByteArray.mk #[7] := by
  have h1 : putV (⟨3, 7, 0, ByteArray.empty⟩ : Val) = [7] := by rw [putV_U (v := ⟨3, 7, 0, ByteArray.empty⟩) rfl]; exact uB_lo (by decide)
  have h2 : [(⟨3, 7, 0, ByteArray.empty⟩ : Val), Val.z].map metaV = [⟨true, 19⟩, Cell.z] := by simp [metaV, h1, Val.z]
  rw [h2]
  constructor
  · have : put nF [⟨true, 19⟩, Cell.z] = [127, 19, 0, 1] := by simp [put, anyF, rl, rlf, rn, lit, nF, uB_lo, sB_lo, Cell.z]
    rw [this]; rfl
  · rw [List.flatMap_cons, List.flatMap_cons, h1, putV_P (v := Val.z) (.inl rfl)]; rfl
end Go.Proofs.Ytdjaoonjfampmaa.Raw
