/- 'OpOrder': for every input the statement's function returns true, and the input reads as it did. No condition. -/
import Derived.Test.YtdjaoonjfampmaaRows
import Derived.Test.YtdjaoonjfampmaaZOpOrderOp
import Derived.Test.YtdjaoonjfampmaaZOpOrderOpOrderW
import Derived.Test.YtdjaoonjfampmaaZOpOrderOpO
import Derived.WalkKit
import Derived.ProofKit
import Derived.OpenShut
import Derived.ShutString
import Derived.ChangeOld
import Derived.Below
import Derived.SizedLaws
import Derived.Deep.Grids
import Derived.Carry
namespace Go.Proofs.Ytdjaoonjfampmaa.opOrder
open Go.ChangeShapes Go.WideShapes Go.ChangeAt Go.RowKit Go.Proofs.Ytdjaoonjfampmaa.Sl
open Go.ChangeMaps (open_string shut_string)
set_option linter.unusedVariables false
theorem own : ownKnob Try.prog.godebug = none := by kernel_rfl
theorem laidOut : laidOutB Try.prog = true := by kernel_rfl
set_option maxRecDepth 100000 in
theorem lifted (os : Os) (started : os.Started) (H : Type) (enc : TypeId × Value → H) :
    ReturnsInHanded {} Try.checked os 6 .any (Rows.opOrderSpec.pre6 enc Try.prog Try.f6 Rows.opOrderRow.domain false) (Rows.opOrderSpec.post enc Try.prog Try.f6 false true false false) := by
  refine returnsInHanded_of_change_sized (C := Try.checked) own started (by kernel_rfl) Try.func6
    (ChangeSpec.witness6 (enc := enc) (C := Try.checked) false ⟨#[], #[.agg #[.int .i64 0, .string ByteArray.empty], .agg #[.int .i64 0, .string ByteArray.empty], .agg #[.int .i64 0, .string ByteArray.empty]], []⟩ 8 (by kernel_rfl) (by kernel_rfl) (by kernel_rfl) (by kernel_rfl)) ?_
  intro W base args ds gs before hval0 hW hcnd hsz0 _
  have hval : ∀ (j : Nat) t v, Try.f6.params[j]? = some t → args[j]? = some v → Value.okWide Try.prog W .any base t v := hval0
  have hW' := hW
  obtain ⟨p, q, hA0, hV, rfl, hfz, hnd⟩ := hW
  have hA : DataW.TrodAll enc Try.prog W 0 (fun _ => true) true Try.f6.params.toList args.toList ds p := hA0
  rw [Try.params6] at hA hval
  obtain ⟨v0, vs0, d0, ds0, p0, q0, hargs, rfl, rfl, h0, r0⟩ := trodAll_cons hA
  obtain ⟨v1, vs1, d1, ds1, p1, q1, rfl, rfl, rfl, h1, r1⟩ := trodAll_cons r0
  obtain ⟨v2, vs2, d2, ds2, p2, q2, rfl, rfl, rfl, h2, r2⟩ := trodAll_cons r1
  obtain ⟨rfl, rfl, rfl⟩ := trodAll_nil r2
  obtain rfl : args = #[v0, v1, v2] := by cases args; simp_all
  obtain ⟨rfl, rfl⟩ := trodVars_none hV
  obtain ⟨cs0, ev0, hs0⟩ := okWide_struct Try.underlying41 (hval 0 41 v0 rfl rfl)
  have k0 := h0
  have lt0 : ∀ x ∈ p0, x.block < W.heap.size := by obtain ⟨m, hm⟩ := k0; exact DataW.trod_lt m _ _ _ hm
  obtain ⟨fuel0, hf0⟩ := h0
  rw [show v0.cells.toList = cs0.toList by rw [ev0]; rfl] at hf0
  obtain ⟨z0, ez0, ok0⟩ := Ops.opn_oid H enc W _ _ _ fuel0 _ _ hf0
  obtain rfl : v0 = .agg (Fl.enc _ z0).toArray := by rw [ev0, ← ez0]; try simp
  obtain ⟨cs1, ev1, hs1⟩ := okWide_struct Try.underlying41 (hval 1 41 v1 rfl rfl)
  have k1 := h1
  have lt1 : ∀ x ∈ p1, x.block < W.heap.size := by obtain ⟨m, hm⟩ := k1; exact DataW.trod_lt m _ _ _ hm
  obtain ⟨fuel1, hf1⟩ := h1
  rw [show v1.cells.toList = cs1.toList by rw [ev1]; rfl] at hf1
  obtain ⟨z1, ez1, ok1⟩ := Ops.opn_oid H enc W _ _ _ fuel1 _ _ hf1
  obtain rfl : v1 = .agg (Fl.enc _ z1).toArray := by rw [ev1, ← ez1]; try simp
  obtain ⟨cs2, ev2, hs2⟩ := okWide_struct Try.underlying41 (hval 2 41 v2 rfl rfl)
  have k2 := h2
  have lt2 : ∀ x ∈ p2, x.block < W.heap.size := by obtain ⟨m, hm⟩ := k2; exact DataW.trod_lt m _ _ _ hm
  obtain ⟨fuel2, hf2⟩ := h2
  rw [show v2.cells.toList = cs2.toList by rw [ev2]; rfl] at hf2
  obtain ⟨z2, ez2, ok2⟩ := Ops.opn_oid H enc W _ _ _ fuel2 _ _ hf2
  obtain rfl : v2 = .agg (Fl.enc _ z2).toArray := by rw [ev2, ← ez2]; try simp
  clear hA0 hval0 hsz0
  refine (Ops.OpOrder_law (f := .of W) (Holds.start W) ok0.2 ok1.2 ok2.2).mono fun e W' ⟨vv, he, hvv, HH⟩ => ?_
  subst he; subst hvv
  have bel := HH.below
  exact ⟨_, rfl, _, _, _, [], _, [], hW', trodAll_mk1 (shut_bool Try.underlying4 _), (trodAll_cons_mk (Below.trod laidOut (by kernel_rfl) (of_decide_eq_true (by kernel_rfl)) k0 bel lt0) (trodAll_cons_mk (Below.trod laidOut (by kernel_rfl) (of_decide_eq_true (by kernel_rfl)) k1 bel lt1) (trodAll_cons_mk (Below.trod laidOut (by kernel_rfl) (of_decide_eq_true (by kernel_rfl)) k2 bel lt2) trodAll_mk0))), rfl, bel.frame _, fun h => by cases h⟩
theorem over : Rows.opOrderRow.holds Try.pinned (OpenSpec.ofChange Rows.opOrderSpec) :=
  OpenClaim.holds_of_wide 6 Try.f6 rfl rfl rfl rfl rfl rfl rfl ⟨rfl, rfl, rfl, rfl, rfl⟩ rfl rfl rfl rfl rfl (by kernel_rfl) Try.func6 (by kernel_rfl)
    (of_decide_eq_true (by kernel_rfl)) (by unfold Func.isWrapper; first | (rw [if_pos (by decide +kernel)]; kernel_rfl) | (rw [if_neg (by decide +kernel)]; exact ⟨rfl, rfl⟩))
    (fun os started H enc _ => lifted os started H enc)
theorem proved : Rows.OpOrderSaid := over
end Go.Proofs.Ytdjaoonjfampmaa.opOrder
namespace Go.Proofs.Ytdjaoonjfampmaa
/-- The row, under a short name, for the claim. -/
theorem opOrder_holds : Rows.OpOrderSaid := opOrder.proved
end Go.Proofs.Ytdjaoonjfampmaa
