/- 'ShaParts': for every input the statement's function returns true, and the input reads as it did. No condition. -/
import Derived.Test.YtiehijephkagbaaDoorRows
import Derived.Test.YtiehijephkagbaaDoorCards
import Derived.Test.YtiehijephkagbaaDoorTie
import Derived.Test.YtiehijephkagbaaDoorZShaPartsOp
import Derived.Test.YtiehijephkagbaaDoorZShaPartsLay
import Derived.Test.YtiehijephkagbaaDoorZShaPartsShaPartsW
import Derived.Test.YtiehijephkagbaaDoorZShaPartsOpb
import Derived.WalkKit
import Derived.ProofKit
import Derived.OpenShut
import Derived.ShutString
import Derived.ChangeOld
import Derived.Below
import Derived.SizedLaws
import Derived.Deep.Grids
import Derived.Carry
import Derived.LaidMore
import Derived.Stop.Joined
import Derived.SevenTiedAt
namespace Go.Proofs.YtiehijephkagbaaDoor.shaParts
open Go Go.ChangeShapes Go.WideShapes Go.ChangeAt Go.RowKit Go.Proofs.YtiehijephkagbaaDoor.Sl
open Go.ChangeMaps (open_string shut_string)
set_option linter.unusedVariables false
theorem own : ownKnob Tryd.prog.godebug = none := by kernel_rfl
theorem laidOut : laidOutB Tryd.prog = true := by kernel_rfl
set_option maxRecDepth 100000 in
theorem lifted (os : Os) (started : os.Started) (H : Type) (enc : TypeId × Value → H) :
    ReturnsInHanded {} Tryd.checked os 6 .any (fun w args => (Rows.shaPartsSpec.pre enc Tryd.prog Tryd.f6 [] false w args ∧ laidMetH Tryd.prog Go.Proofs.YtiehijephkagbaaDoor.Sha.laidL w) ∧ sizedMet enc Tryd.prog Tryd.f6 (OpenSpec.ofChange Rows.shaPartsSpec) false w args)
      (Rows.shaPartsSpec.post enc Tryd.prog Tryd.f6 false true false false) := by
  refine returnsInHanded_of_change_and (C := Tryd.checked) (X := fun w _ => laidMetH Tryd.prog Go.Proofs.YtiehijephkagbaaDoor.Sha.laidL w) (fun _ _ _ hh h => h.of_heap hh) own started (by kernel_rfl) Tryd.func6
    (ChangeSpec.witness_shaped (enc := enc) (C := Tryd.checked) (os := os) (X := fun w _ => laidMetH Tryd.prog Go.Proofs.YtiehijephkagbaaDoor.Sha.laidL w) false (World.doorLaid Tryd.prog 400 os) #[.slice none 0 0] 8 rfl (World.shaped_of_RefB (by kernel_rfl) (by kernel_rfl)) (by kernel_rfl) (by kernel_rfl) (by kernel_rfl) (Go.Proofs.YtiehijephkagbaaDoor.Sha.door_met os _)) ?_
  intro W base args ds gs before hval0 hW _ _ hL _
  have gl := Go.Proofs.YtiehijephkagbaaDoor.Sha.of_laid hL
  have hval : ∀ (j : Nat) t v, Tryd.f6.params[j]? = some t → args[j]? = some v → Value.okWide Tryd.prog W .any base t v := hval0
  have hW' := hW
  obtain ⟨p, q, hA0, hV, rfl, hfz, hnd⟩ := hW
  have hA : DataW.TrodAll enc Tryd.prog W 0 (fun _ => true) true Tryd.f6.params.toList args.toList ds p := hA0
  rw [Tryd.params6] at hA hval
  obtain ⟨v0, vs0, d0, ds0, p0, q0, hargs, rfl, rfl, h0, r0⟩ := trodAll_cons hA
  obtain ⟨rfl, rfl, rfl⟩ := trodAll_nil r0
  obtain rfl : args = #[v0] := by cases args; simp_all
  obtain ⟨rfl, rfl⟩ := trodVars_none hV
  obtain ⟨A0, n0, c0, ev0⟩ := okWide_slice Tryd.underlying31 (hval 0 31 v0 rfl rfl)
  have k0 := h0
  have lt0 : ∀ x ∈ p0, x.block < W.heap.size := by obtain ⟨m, hm⟩ := k0; exact DataW.trod_lt m _ _ _ hm
  obtain ⟨fuel0, hf0⟩ := h0
  rw [show v0.cells.toList = [v0] by rw [ev0]; rfl] at hf0
  obtain ⟨z0, rd0, ok0⟩ := opn_slice Tryd.underlying31 (by kernel_rfl) Sha.opn_pb hf0
  clear hA0 hval0
  refine (Sha.ShaParts_law (f := .of W) (Holds.start W) gl rd0 (fun c hc => (ok0 c hc).1) (fun c hc x hx => wf_u8 ((ok0 c hc).2 x hx))).mono fun e W' ⟨vv, he, hvv, HH⟩ => ?_
  subst he; subst hvv
  have bel := HH.below
  exact ⟨_, rfl, _, _, _, [], _, [], hW', trodAll_mk1 (shut_bool Tryd.underlying4 _), (trodAll_cons_mk (Below.trod laidOut (by kernel_rfl) (of_decide_eq_true (by kernel_rfl)) k0 bel lt0) trodAll_mk0), rfl, bel.frame _, fun h => by cases h⟩
theorem over : Rows.shaPartsRow.holds Tryd.pinned (OpenSpec.ofChange Rows.shaPartsSpec) :=
  OpenClaim.holds_of_wide 6 Tryd.f6 rfl rfl rfl rfl rfl rfl rfl ⟨rfl, rfl, rfl, rfl, rfl⟩ rfl rfl rfl rfl rfl (by kernel_rfl) Tryd.func6 (by kernel_rfl)
    (of_decide_eq_true (by kernel_rfl)) (by unfold Func.isWrapper; first | (rw [if_pos (by decide +kernel)]; kernel_rfl) | (rw [if_neg (by decide +kernel)]; exact ⟨rfl, rfl⟩))
    (fun os started H enc _ => lifted os started H enc)
end Go.Proofs.YtiehijephkagbaaDoor.shaParts
namespace Go.Proofs.YtiehijephkagbaaDoor
/-- The tied card, for the claim. -/
theorem shaParts_card_holds : Rows.ShaPartsCardSaid :=
  Claim7.holds_tied_plain_at .later [] [.data, .data] true (true, "60f4179850f10c16b78af8c0522bffb0346786063870d511ebcd0c68beb479a4") false
    shaParts.over (fun _ h => by cases h) (by kernel_rfl) (fun _ h => by cases h) shaParts_row_tie rfl ⟨rfl, rfl⟩ (by kernel_rfl) rfl
    (fun f fn hf hfn => by
      obtain rfl : f = 6 := Option.some.inj ((show Tryd.prog.funcNamed "inkwell/inkwelllaw04.ShaParts" = some 6 by kernel_rfl).symm.trans hf) |>.symm
      obtain rfl : fn = Tryd.f6 := (Option.some.inj (Tryd.func6.symm.trans hfn)).symm
      exact ⟨by kernel_rfl, fun j t ht => by
        rw [Tryd.params6] at ht
        have hm : t ∈ [31] := by simpa using Array.mem_of_getElem? ht
        have hall : ([31].all fun u => !Tryd.prog.wantsStandIn u) = true := by kernel_rfl
        exact (show Tryd.prog.wantsStandIn t = false by simpa using List.all_eq_true.1 hall t hm)⟩)
    (by kernel_rfl)
end Go.Proofs.YtiehijephkagbaaDoor
