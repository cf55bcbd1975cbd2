/- 'TopPressed': for every input the statement's function returns true, and the input reads as it did. No condition but that the six package-level variables listed hold what the program's text lays in them, to which the card ties them. -/
import Derived.Test.YtgphajeagfgmmaaGreatDoorMTopPressedF
import Derived.Test.YtgphajeagfgmmaaGreatDoorRows
import Derived.Test.YtgphajeagfgmmaaGreatDoorCards
import Derived.Test.YtgphajeagfgmmaaGreatDoorTie
import Derived.WalkKit
import Derived.ProofKit
import Derived.OpenShut
import Derived.ShutString
import Derived.ChangeOld
import Derived.Below
import Derived.SizedLaws
import Derived.Deep.Grids
import Derived.Carry
import Derived.LaidMore
import Derived.Stop.Joined
import Derived.SevenTiedAt
import Derived.JoinedOf
namespace Go.Proofs.YtgphajeagfgmmaaGreatDoor.topPressed
open Go Go.ChangeShapes Go.WideShapes Go.ChangeAt Go.RowKit Go.Proofs.YtgphajeagfgmmaaGreatDoor.Sl
open Go.ChangeMaps (open_string shut_string)
set_option linter.unusedVariables false
theorem own : ownKnob Tryz.prog.godebug = none := by kernel_rfl
set_option maxRecDepth 100000 in
theorem lifted (os : Os) (started : os.Started) (H : Type) (enc : TypeId × Value → H) :
    ReturnsInHanded {} Tryz.checked os 4 .any (fun w args => (Rows.topPressedSpec.pre enc Tryz.prog Tryz.f4 [] false w args ∧ laidMetH Tryz.prog Go.Proofs.YtgphajeagfgmmaaGreatDoor.Sha.laidL w) ∧ sizedMet enc Tryz.prog Tryz.f4 (OpenSpec.ofChange Rows.topPressedSpec) false w args)
      (Rows.topPressedSpec.post enc Tryz.prog Tryz.f4 false true false false) := by
  refine returnsInHanded_of_change_and (C := Tryz.checked) (X := fun w _ => laidMetH Tryz.prog Go.Proofs.YtgphajeagfgmmaaGreatDoor.Sha.laidL w) (fun _ _ _ hh h => h.of_heap hh) own started (by kernel_rfl) Tryz.func4
    (ChangeSpec.witness_shaped (enc := enc) (C := Tryz.checked) (os := os) (X := fun w _ => laidMetH Tryz.prog Go.Proofs.YtgphajeagfgmmaaGreatDoor.Sha.laidL w) false (World.doorLaid Tryz.prog 400 os) #[.int .u8 0, .int .u16 0, .string ByteArray.empty] 8 rfl (World.shaped_of_RefB (by kernel_rfl) (by kernel_rfl)) (by kernel_rfl) (by kernel_rfl) (by kernel_rfl) (Go.Proofs.YtgphajeagfgmmaaGreatDoor.Sha.door_met os _)) ?_
  intro W base args ds gs before hval0 hW _ _ hL _
  have gl := Go.Proofs.YtgphajeagfgmmaaGreatDoor.Sha.of_laid hL
  have hval : ∀ (j : Nat) t v, Tryz.f4.params[j]? = some t → args[j]? = some v → Value.okWide Tryz.prog W .any base t v := hval0
  have hW' := hW
  obtain ⟨p, q, hA0, hV, rfl, hfz, hnd⟩ := hW
  have hA : DataW.TrodAll enc Tryz.prog W 0 (fun _ => true) true Tryz.f4.params.toList args.toList ds p := hA0
  rw [Tryz.params4] at hA hval
  obtain ⟨v0, vs0, d0, ds0, p0, q0, hargs, rfl, rfl, h0, r0⟩ := trodAll_cons hA
  obtain ⟨v1, vs1, d1, ds1, p1, q1, rfl, rfl, rfl, h1, r1⟩ := trodAll_cons r0
  obtain ⟨v2, vs2, d2, ds2, p2, q2, rfl, rfl, rfl, h2, r2⟩ := trodAll_cons r1
  obtain ⟨rfl, rfl, rfl⟩ := trodAll_nil r2
  obtain rfl : args = #[v0, v1, v2] := by cases args; simp_all
  obtain ⟨rfl, rfl⟩ := trodVars_none hV
  obtain ⟨a0, rfl, rfl, rfl, wf0⟩ := open_int Tryz.underlying5 (hval 0 5 v0 rfl rfl) h0
  have w0 := wf_u8 wf0
  obtain ⟨a1, rfl, rfl, rfl, wf1⟩ := open_int Tryz.underlying34 (hval 1 34 v1 rfl rfl) h1
  have w1 := wf_u16 wf1
  obtain ⟨a2, rfl, rfl, rfl, y2⟩ := open_string Tryz.underlying9 (hval 2 9 v2 rfl rfl) h2
  clear hA0 hval0
  refine (Top.TopPressed_spec (f := .of W) (Holds.start W) gl (by have := w0; omega) (by have := w1; omega)).mono fun e W' ⟨vv, he, hvv, HH⟩ => ?_
  subst he; subst hvv
  have bel := HH.below
  exact ⟨_, rfl, _, _, _, [], _, [], hW', trodAll_mk1 (shut_bool Tryz.underlying4 _), (trodAll_cons_mk (shut_int Tryz.underlying5 wf0) (trodAll_cons_mk (shut_int Tryz.underlying34 wf1) (trodAll_cons_mk (shut_string Tryz.underlying9 y2) trodAll_mk0))), rfl, bel.frame _, fun h => by cases h⟩
theorem over : Rows.topPressedRow.holds Tryz.pinned (OpenSpec.ofChange Rows.topPressedSpec) :=
  OpenClaim.holds_of_wide 4 Tryz.f4 rfl rfl rfl rfl rfl rfl rfl ⟨rfl, rfl, rfl, rfl, rfl⟩ rfl rfl rfl rfl rfl fnamed Tryz.func4 closed inst wrap
    (fun os started H enc _ => lifted os started H enc)
end Go.Proofs.YtgphajeagfgmmaaGreatDoor.topPressed
namespace Go.Proofs.YtgphajeagfgmmaaGreatDoor
/-- The tied card, for the claim. -/
theorem topPressed_card_holds : Rows.TopPressedCardSaid :=
  Claim7.holds_tied_plain_at .later [] [.widerDeep, .widerDeep, .data, .data, .widerDeep, .widerDeep] true (true, "2d0e1a759afa9119f72921c09b13dea249061e0be8f41a747cf4f865bf7bcf8f") true
    topPressed.over (fun _ h => by cases h) topPressed.byText (fun _ h => by cases h) topPressed_row_tie rfl ⟨rfl, rfl⟩ topPressed.mainIs rfl
    (fun f fn hf hfn => by
      obtain rfl : f = 4 := Option.some.inj (topPressed.fnamed.symm.trans hf) |>.symm
      obtain rfl : fn = Tryz.f4 := (Option.some.inj (Tryz.func4.symm.trans hfn)).symm
      exact ⟨topPressed.looks, fun j t ht => by
        rw [Tryz.params4] at ht
        have hm : t ∈ [5, 34, 9] := by simpa using Array.mem_of_getElem? ht
        exact (show Tryz.prog.wantsStandIn t = false by simpa using List.all_eq_true.1 topPressed.noStand t hm)⟩)
    topPressed.goes
end Go.Proofs.YtgphajeagfgmmaaGreatDoor
