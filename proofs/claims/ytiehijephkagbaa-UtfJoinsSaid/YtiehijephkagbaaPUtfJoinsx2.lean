-- PRINTED BY print.sh 35421559b90ae4d0a3588c463048766b98c2df88dd9212a6774a882060cdf62d: not written by this session
import Derived.Test.YtiehijephkagbaaPUtfJoinsx0
import Derived.Test.YtiehijephkagbaaPUtfJoinsx1
namespace Go.Proofs.Ytiehijephkagbaa.PUtfJoins
open Go.RowKit Go.Proofs.YtiehijephkagbaaW.PrintWords Go.Proofs.YtiehijephkagbaaW.PrintLast Go.Proofs.YtiehijephkagbaaW.PrintMore
attribute [local go_sem] max2_int min2_int max_two min_two max_three min_three max_four min_four   -- for this text's walks alone
set_option linter.unusedVariables false
set_option linter.unusedSimpArgs false

/-! ### inkwelllaw03_awake: function 8 -/
def inkwelllaw03_awake.f (k : Nat)  : Option (Bool) := (utf_Next.f k (⟨#[226, 130, 172]⟩ : ByteArray)).bind fun t107 => (if t107 = 3 then ((utf_Where.f k (⟨#[97, 255]⟩ : ByteArray)).bind fun t108 => (if t108 = 1 then ((utf_Valid.f k (([(⟨#[97]⟩ : ByteArray), (⟨#[]⟩ : ByteArray)] : List ByteArray))).bind fun t112 => (some t112)) else (some false))) else (some false))
theorem inkwelllaw03_awake.mono : ∀ k, LeO (inkwelllaw03_awake.f k ) (inkwelllaw03_awake.f (k + 1) ) := by
  intro  k
  unfold inkwelllaw03_awake.f
  repeat' first
      | (with_reducible exact utf_Next.mono _ _)
      | (with_reducible exact utf_Valid.mono _ _)
      | (with_reducible exact utf_Where.mono _ _)
      | (with_reducible exact LeO.refl _)
      | (with_reducible exact LeO.none _)
      | (with_reducible refine LeO.ite ?_ ?_)
      | (with_reducible refine LeO.bind ?_ (fun _ => ?_))
      | exact utf_Next.mono _ _
      | exact utf_Valid.mono _ _
      | exact utf_Where.mono _ _
      | exact LeO.none _
      | refine LeO.ite ?_ ?_
      | refine LeO.bind ?_ (fun _ => ?_)
set_option maxHeartbeats 8000000 in
set_option maxRecDepth 100000 in
theorem inkwelllaw03_awake.calls (k : Nat)  (r : Bool) (w : World) (h : inkwelllaw03_awake.f k  = some r) :
    Calls Try.prog 8 #[] w fun e w' => e = .returned (.bool r) ∧ Below w.heap.size w w' := by
  have HB := Aside0.mk (Below.refl w.heap.size w)
  have H : ((utf_Next.f k (⟨#[226, 130, 172]⟩ : ByteArray)).bind fun t107 => (if t107 = 3 then ((utf_Where.f k (⟨#[97, 255]⟩ : ByteArray)).bind fun t108 => (if t108 = 1 then ((utf_Valid.f k (([(⟨#[97]⟩ : ByteArray), (⟨#[]⟩ : ByteArray)] : List ByteArray))).bind fun t112 => (some t112)) else (some false))) else (some false))) = some r := h
  clear h
  replace H := Option.bind_eq_some_iff.mp H
  obtain ⟨t107, A10, H⟩ := H
  replace H : (if t107 = 3 then ((utf_Where.f k (⟨#[97, 255]⟩ : ByteArray)).bind fun t108 => (if t108 = 1 then ((utf_Valid.f k (([(⟨#[97]⟩ : ByteArray), (⟨#[]⟩ : ByteArray)] : List ByteArray))).bind fun t112 => (some t112)) else (some false))) else (some false)) = some r := H
  have A1 := Aside0.mk A10
  clear A10
  by_cases c2 : t107 = 3
  · rw [if_pos c2] at H
    have c2b0 : (t107 == 3) = true := beq_iff_eq.mpr c2
    have c2b1 : (t107 != 3) = false := bne_eq_false_iff_eq.mpr c2
    clear c2
    replace H := Option.bind_eq_some_iff.mp H
    obtain ⟨t108, A30, H⟩ := H
    replace H : (if t108 = 1 then ((utf_Valid.f k (([(⟨#[97]⟩ : ByteArray), (⟨#[]⟩ : ByteArray)] : List ByteArray))).bind fun t112 => (some t112)) else (some false)) = some r := H
    have A3 := Aside0.mk A30
    clear A30
    by_cases c4 : t108 = 1
    · rw [if_pos c4] at H
      have c4b0 : (t108 == 1) = true := beq_iff_eq.mpr c4
      have c4b1 : (t108 != 1) = false := bne_eq_false_iff_eq.mpr c4
      clear c4
      obtain ⟨y109, hy109⟩ : ∃ y_ : List ByteArray, y_ = (([(⟨#[97]⟩ : ByteArray), (⟨#[]⟩ : ByteArray)] : List ByteArray)) := ⟨_, rfl⟩
      replace H : ((utf_Valid.f k y109).bind fun t112 => (some t112)) = some r := by first | (rw [hy109]; with_reducible exact H) | (have H2_ := (Option.bind_some _ _).symm.trans H; rw [hy109]; with_reducible exact H2_) | (have H2_ := (Option.bind_some _ _).symm.trans H; with_reducible exact H2_) | with_reducible exact H | (rw [hy109]; exact H) | exact H
      have Ny109 := Aside0.mk hy109
      clear hy109
      replace H := Option.bind_eq_some_iff.mp H
      obtain ⟨t112, A50, H⟩ := H
      replace H : (some t112) = some r := H
      have A5 := Aside0.mk A50
      clear A50
      obtain rfl := Option.some.inj H
      go_enter Try.func8, Try.ntmps8
      go_wp2_with (first | ((with_reducible refine gate_callee (f := 10) rfl ?_); refine goesL_ (some 1) rfl rfl Try.func10 (by kernel_rfl) rfl #[.string (⟨#[226, 130, 172]⟩ : ByteArray)] rfl (by (try simp only [List.map_toArray, List.map_cons, List.map_nil]); first | done | rfl | (simp only [List.length_drop, List.length_take]; rfl)) ?_; (with_reducible refine (utf_Next.calls k (⟨#[226, 130, 172]⟩ : ByteArray) t107 _ A1.out).mono ?_); rintro e w' ⟨rfl, ⟨nd, rfl⟩⟩; refine ⟨_, rfl, ?_⟩) | (go_at_call 12; (with_reducible refine (utf_Where.calls k (⟨#[97, 255]⟩ : ByteArray) t108 _ A3.out).mono ?_); rintro e w' ⟨rfl, ⟨nd, rfl⟩⟩) | ((with_reducible refine gate_dst (N := 8) rfl ?_); (try (refine gate_guard (by rfl) ?_; dsimp only)); refine Kd.R_lit Kd.string _ 9 ?hg (N := 8) ?hd (xs := ([(⟨#[97]⟩ : ByteArray), (⟨#[]⟩ : ByteArray)] : List ByteArray)) (inner := [.string (⟨#[97]⟩ : ByteArray), .string (⟨#[]⟩ : ByteArray)]) (ok := fun _ => True) (okp := fun _ => True) ?hr ?hp (fun _ hk => hk) trivial (Below.refl _ _) (Nat.le_refl _) (by simp) ?_; (case hd => rfl); (case hg => rfl); (case hr => first | (go_simp; done) | (go_simp; rfl)); (case hp => exact (Reps.one (show Kd.M Kd.string _ _ _ (⟨#[97]⟩ : ByteArray) [.string (⟨#[97]⟩ : ByteArray)] from rfl) (Reps.one (show Kd.M Kd.string _ _ _ (⟨#[]⟩ : ByteArray) [.string (⟨#[]⟩ : ByteArray)] from rfl) (Reps.none _ _)))); intro v110 w6 ho7 hb hg_ hnew_; clear hg_ hnew_; (first | rw [← Ny109.out] at ho7 | (simp only [Int.reduceToNat] at ho7; rw [← Ny109.out] at ho7)); have n0_ := Aside0.mk (Kd.R_lower ho7 (below_size (by repeat (first | (with_reducible first | exact HB.out | apply below_alloc | apply pw_below_drewN | apply below_drew1) | exact HB.out)))); have n1_ := Aside0.mk (below_step (by repeat (first | (with_reducible first | exact HB.out | apply below_alloc | apply pw_below_drewN | apply below_drew1) | exact HB.out)) hb); clear HB; have HO111 := n0_; have HB := n1_; clear n0_ n1_; clear hb ho7; obtain ⟨Ao8, co8, eo8⟩ := Kd.R_slice HO111.out; subst eo8) | (go_at_call 13; (with_reducible refine (utf_Valid.calls k _ _ y109 t112 _ ?side1 ?side2 A5.out).mono ?_); (case side1 => repeat (first | exact (Kd.R_reads' HO111.out).2.2 | (with_reducible refine Kd.C_alloc ?_ _) | (with_reducible refine Kd.C_drewN ?_ _) | (with_reducible refine Kd.C_drew ?_))); (case side2 => exact (Kd.R_reads' HO111.out).2.1); rintro e w' ⟨rfl, ⟨nd, rfl⟩⟩))
      go_ret
      exact ⟨by first | rfl | (simp [errW_none, errW_some] <;> rfl) | (simp [*, errW_none, errW_some] <;> rfl), by repeat (first | (with_reducible first | exact HB.out | apply below_alloc | apply pw_below_drewN | apply below_drew1) | exact HB.out)⟩
    · rw [if_neg c4] at H
      have c4b0 : (t108 == 1) = false := beq_eq_false_iff_ne.mpr c4
      have c4b1 : (t108 != 1) = true := bne_iff_ne.mpr c4
      obtain rfl := Option.some.inj H
      go_enter Try.func8, Try.ntmps8
      go_wp2_with (first | ((with_reducible refine gate_callee (f := 10) rfl ?_); refine goesL_ (some 1) rfl rfl Try.func10 (by kernel_rfl) rfl #[.string (⟨#[226, 130, 172]⟩ : ByteArray)] rfl (by (try simp only [List.map_toArray, List.map_cons, List.map_nil]); first | done | rfl | (simp only [List.length_drop, List.length_take]; rfl)) ?_; (with_reducible refine (utf_Next.calls k (⟨#[226, 130, 172]⟩ : ByteArray) t107 _ A1.out).mono ?_); rintro e w' ⟨rfl, ⟨nd, rfl⟩⟩; refine ⟨_, rfl, ?_⟩) | (go_at_call 12; (with_reducible refine (utf_Where.calls k (⟨#[97, 255]⟩ : ByteArray) t108 _ A3.out).mono ?_); rintro e w' ⟨rfl, ⟨nd, rfl⟩⟩))
      go_ret
      exact ⟨by first | rfl | (simp [errW_none, errW_some] <;> rfl) | (simp [*, errW_none, errW_some] <;> rfl), by repeat (first | (with_reducible first | exact HB.out | apply below_alloc | apply pw_below_drewN | apply below_drew1) | exact HB.out)⟩
  · rw [if_neg c2] at H
    have c2b0 : (t107 == 3) = false := beq_eq_false_iff_ne.mpr c2
    have c2b1 : (t107 != 3) = true := bne_iff_ne.mpr c2
    obtain rfl := Option.some.inj H
    go_enter Try.func8, Try.ntmps8
    go_wp2_with (first | ((with_reducible refine gate_callee (f := 10) rfl ?_); refine goesL_ (some 1) rfl rfl Try.func10 (by kernel_rfl) rfl #[.string (⟨#[226, 130, 172]⟩ : ByteArray)] rfl (by (try simp only [List.map_toArray, List.map_cons, List.map_nil]); first | done | rfl | (simp only [List.length_drop, List.length_take]; rfl)) ?_; (with_reducible refine (utf_Next.calls k (⟨#[226, 130, 172]⟩ : ByteArray) t107 _ A1.out).mono ?_); rintro e w' ⟨rfl, ⟨nd, rfl⟩⟩; refine ⟨_, rfl, ?_⟩))
    go_ret
    exact ⟨by first | rfl | (simp [errW_none, errW_some] <;> rfl) | (simp [*, errW_none, errW_some] <;> rfl), by repeat (first | (with_reducible first | exact HB.out | apply below_alloc | apply pw_below_drewN | apply below_drew1) | exact HB.out)⟩

/-! ### inkwelllaw03_UtfJoins: function 5 -/
def inkwelllaw03_UtfJoins.j0 : Nat → ByteArray → ByteArray → Bool → Option (Bool)
  | 0, _, _, _ => none
  | k + 1, x0, x1, x18 => if x18 = true then ((inkwelllaw03_awake.f k).bind fun t114 => (some t114)) else ((utf_Where.f k x0).bind fun t115 => ((utf_Where.f k x1).bind fun t116 => (if t115 = (x0.size : Int) then (if x0.size + x1.size ≤ 9223372036854775807 then ((utf_Where.f k (x0 ++ x1)).bind fun t117 => (some (t117 == (wrap64 (t115 + t116))))) else (none)) else (if 0 ≤ t115 then (if t115 ≤ (x0.size : Int) then ((utf_Valid.f k (([x0.extract 0 (t115 : Int).toNat] : List ByteArray))).bind fun t121 => (if t121 = true then (if x0.size + x1.size ≤ 9223372036854775807 then ((utf_Where.f k (x0 ++ x1)).bind fun t122 => (if t122 ≥ t115 then (if (x0.extract 0 (t115 : Int).toNat).size + x1.size ≤ 9223372036854775807 then ((utf_Where.f k ((x0.extract 0 (t115 : Int).toNat) ++ x1)).bind fun t123 => (some (t123 == (wrap64 (t115 + t116))))) else (none)) else (some false))) else (none)) else (some false))) else (none)) else (none)))))
def inkwelllaw03_UtfJoins.f (k : Nat) (a0 : ByteArray) (a1 : ByteArray) : Option (Bool) := (inkwelllaw03_awake.f k).bind fun t113 => (if t113 = true then (if (a0.size : Int) > 2000 then (inkwelllaw03_UtfJoins.j0 k a0 a1 true) else (inkwelllaw03_UtfJoins.j0 k a0 a1 (decide ((a1.size : Int) > 2000)))) else (inkwelllaw03_UtfJoins.j0 k a0 a1 true))
theorem inkwelllaw03_UtfJoins.mono_l : ∀ k, (∀ y0 y1 y2, LeO (inkwelllaw03_UtfJoins.j0 k y0 y1 y2) (inkwelllaw03_UtfJoins.j0 (k + 1) y0 y1 y2))
  | 0 => fun _ _ _ r h => by simp [inkwelllaw03_UtfJoins.j0] at h
  | k + 1 => by
    have ih0 := inkwelllaw03_UtfJoins.mono_l k
    · intro y0 y1 y2
      unfold inkwelllaw03_UtfJoins.j0
      repeat' first
      | (with_reducible exact ih0 _ _ _)
      | (with_reducible exact inkwelllaw03_awake.mono _)
      | (with_reducible exact utf_Valid.mono _ _)
      | (with_reducible exact utf_Where.mono _ _)
      | (with_reducible exact LeO.refl _)
      | (with_reducible exact LeO.none _)
      | (with_reducible refine LeO.ite ?_ ?_)
      | (with_reducible refine LeO.bind ?_ (fun _ => ?_))
      | exact ih0 _ _ _
      | exact inkwelllaw03_awake.mono _
      | exact utf_Valid.mono _ _
      | exact utf_Where.mono _ _
      | exact LeO.none _
      | refine LeO.ite ?_ ?_
      | refine LeO.bind ?_ (fun _ => ?_)
theorem inkwelllaw03_UtfJoins.mono : ∀ a0 a1 k, LeO (inkwelllaw03_UtfJoins.f k a0 a1) (inkwelllaw03_UtfJoins.f (k + 1) a0 a1) := by
  intro a0 a1 k
  have ih0 := inkwelllaw03_UtfJoins.mono_l k
  unfold inkwelllaw03_UtfJoins.f
  repeat' first
      | (with_reducible exact ih0 _ _ _)
      | (with_reducible exact inkwelllaw03_awake.mono _)
      | (with_reducible exact utf_Valid.mono _ _)
      | (with_reducible exact utf_Where.mono _ _)
      | (with_reducible exact LeO.refl _)
      | (with_reducible exact LeO.none _)
      | (with_reducible refine LeO.ite ?_ ?_)
      | (with_reducible refine LeO.bind ?_ (fun _ => ?_))
      | exact ih0 _ _ _
      | exact inkwelllaw03_awake.mono _
      | exact utf_Valid.mono _ _
      | exact utf_Where.mono _ _
      | exact LeO.none _
      | refine LeO.ite ?_ ?_
      | refine LeO.bind ?_ (fun _ => ?_)
set_option maxHeartbeats 8000000 in
set_option maxRecDepth 100000 in
theorem inkwelllaw03_UtfJoins.calls (k : Nat) (a0 : ByteArray) (a1 : ByteArray) (r : Bool) (w : World) (h : inkwelllaw03_UtfJoins.f k a0 a1 = some r) :
    Calls Try.prog 5 #[.string a0, .string a1] w fun e w' => e = .returned (.bool r) ∧ Below w.heap.size w w' := by
  have HB := Aside0.mk (Below.refl w.heap.size w)
  have H : ((inkwelllaw03_awake.f k).bind fun t113 => (if t113 = true then (if (a0.size : Int) > 2000 then (inkwelllaw03_UtfJoins.j0 k a0 a1 true) else (inkwelllaw03_UtfJoins.j0 k a0 a1 (decide ((a1.size : Int) > 2000)))) else (inkwelllaw03_UtfJoins.j0 k a0 a1 true))) = some r := h
  clear h
  have HC3 := Aside0.mk H
  clear H
  go_enter Try.func5, Try.ntmps5
  go_upto_region 1 with (fail)
  go_cut [18] (fun v18 wc => ∃ (kq : Nat) (x18_2 : Bool), v18 = .bool x18_2 ∧ Aside0 (inkwelllaw03_UtfJoins.j0 kq a0 a1 x18_2 = some r) ∧ Aside0 (kq ≤ k) ∧ Aside0 (Below w.heap.size w wc))
  case first =>
    have H := HC3.out
    clear HC3
    replace H := Option.bind_eq_some_iff.mp H
    obtain ⟨t113, A40, H⟩ := H
    replace H : (if t113 = true then (if (a0.size : Int) > 2000 then (inkwelllaw03_UtfJoins.j0 k a0 a1 true) else (inkwelllaw03_UtfJoins.j0 k a0 a1 (decide ((a1.size : Int) > 2000)))) else (inkwelllaw03_UtfJoins.j0 k a0 a1 true)) = some r := H
    have A4 := Aside0.mk A40
    clear A40
    by_cases c5 : t113 = true
    · subst c5
      have H1 : (if (a0.size : Int) > 2000 then (inkwelllaw03_UtfJoins.j0 k a0 a1 true) else (inkwelllaw03_UtfJoins.j0 k a0 a1 (decide ((a1.size : Int) > 2000)))) = some r := by rw [if_pos rfl] at H; exact H
      clear H
      have H := H1
      clear H1
      by_cases c6 : (a0.size : Int) > 2000
      · rw [if_pos c6] at H
        have c6b0 : decide (2000 < (a0.size : Int)) = true := decide_eq_true c6
        have c6b1 : decide (2000 < a0.size) = true := decide_eq_true (by omega)
        clear c6
        (first | rw [c6b0] | (simp only [i64_w, i32_w]; rw [c6b0]) | skip)
        have H' := Aside0.mk H
        clear H
        go_wp2_with (first | ((with_reducible refine gate_callee (f := 8) rfl ?_); refine goesL_ (some 7) rfl rfl Try.func8 (by kernel_rfl) rfl #[] rfl (by (try simp only [List.map_toArray, List.map_cons, List.map_nil]); first | done | rfl | (simp only [List.length_drop, List.length_take]; rfl)) ?_; (with_reducible refine (inkwelllaw03_awake.calls k  true _ A4.out).mono ?_); rintro e w7 ⟨rfl, hb⟩; refine ⟨_, rfl, ?_⟩; have n0_ := Aside0.mk (below_step (by repeat (first | (with_reducible first | exact HB.out | apply below_alloc | apply pw_below_drewN | apply below_drew1) | exact HB.out)) hb); clear HB; have HB := n0_; clear n0_; (try clear hb); (try clear hb2); (try clear hk); (try clear hi)))
        go_meet
        case rel => exact ⟨_, (true), (by first | rfl | (simp; done) | (simp [*]; done)), H', ⟨by first | omega | exact Nat.le_refl _⟩, ⟨by repeat (first | (with_reducible first | exact HB.out | apply below_alloc | apply pw_below_drewN | apply below_drew1) | exact HB.out)⟩⟩
      · rw [if_neg c6] at H
        have c6b0 : decide (2000 < (a0.size : Int)) = false := decide_eq_false c6
        have c6b1 : decide (2000 < a0.size) = false := decide_eq_false (by omega)
        clear c6
        (first | rw [c6b0] | (simp only [i64_w, i32_w]; rw [c6b0]) | skip)
        have H' := Aside0.mk H
        clear H
        go_wp2_with (first | ((with_reducible refine gate_callee (f := 8) rfl ?_); refine goesL_ (some 7) rfl rfl Try.func8 (by kernel_rfl) rfl #[] rfl (by (try simp only [List.map_toArray, List.map_cons, List.map_nil]); first | done | rfl | (simp only [List.length_drop, List.length_take]; rfl)) ?_; (with_reducible refine (inkwelllaw03_awake.calls k  true _ A4.out).mono ?_); rintro e w8 ⟨rfl, hb⟩; refine ⟨_, rfl, ?_⟩; have n0_ := Aside0.mk (below_step (by repeat (first | (with_reducible first | exact HB.out | apply below_alloc | apply pw_below_drewN | apply below_drew1) | exact HB.out)) hb); clear HB; have HB := n0_; clear n0_; (try clear hb); (try clear hb2); (try clear hk); (try clear hi)))
        go_meet
        case rel => exact ⟨_, (decide ((a1.size : Int) > 2000)), (by first | rfl | (simp; done) | (simp [*]; done)), H', ⟨by first | omega | exact Nat.le_refl _⟩, ⟨by repeat (first | (with_reducible first | exact HB.out | apply below_alloc | apply pw_below_drewN | apply below_drew1) | exact HB.out)⟩⟩
    · replace c5 := Bool.eq_false_iff.mpr c5
      subst c5
      have H1 : (inkwelllaw03_UtfJoins.j0 k a0 a1 true) = some r := by rw [if_neg (show ¬ (false = true) by decide)] at H; exact H
      clear H
      have H := H1
      clear H1
      have H' := Aside0.mk H
      clear H
      go_wp2_with (first | ((with_reducible refine gate_callee (f := 8) rfl ?_); refine goesL_ (some 7) rfl rfl Try.func8 (by kernel_rfl) rfl #[] rfl (by (try simp only [List.map_toArray, List.map_cons, List.map_nil]); first | done | rfl | (simp only [List.length_drop, List.length_take]; rfl)) ?_; (with_reducible refine (inkwelllaw03_awake.calls k  false _ A4.out).mono ?_); rintro e w9 ⟨rfl, hb⟩; refine ⟨_, rfl, ?_⟩; have n0_ := Aside0.mk (below_step (by repeat (first | (with_reducible first | exact HB.out | apply below_alloc | apply pw_below_drewN | apply below_drew1) | exact HB.out)) hb); clear HB; have HB := n0_; clear n0_; (try clear hb); (try clear hb2); (try clear hk); (try clear hi)))
      go_meet
      case rel => exact ⟨_, (true), (by first | rfl | (simp; done) | (simp [*]; done)), H', ⟨by first | omega | exact Nat.le_refl _⟩, ⟨by repeat (first | (with_reducible first | exact HB.out | apply below_alloc | apply pw_below_drewN | apply below_drew1) | exact HB.out)⟩⟩
  case rest =>
    clear HC3
    try clear p2
    try clear c5
    try clear c6
    try clear c6b0
    try clear c6b1
    try clear c8
    obtain ⟨kq, x18_2, rfl, HA, HJ2, HB⟩ := hcut
    cases kq with
    | zero => exact absurd HA.out (by simp [inkwelllaw03_UtfJoins.j0])
    | succ kj2 =>
      have H := HA.out
      clear HA
      simp only [inkwelllaw03_UtfJoins.j0] at H
      by_cases c10 : x18_2 = true
      · subst c10
        have H1 : ((inkwelllaw03_awake.f kj2).bind fun t114 => (some t114)) = some r := by rw [if_pos rfl] at H; exact H
        clear H
        have H := H1
        clear H1
        replace H := Option.bind_eq_some_iff.mp H
        obtain ⟨t114, A110, H⟩ := H
        replace H : (some t114) = some r := H
        have A11 := Aside0.mk A110
        clear A110
        obtain rfl := Option.some.inj H
        go_wp2_with (first | ((with_reducible refine gate_callee (f := 8) rfl ?_); refine goesL_ (some 19) rfl rfl Try.func8 (by kernel_rfl) rfl #[] rfl (by (try simp only [List.map_toArray, List.map_cons, List.map_nil]); first | done | rfl | (simp only [List.length_drop, List.length_take]; rfl)) ?_; (with_reducible refine (inkwelllaw03_awake.calls kj2  t114 _ A11.out).mono ?_); rintro e w12 ⟨rfl, hb⟩; refine ⟨_, rfl, ?_⟩; have n0_ := Aside0.mk (below_step (by repeat (first | (with_reducible first | exact HB.out | apply below_alloc | apply pw_below_drewN | apply below_drew1) | exact HB.out)) hb); clear HB; have HB := n0_; clear n0_; (try clear hb); (try clear hb2); (try clear hk); (try clear hi)))
        go_ret
        exact ⟨by first | rfl | (simp [errW_none, errW_some] <;> rfl) | (simp [*, errW_none, errW_some] <;> rfl), by repeat (first | (with_reducible first | exact HB.out | apply below_alloc | apply pw_below_drewN | apply below_drew1) | exact HB.out)⟩
      · replace c10 := Bool.eq_false_iff.mpr c10
        subst c10
        have H1 : ((utf_Where.f kj2 a0).bind fun t115 => ((utf_Where.f kj2 a1).bind fun t116 => (if t115 = (a0.size : Int) then (if a0.size + a1.size ≤ 9223372036854775807 then ((utf_Where.f kj2 (a0 ++ a1)).bind fun t117 => (some (t117 == (wrap64 (t115 + t116))))) else (none)) else (if 0 ≤ t115 then (if t115 ≤ (a0.size : Int) then ((utf_Valid.f kj2 (([a0.extract 0 (t115 : Int).toNat] : List ByteArray))).bind fun t121 => (if t121 = true then (if a0.size + a1.size ≤ 9223372036854775807 then ((utf_Where.f kj2 (a0 ++ a1)).bind fun t122 => (if t122 ≥ t115 then (if (a0.extract 0 (t115 : Int).toNat).size + a1.size ≤ 9223372036854775807 then ((utf_Where.f kj2 ((a0.extract 0 (t115 : Int).toNat) ++ a1)).bind fun t123 => (some (t123 == (wrap64 (t115 + t116))))) else (none)) else (some false))) else (none)) else (some false))) else (none)) else (none))))) = some r := by rw [if_neg (show ¬ (false = true) by decide)] at H; exact H
        clear H
        have H := H1
        clear H1
        replace H := Option.bind_eq_some_iff.mp H
        obtain ⟨t115, A130, H⟩ := H
        replace H : ((utf_Where.f kj2 a1).bind fun t116 => (if t115 = (a0.size : Int) then (if a0.size + a1.size ≤ 9223372036854775807 then ((utf_Where.f kj2 (a0 ++ a1)).bind fun t117 => (some (t117 == (wrap64 (t115 + t116))))) else (none)) else (if 0 ≤ t115 then (if t115 ≤ (a0.size : Int) then ((utf_Valid.f kj2 (([a0.extract 0 (t115 : Int).toNat] : List ByteArray))).bind fun t121 => (if t121 = true then (if a0.size + a1.size ≤ 9223372036854775807 then ((utf_Where.f kj2 (a0 ++ a1)).bind fun t122 => (if t122 ≥ t115 then (if (a0.extract 0 (t115 : Int).toNat).size + a1.size ≤ 9223372036854775807 then ((utf_Where.f kj2 ((a0.extract 0 (t115 : Int).toNat) ++ a1)).bind fun t123 => (some (t123 == (wrap64 (t115 + t116))))) else (none)) else (some false))) else (none)) else (some false))) else (none)) else (none)))) = some r := H
        have A13 := Aside0.mk A130
        clear A130
        replace H := Option.bind_eq_some_iff.mp H
        obtain ⟨t116, A140, H⟩ := H
        replace H : (if t115 = (a0.size : Int) then (if a0.size + a1.size ≤ 9223372036854775807 then ((utf_Where.f kj2 (a0 ++ a1)).bind fun t117 => (some (t117 == (wrap64 (t115 + t116))))) else (none)) else (if 0 ≤ t115 then (if t115 ≤ (a0.size : Int) then ((utf_Valid.f kj2 (([a0.extract 0 (t115 : Int).toNat] : List ByteArray))).bind fun t121 => (if t121 = true then (if a0.size + a1.size ≤ 9223372036854775807 then ((utf_Where.f kj2 (a0 ++ a1)).bind fun t122 => (if t122 ≥ t115 then (if (a0.extract 0 (t115 : Int).toNat).size + a1.size ≤ 9223372036854775807 then ((utf_Where.f kj2 ((a0.extract 0 (t115 : Int).toNat) ++ a1)).bind fun t123 => (some (t123 == (wrap64 (t115 + t116))))) else (none)) else (some false))) else (none)) else (some false))) else (none)) else (none))) = some r := H
        have A14 := Aside0.mk A140
        clear A140
        by_cases c15 : t115 = (a0.size : Int)
        · rw [if_pos c15] at H
          have c15b0 : (t115 == (a0.size : Int)) = true := beq_iff_eq.mpr c15
          have c15b1 : (t115 != (a0.size : Int)) = false := bne_eq_false_iff_eq.mpr c15
          clear c15
          by_cases c16 : a0.size + a1.size ≤ 9223372036854775807
          · rw [if_pos c16] at H
            have c16b0 := eq_true c16
            have c16b1 : decide (a0.size + a1.size ≤ 9223372036854775807) = true := decide_eq_true c16
            try have c16b2 : (9223372036854775807 < a0.size + a1.size) = False := eq_false (Nat.not_lt.2 c16)
            replace H := Option.bind_eq_some_iff.mp H
            obtain ⟨t117, A170, H⟩ := H
            replace H : (some (t117 == (wrap64 (t115 + t116)))) = some r := H
            have A17 := Aside0.mk A170
            clear A170
            obtain rfl := Option.some.inj H
            go_wp2_with (first | ((with_reducible refine gate_callee (f := 12) rfl ?_); refine goesL_ (some 21) rfl rfl Try.func12 (by kernel_rfl) rfl #[.string a0] rfl (by (try simp only [List.map_toArray, List.map_cons, List.map_nil]); first | done | rfl | (simp only [List.length_drop, List.length_take]; rfl)) ?_; (with_reducible refine (utf_Where.calls kj2 a0 t115 _ A13.out).mono ?_); rintro e w' ⟨rfl, ⟨nd, rfl⟩⟩; refine ⟨_, rfl, ?_⟩) | ((with_reducible refine gate_callee (f := 12) rfl ?_); refine goesL_ (some 23) rfl rfl Try.func12 (by kernel_rfl) rfl #[.string a1] rfl (by (try simp only [List.map_toArray, List.map_cons, List.map_nil]); first | done | rfl | (simp only [List.length_drop, List.length_take]; rfl)) ?_; (with_reducible refine (utf_Where.calls kj2 a1 t116 _ A14.out).mono ?_); rintro e w' ⟨rfl, ⟨nd, rfl⟩⟩; refine ⟨_, rfl, ?_⟩) | ((with_reducible refine gate_callee (f := 12) rfl ?_); refine goesL_ (some 31) rfl rfl Try.func12 (by kernel_rfl) rfl #[.string (a0 ++ a1)] rfl (by (try simp only [List.map_toArray, List.map_cons, List.map_nil]); first | done | rfl | (simp only [List.length_drop, List.length_take]; rfl)) ?_; (with_reducible refine (utf_Where.calls kj2 (a0 ++ a1) t117 _ A17.out).mono ?_); rintro e w' ⟨rfl, ⟨nd, rfl⟩⟩; refine ⟨_, rfl, ?_⟩))
            go_ret
            exact ⟨by first | rfl | (simp [errW_none, errW_some] <;> rfl) | (simp [*, errW_none, errW_some] <;> rfl), by repeat (first | (with_reducible first | exact HB.out | apply below_alloc | apply pw_below_drewN | apply below_drew1) | exact HB.out)⟩
          · rw [if_neg c16] at H
            exact absurd H (by simp)
        · rw [if_neg c15] at H
          have c15b0 : (t115 == (a0.size : Int)) = false := beq_eq_false_iff_ne.mpr c15
          have c15b1 : (t115 != (a0.size : Int)) = true := bne_iff_ne.mpr c15
          by_cases c18 : 0 ≤ t115
          · rw [if_pos c18] at H
            have c18b0 := eq_true c18
            have c18b1 : decide (0 ≤ t115) = true := decide_eq_true c18
            clear c18
            by_cases c19 : t115 ≤ (a0.size : Int)
            · rw [if_pos c19] at H
              have c19b0 := eq_true c19
              have c19b1 : decide (t115 ≤ (a0.size : Int)) = true := decide_eq_true c19
              clear c19
              obtain ⟨y118, hy118⟩ : ∃ y_ : List ByteArray, y_ = (([a0.extract 0 (t115 : Int).toNat] : List ByteArray)) := ⟨_, rfl⟩
              replace H : ((utf_Valid.f kj2 y118).bind fun t121 => (if t121 = true then (if a0.size + a1.size ≤ 9223372036854775807 then ((utf_Where.f kj2 (a0 ++ a1)).bind fun t122 => (if t122 ≥ t115 then (if (a0.extract 0 (t115 : Int).toNat).size + a1.size ≤ 9223372036854775807 then ((utf_Where.f kj2 ((a0.extract 0 (t115 : Int).toNat) ++ a1)).bind fun t123 => (some (t123 == (wrap64 (t115 + t116))))) else (none)) else (some false))) else (none)) else (some false))) = some r := by first | (rw [hy118]; with_reducible exact H) | (have H2_ := (Option.bind_some _ _).symm.trans H; rw [hy118]; with_reducible exact H2_) | (have H2_ := (Option.bind_some _ _).symm.trans H; with_reducible exact H2_) | with_reducible exact H | (rw [hy118]; exact H) | exact H
              have Ny118 := Aside0.mk hy118
              clear hy118
              replace H := Option.bind_eq_some_iff.mp H
              obtain ⟨t121, A200, H⟩ := H
              replace H : (if t121 = true then (if a0.size + a1.size ≤ 9223372036854775807 then ((utf_Where.f kj2 (a0 ++ a1)).bind fun t122 => (if t122 ≥ t115 then (if (a0.extract 0 (t115 : Int).toNat).size + a1.size ≤ 9223372036854775807 then ((utf_Where.f kj2 ((a0.extract 0 (t115 : Int).toNat) ++ a1)).bind fun t123 => (some (t123 == (wrap64 (t115 + t116))))) else (none)) else (some false))) else (none)) else (some false)) = some r := H
              have A20 := Aside0.mk A200
              clear A200
              by_cases c21 : t121 = true
              · subst c21
                have H1 : (if a0.size + a1.size ≤ 9223372036854775807 then ((utf_Where.f kj2 (a0 ++ a1)).bind fun t122 => (if t122 ≥ t115 then (if (a0.extract 0 (t115 : Int).toNat).size + a1.size ≤ 9223372036854775807 then ((utf_Where.f kj2 ((a0.extract 0 (t115 : Int).toNat) ++ a1)).bind fun t123 => (some (t123 == (wrap64 (t115 + t116))))) else (none)) else (some false))) else (none)) = some r := by rw [if_pos rfl] at H; exact H
                clear H
                have H := H1
                clear H1
                by_cases c22 : a0.size + a1.size ≤ 9223372036854775807
                · rw [if_pos c22] at H
                  have c22b0 := eq_true c22
                  have c22b1 : decide (a0.size + a1.size ≤ 9223372036854775807) = true := decide_eq_true c22
                  try have c22b2 : (9223372036854775807 < a0.size + a1.size) = False := eq_false (Nat.not_lt.2 c22)
                  replace H := Option.bind_eq_some_iff.mp H
                  obtain ⟨t122, A230, H⟩ := H
                  replace H : (if t122 ≥ t115 then (if (a0.extract 0 (t115 : Int).toNat).size + a1.size ≤ 9223372036854775807 then ((utf_Where.f kj2 ((a0.extract 0 (t115 : Int).toNat) ++ a1)).bind fun t123 => (some (t123 == (wrap64 (t115 + t116))))) else (none)) else (some false)) = some r := H
                  have A23 := Aside0.mk A230
                  clear A230
                  by_cases c24 : t122 ≥ t115
                  · rw [if_pos c24] at H
                    have c24b0 : decide (t115 ≤ t122) = true := decide_eq_true c24
                    clear c24
                    have c25b0 := eq_true (of_decide_eq_true (by first | (with_reducible assumption) | assumption) : 0 ≤ t115)
                    have c26b0 := eq_true (of_decide_eq_true (by first | (with_reducible assumption) | assumption) : t115 ≤ (a0.size : Int))
                    by_cases c27 : (a0.extract 0 (t115 : Int).toNat).size + a1.size ≤ 9223372036854775807
                    · rw [if_pos c27] at H
                      have c27b0 := eq_true c27
                      have c27b1 : decide ((a0.extract 0 (t115 : Int).toNat).size + a1.size ≤ 9223372036854775807) = true := decide_eq_true c27
                      try have c27b2 : (9223372036854775807 < (a0.extract 0 (t115 : Int).toNat).size + a1.size) = False := eq_false (Nat.not_lt.2 c27)
                      replace H := Option.bind_eq_some_iff.mp H
                      obtain ⟨t123, A280, H⟩ := H
                      replace H : (some (t123 == (wrap64 (t115 + t116)))) = some r := H
                      have A28 := Aside0.mk A280
                      clear A280
                      obtain rfl := Option.some.inj H
                      go_wp2_with (first | ((with_reducible refine gate_callee (f := 12) rfl ?_); refine goesL_ (some 21) rfl rfl Try.func12 (by kernel_rfl) rfl #[.string a0] rfl (by (try simp only [List.map_toArray, List.map_cons, List.map_nil]); first | done | rfl | (simp only [List.length_drop, List.length_take]; rfl)) ?_; (with_reducible refine (utf_Where.calls kj2 a0 t115 _ A13.out).mono ?_); rintro e w' ⟨rfl, ⟨nd, rfl⟩⟩; refine ⟨_, rfl, ?_⟩) | ((with_reducible refine gate_callee (f := 12) rfl ?_); refine goesL_ (some 23) rfl rfl Try.func12 (by kernel_rfl) rfl #[.string a1] rfl (by (try simp only [List.map_toArray, List.map_cons, List.map_nil]); first | done | rfl | (simp only [List.length_drop, List.length_take]; rfl)) ?_; (with_reducible refine (utf_Where.calls kj2 a1 t116 _ A14.out).mono ?_); rintro e w' ⟨rfl, ⟨nd, rfl⟩⟩; refine ⟨_, rfl, ?_⟩) | ((with_reducible refine gate_dst (N := 39) rfl ?_); (try (refine gate_guard (by rfl) ?_; dsimp only)); refine Kd.R_lit Kd.string _ 9 ?hg (N := 39) ?hd (xs := ([a0.extract 0 (t115 : Int).toNat] : List ByteArray)) (inner := [.string (a0.extract 0 (t115 : Int).toNat)]) (ok := fun _ => True) (okp := fun _ => True) ?hr ?hp (fun _ hk => hk) trivial (Below.refl _ _) (Nat.le_refl _) (by simp) ?_; (case hd => rfl); (case hg => rfl); (case hr => first | (go_simp; done) | (go_simp; rfl)); (case hp => exact (Reps.one (show Kd.M Kd.string _ _ _ (a0.extract 0 (t115 : Int).toNat) [.string (a0.extract 0 (t115 : Int).toNat)] from rfl) (Reps.none _ _))); intro v119 w29 ho30 hb hg_ hnew_; clear hg_ hnew_; (first | rw [← Ny118.out] at ho30 | (simp only [Int.reduceToNat] at ho30; rw [← Ny118.out] at ho30)); have n0_ := Aside0.mk (Kd.R_lower ho30 (below_size (by repeat (first | (with_reducible first | exact HB.out | apply below_alloc | apply pw_below_drewN | apply below_drew1) | exact HB.out)))); have n1_ := Aside0.mk (below_step (by repeat (first | (with_reducible first | exact HB.out | apply below_alloc | apply pw_below_drewN | apply below_drew1) | exact HB.out)) hb); clear HB; have HO120 := n0_; have HB := n1_; clear n0_ n1_; clear hb ho30; obtain ⟨Ao31, co31, eo31⟩ := Kd.R_slice HO120.out; subst eo31) | ((with_reducible refine gate_callee (f := 13) rfl ?_); refine goesL_ (some 40) rfl rfl Try.func13 (by kernel_rfl) rfl #[.slice Ao31 y118.length co31] rfl (by (try simp only [List.map_toArray, List.map_cons, List.map_nil]); first | done | rfl | (simp only [List.length_drop, List.length_take]; rfl)) ?_; (with_reducible refine (utf_Valid.calls kj2 _ _ y118 true _ ?side1 ?side2 A20.out).mono ?_); (case side1 => repeat (first | exact (Kd.R_reads' HO120.out).2.2 | (with_reducible refine Kd.C_alloc ?_ _) | (with_reducible refine Kd.C_drewN ?_ _) | (with_reducible refine Kd.C_drew ?_))); (case side2 => exact (Kd.R_reads' HO120.out).2.1); rintro e w' ⟨rfl, ⟨nd, rfl⟩⟩; refine ⟨_, rfl, ?_⟩) | (go_at_call 12; (with_reducible refine (utf_Where.calls kj2 (a0 ++ a1) t122 _ A23.out).mono ?_); rintro e w' ⟨rfl, ⟨nd, rfl⟩⟩) | (go_at_call 12; (with_reducible refine (utf_Where.calls kj2 ((a0.extract 0 (t115 : Int).toNat) ++ a1) t123 _ A28.out).mono ?_); rintro e w' ⟨rfl, ⟨nd, rfl⟩⟩))
                      go_ret
                      exact ⟨by first | rfl | (simp [errW_none, errW_some] <;> rfl) | (simp [*, errW_none, errW_some] <;> rfl), by repeat (first | (with_reducible first | exact HB.out | apply below_alloc | apply pw_below_drewN | apply below_drew1) | exact HB.out)⟩
                    · rw [if_neg c27] at H
                      exact absurd H (by simp)
                  · rw [if_neg c24] at H
                    have c24b0 : decide (t115 ≤ t122) = false := decide_eq_false c24
                    clear c24
                    obtain rfl := Option.some.inj H
                    go_wp2_with (first | ((with_reducible refine gate_callee (f := 12) rfl ?_); refine goesL_ (some 21) rfl rfl Try.func12 (by kernel_rfl) rfl #[.string a0] rfl (by (try simp only [List.map_toArray, List.map_cons, List.map_nil]); first | done | rfl | (simp only [List.length_drop, List.length_take]; rfl)) ?_; (with_reducible refine (utf_Where.calls kj2 a0 t115 _ A13.out).mono ?_); rintro e w' ⟨rfl, ⟨nd, rfl⟩⟩; refine ⟨_, rfl, ?_⟩) | ((with_reducible refine gate_callee (f := 12) rfl ?_); refine goesL_ (some 23) rfl rfl Try.func12 (by kernel_rfl) rfl #[.string a1] rfl (by (try simp only [List.map_toArray, List.map_cons, List.map_nil]); first | done | rfl | (simp only [List.length_drop, List.length_take]; rfl)) ?_; (with_reducible refine (utf_Where.calls kj2 a1 t116 _ A14.out).mono ?_); rintro e w' ⟨rfl, ⟨nd, rfl⟩⟩; refine ⟨_, rfl, ?_⟩) | ((with_reducible refine gate_dst (N := 39) rfl ?_); (try (refine gate_guard (by rfl) ?_; dsimp only)); refine Kd.R_lit Kd.string _ 9 ?hg (N := 39) ?hd (xs := ([a0.extract 0 (t115 : Int).toNat] : List ByteArray)) (inner := [.string (a0.extract 0 (t115 : Int).toNat)]) (ok := fun _ => True) (okp := fun _ => True) ?hr ?hp (fun _ hk => hk) trivial (Below.refl _ _) (Nat.le_refl _) (by simp) ?_; (case hd => rfl); (case hg => rfl); (case hr => first | (go_simp; done) | (go_simp; rfl)); (case hp => exact (Reps.one (show Kd.M Kd.string _ _ _ (a0.extract 0 (t115 : Int).toNat) [.string (a0.extract 0 (t115 : Int).toNat)] from rfl) (Reps.none _ _))); intro v119 w32 ho33 hb hg_ hnew_; clear hg_ hnew_; (first | rw [← Ny118.out] at ho33 | (simp only [Int.reduceToNat] at ho33; rw [← Ny118.out] at ho33)); have n0_ := Aside0.mk (Kd.R_lower ho33 (below_size (by repeat (first | (with_reducible first | exact HB.out | apply below_alloc | apply pw_below_drewN | apply below_drew1) | exact HB.out)))); have n1_ := Aside0.mk (below_step (by repeat (first | (with_reducible first | exact HB.out | apply below_alloc | apply pw_below_drewN | apply below_drew1) | exact HB.out)) hb); clear HB; have HO120 := n0_; have HB := n1_; clear n0_ n1_; clear hb ho33; obtain ⟨Ao34, co34, eo34⟩ := Kd.R_slice HO120.out; subst eo34) | ((with_reducible refine gate_callee (f := 13) rfl ?_); refine goesL_ (some 40) rfl rfl Try.func13 (by kernel_rfl) rfl #[.slice Ao34 y118.length co34] rfl (by (try simp only [List.map_toArray, List.map_cons, List.map_nil]); first | done | rfl | (simp only [List.length_drop, List.length_take]; rfl)) ?_; (with_reducible refine (utf_Valid.calls kj2 _ _ y118 true _ ?side1 ?side2 A20.out).mono ?_); (case side1 => repeat (first | exact (Kd.R_reads' HO120.out).2.2 | (with_reducible refine Kd.C_alloc ?_ _) | (with_reducible refine Kd.C_drewN ?_ _) | (with_reducible refine Kd.C_drew ?_))); (case side2 => exact (Kd.R_reads' HO120.out).2.1); rintro e w' ⟨rfl, ⟨nd, rfl⟩⟩; refine ⟨_, rfl, ?_⟩) | (go_at_call 12; (with_reducible refine (utf_Where.calls kj2 (a0 ++ a1) t122 _ A23.out).mono ?_); rintro e w' ⟨rfl, ⟨nd, rfl⟩⟩))
                    go_ret
                    exact ⟨by first | rfl | (simp [errW_none, errW_some] <;> rfl) | (simp [*, errW_none, errW_some] <;> rfl), by repeat (first | (with_reducible first | exact HB.out | apply below_alloc | apply pw_below_drewN | apply below_drew1) | exact HB.out)⟩
                · rw [if_neg c22] at H
                  exact absurd H (by simp)
              · replace c21 := Bool.eq_false_iff.mpr c21
                subst c21
                have H1 : (some false) = some r := by rw [if_neg (show ¬ (false = true) by decide)] at H; exact H
                clear H
                have H := H1
                clear H1
                obtain rfl := Option.some.inj H
                go_wp2_with (first | ((with_reducible refine gate_callee (f := 12) rfl ?_); refine goesL_ (some 21) rfl rfl Try.func12 (by kernel_rfl) rfl #[.string a0] rfl (by (try simp only [List.map_toArray, List.map_cons, List.map_nil]); first | done | rfl | (simp only [List.length_drop, List.length_take]; rfl)) ?_; (with_reducible refine (utf_Where.calls kj2 a0 t115 _ A13.out).mono ?_); rintro e w' ⟨rfl, ⟨nd, rfl⟩⟩; refine ⟨_, rfl, ?_⟩) | ((with_reducible refine gate_callee (f := 12) rfl ?_); refine goesL_ (some 23) rfl rfl Try.func12 (by kernel_rfl) rfl #[.string a1] rfl (by (try simp only [List.map_toArray, List.map_cons, List.map_nil]); first | done | rfl | (simp only [List.length_drop, List.length_take]; rfl)) ?_; (with_reducible refine (utf_Where.calls kj2 a1 t116 _ A14.out).mono ?_); rintro e w' ⟨rfl, ⟨nd, rfl⟩⟩; refine ⟨_, rfl, ?_⟩) | ((with_reducible refine gate_dst (N := 39) rfl ?_); (try (refine gate_guard (by rfl) ?_; dsimp only)); refine Kd.R_lit Kd.string _ 9 ?hg (N := 39) ?hd (xs := ([a0.extract 0 (t115 : Int).toNat] : List ByteArray)) (inner := [.string (a0.extract 0 (t115 : Int).toNat)]) (ok := fun _ => True) (okp := fun _ => True) ?hr ?hp (fun _ hk => hk) trivial (Below.refl _ _) (Nat.le_refl _) (by simp) ?_; (case hd => rfl); (case hg => rfl); (case hr => first | (go_simp; done) | (go_simp; rfl)); (case hp => exact (Reps.one (show Kd.M Kd.string _ _ _ (a0.extract 0 (t115 : Int).toNat) [.string (a0.extract 0 (t115 : Int).toNat)] from rfl) (Reps.none _ _))); intro v119 w35 ho36 hb hg_ hnew_; clear hg_ hnew_; (first | rw [← Ny118.out] at ho36 | (simp only [Int.reduceToNat] at ho36; rw [← Ny118.out] at ho36)); have n0_ := Aside0.mk (Kd.R_lower ho36 (below_size (by repeat (first | (with_reducible first | exact HB.out | apply below_alloc | apply pw_below_drewN | apply below_drew1) | exact HB.out)))); have n1_ := Aside0.mk (below_step (by repeat (first | (with_reducible first | exact HB.out | apply below_alloc | apply pw_below_drewN | apply below_drew1) | exact HB.out)) hb); clear HB; have HO120 := n0_; have HB := n1_; clear n0_ n1_; clear hb ho36; obtain ⟨Ao37, co37, eo37⟩ := Kd.R_slice HO120.out; subst eo37) | ((with_reducible refine gate_callee (f := 13) rfl ?_); refine goesL_ (some 40) rfl rfl Try.func13 (by kernel_rfl) rfl #[.slice Ao37 y118.length co37] rfl (by (try simp only [List.map_toArray, List.map_cons, List.map_nil]); first | done | rfl | (simp only [List.length_drop, List.length_take]; rfl)) ?_; (with_reducible refine (utf_Valid.calls kj2 _ _ y118 false _ ?side1 ?side2 A20.out).mono ?_); (case side1 => repeat (first | exact (Kd.R_reads' HO120.out).2.2 | (with_reducible refine Kd.C_alloc ?_ _) | (with_reducible refine Kd.C_drewN ?_ _) | (with_reducible refine Kd.C_drew ?_))); (case side2 => exact (Kd.R_reads' HO120.out).2.1); rintro e w' ⟨rfl, ⟨nd, rfl⟩⟩; refine ⟨_, rfl, ?_⟩))
                go_ret
                exact ⟨by first | rfl | (simp [errW_none, errW_some] <;> rfl) | (simp [*, errW_none, errW_some] <;> rfl), by repeat (first | (with_reducible first | exact HB.out | apply below_alloc | apply pw_below_drewN | apply below_drew1) | exact HB.out)⟩
            · rw [if_neg c19] at H
              exact absurd H (by simp)
          · rw [if_neg c18] at H
            exact absurd H (by simp)

/-- THE ONE PURE STATEMENT of inkwelllaw03_UtfJoins: yours. -/
def inkwelllaw03_UtfJoins.Pure : Prop := ∀ (a0 : ByteArray) (a1 : ByteArray), a0.size ≤ 140737488351232 → a1.size ≤ 140737488351232 → ∃ k, inkwelllaw03_UtfJoins.f k a0 a1 = some true
theorem inkwelllaw03_UtfJoins.walk (P : inkwelllaw03_UtfJoins.Pure) (a0 : ByteArray) (a1 : ByteArray) (w : World) (w0 : a0.size ≤ 140737488351232) (w1 : a1.size ≤ 140737488351232) :
    Calls Try.prog 5 #[.string a0, .string a1] w fun e w' => e = .returned (.bool true) ∧ Below w.heap.size w w' := by
  obtain ⟨k, h⟩ := P a0 a1 w0 w1
  refine (inkwelllaw03_UtfJoins.calls k a0 a1 true w h).mono ?_
  rintro e w' ⟨rfl, hd⟩
  exact ⟨rfl, hd⟩

end Go.Proofs.Ytiehijephkagbaa.PUtfJoins
