-- PRINTED BY print.sh 35421559b90ae4d0a3588c463048766b98c2df88dd9212a6774a882060cdf62d: not written by this session
import Derived.Test.YtiehijephkagbaaPUtfAllx0
import Derived.Test.YtiehijephkagbaaPUtfAllx1
namespace Go.Proofs.Ytiehijephkagbaa.PUtfAll
open Go.RowKit Go.Proofs.YtiehijephkagbaaW.PrintWords Go.Proofs.YtiehijephkagbaaW.PrintLast Go.Proofs.YtiehijephkagbaaW.PrintMore
attribute [local go_sem] max2_int min2_int max_two min_two max_three min_three max_four min_four   -- for this text's walks alone
set_option linter.unusedVariables false
set_option linter.unusedSimpArgs false

/-! ### inkwelllaw03_awake: function 8 -/
def inkwelllaw03_awake.f (k : Nat)  : Option (Bool) := (utf_Next.f k (⟨#[226, 130, 172]⟩ : ByteArray)).bind fun t107 => (if t107 = 3 then ((utf_Where.f k (⟨#[97, 255]⟩ : ByteArray)).bind fun t108 => (if t108 = 1 then ((utf_Valid.f k (([(⟨#[97]⟩ : ByteArray), (⟨#[]⟩ : ByteArray)] : List ByteArray))).bind fun t112 => (some t112)) else (some false))) else (some false))
theorem inkwelllaw03_awake.mono : ∀ k, LeO (inkwelllaw03_awake.f k ) (inkwelllaw03_awake.f (k + 1) ) := by
  intro  k
  unfold inkwelllaw03_awake.f
  repeat' first
      | (with_reducible exact utf_Next.mono _ _)
      | (with_reducible exact utf_Valid.mono _ _)
      | (with_reducible exact utf_Where.mono _ _)
      | (with_reducible exact LeO.refl _)
      | (with_reducible exact LeO.none _)
      | (with_reducible refine LeO.ite ?_ ?_)
      | (with_reducible refine LeO.bind ?_ (fun _ => ?_))
      | exact utf_Next.mono _ _
      | exact utf_Valid.mono _ _
      | exact utf_Where.mono _ _
      | exact LeO.none _
      | refine LeO.ite ?_ ?_
      | refine LeO.bind ?_ (fun _ => ?_)
set_option maxHeartbeats 8000000 in
set_option maxRecDepth 100000 in
theorem inkwelllaw03_awake.calls (k : Nat)  (r : Bool) (w : World) (h : inkwelllaw03_awake.f k  = some r) :
    Calls Try.prog 8 #[] w fun e w' => e = .returned (.bool r) ∧ Below w.heap.size w w' := by
  have HB := Aside0.mk (Below.refl w.heap.size w)
  have H : ((utf_Next.f k (⟨#[226, 130, 172]⟩ : ByteArray)).bind fun t107 => (if t107 = 3 then ((utf_Where.f k (⟨#[97, 255]⟩ : ByteArray)).bind fun t108 => (if t108 = 1 then ((utf_Valid.f k (([(⟨#[97]⟩ : ByteArray), (⟨#[]⟩ : ByteArray)] : List ByteArray))).bind fun t112 => (some t112)) else (some false))) else (some false))) = some r := h
  clear h
  replace H := Option.bind_eq_some_iff.mp H
  obtain ⟨t107, A10, H⟩ := H
  replace H : (if t107 = 3 then ((utf_Where.f k (⟨#[97, 255]⟩ : ByteArray)).bind fun t108 => (if t108 = 1 then ((utf_Valid.f k (([(⟨#[97]⟩ : ByteArray), (⟨#[]⟩ : ByteArray)] : List ByteArray))).bind fun t112 => (some t112)) else (some false))) else (some false)) = some r := H
  have A1 := Aside0.mk A10
  clear A10
  by_cases c2 : t107 = 3
  · rw [if_pos c2] at H
    have c2b0 : (t107 == 3) = true := beq_iff_eq.mpr c2
    have c2b1 : (t107 != 3) = false := bne_eq_false_iff_eq.mpr c2
    clear c2
    replace H := Option.bind_eq_some_iff.mp H
    obtain ⟨t108, A30, H⟩ := H
    replace H : (if t108 = 1 then ((utf_Valid.f k (([(⟨#[97]⟩ : ByteArray), (⟨#[]⟩ : ByteArray)] : List ByteArray))).bind fun t112 => (some t112)) else (some false)) = some r := H
    have A3 := Aside0.mk A30
    clear A30
    by_cases c4 : t108 = 1
    · rw [if_pos c4] at H
      have c4b0 : (t108 == 1) = true := beq_iff_eq.mpr c4
      have c4b1 : (t108 != 1) = false := bne_eq_false_iff_eq.mpr c4
      clear c4
      obtain ⟨y109, hy109⟩ : ∃ y_ : List ByteArray, y_ = (([(⟨#[97]⟩ : ByteArray), (⟨#[]⟩ : ByteArray)] : List ByteArray)) := ⟨_, rfl⟩
      replace H : ((utf_Valid.f k y109).bind fun t112 => (some t112)) = some r := by first | (rw [hy109]; with_reducible exact H) | (have H2_ := (Option.bind_some _ _).symm.trans H; rw [hy109]; with_reducible exact H2_) | (have H2_ := (Option.bind_some _ _).symm.trans H; with_reducible exact H2_) | with_reducible exact H | (rw [hy109]; exact H) | exact H
      have Ny109 := Aside0.mk hy109
      clear hy109
      replace H := Option.bind_eq_some_iff.mp H
      obtain ⟨t112, A50, H⟩ := H
      replace H : (some t112) = some r := H
      have A5 := Aside0.mk A50
      clear A50
      obtain rfl := Option.some.inj H
      go_enter Try.func8, Try.ntmps8
      go_wp2_with (first | ((with_reducible refine gate_callee (f := 10) rfl ?_); refine goesL_ (some 1) rfl rfl Try.func10 (by kernel_rfl) rfl #[.string (⟨#[226, 130, 172]⟩ : ByteArray)] rfl (by (try simp only [List.map_toArray, List.map_cons, List.map_nil]); first | done | rfl | (simp only [List.length_drop, List.length_take]; rfl)) ?_; (with_reducible refine (utf_Next.calls k (⟨#[226, 130, 172]⟩ : ByteArray) t107 _ A1.out).mono ?_); rintro e w' ⟨rfl, ⟨nd, rfl⟩⟩; refine ⟨_, rfl, ?_⟩) | (go_at_call 12; (with_reducible refine (utf_Where.calls k (⟨#[97, 255]⟩ : ByteArray) t108 _ A3.out).mono ?_); rintro e w' ⟨rfl, ⟨nd, rfl⟩⟩) | ((with_reducible refine gate_dst (N := 8) rfl ?_); (try (refine gate_guard (by rfl) ?_; dsimp only)); refine Kd.R_lit Kd.string _ 9 ?hg (N := 8) ?hd (xs := ([(⟨#[97]⟩ : ByteArray), (⟨#[]⟩ : ByteArray)] : List ByteArray)) (inner := [.string (⟨#[97]⟩ : ByteArray), .string (⟨#[]⟩ : ByteArray)]) (ok := fun _ => True) (okp := fun _ => True) ?hr ?hp (fun _ hk => hk) trivial (Below.refl _ _) (Nat.le_refl _) (by simp) ?_; (case hd => rfl); (case hg => rfl); (case hr => first | (go_simp; done) | (go_simp; rfl)); (case hp => exact (Reps.one (show Kd.M Kd.string _ _ _ (⟨#[97]⟩ : ByteArray) [.string (⟨#[97]⟩ : ByteArray)] from rfl) (Reps.one (show Kd.M Kd.string _ _ _ (⟨#[]⟩ : ByteArray) [.string (⟨#[]⟩ : ByteArray)] from rfl) (Reps.none _ _)))); intro v110 w6 ho7 hb hg_ hnew_; clear hg_ hnew_; (first | rw [← Ny109.out] at ho7 | (simp only [Int.reduceToNat] at ho7; rw [← Ny109.out] at ho7)); have n0_ := Aside0.mk (Kd.R_lower ho7 (below_size (by repeat (first | (with_reducible first | exact HB.out | apply below_alloc | apply pw_below_drewN | apply below_drew1) | exact HB.out)))); have n1_ := Aside0.mk (below_step (by repeat (first | (with_reducible first | exact HB.out | apply below_alloc | apply pw_below_drewN | apply below_drew1) | exact HB.out)) hb); clear HB; have HO111 := n0_; have HB := n1_; clear n0_ n1_; clear hb ho7; obtain ⟨Ao8, co8, eo8⟩ := Kd.R_slice HO111.out; subst eo8) | (go_at_call 13; (with_reducible refine (utf_Valid.calls k _ _ y109 t112 _ ?side1 ?side2 A5.out).mono ?_); (case side1 => repeat (first | exact (Kd.R_reads' HO111.out).2.2 | (with_reducible refine Kd.C_alloc ?_ _) | (with_reducible refine Kd.C_drewN ?_ _) | (with_reducible refine Kd.C_drew ?_))); (case side2 => exact (Kd.R_reads' HO111.out).2.1); rintro e w' ⟨rfl, ⟨nd, rfl⟩⟩))
      go_ret
      exact ⟨by first | rfl | (simp [errW_none, errW_some] <;> rfl) | (simp [*, errW_none, errW_some] <;> rfl), by repeat (first | (with_reducible first | exact HB.out | apply below_alloc | apply pw_below_drewN | apply below_drew1) | exact HB.out)⟩
    · rw [if_neg c4] at H
      have c4b0 : (t108 == 1) = false := beq_eq_false_iff_ne.mpr c4
      have c4b1 : (t108 != 1) = true := bne_iff_ne.mpr c4
      obtain rfl := Option.some.inj H
      go_enter Try.func8, Try.ntmps8
      go_wp2_with (first | ((with_reducible refine gate_callee (f := 10) rfl ?_); refine goesL_ (some 1) rfl rfl Try.func10 (by kernel_rfl) rfl #[.string (⟨#[226, 130, 172]⟩ : ByteArray)] rfl (by (try simp only [List.map_toArray, List.map_cons, List.map_nil]); first | done | rfl | (simp only [List.length_drop, List.length_take]; rfl)) ?_; (with_reducible refine (utf_Next.calls k (⟨#[226, 130, 172]⟩ : ByteArray) t107 _ A1.out).mono ?_); rintro e w' ⟨rfl, ⟨nd, rfl⟩⟩; refine ⟨_, rfl, ?_⟩) | (go_at_call 12; (with_reducible refine (utf_Where.calls k (⟨#[97, 255]⟩ : ByteArray) t108 _ A3.out).mono ?_); rintro e w' ⟨rfl, ⟨nd, rfl⟩⟩))
      go_ret
      exact ⟨by first | rfl | (simp [errW_none, errW_some] <;> rfl) | (simp [*, errW_none, errW_some] <;> rfl), by repeat (first | (with_reducible first | exact HB.out | apply below_alloc | apply pw_below_drewN | apply below_drew1) | exact HB.out)⟩
  · rw [if_neg c2] at H
    have c2b0 : (t107 == 3) = false := beq_eq_false_iff_ne.mpr c2
    have c2b1 : (t107 != 3) = true := bne_iff_ne.mpr c2
    obtain rfl := Option.some.inj H
    go_enter Try.func8, Try.ntmps8
    go_wp2_with (first | ((with_reducible refine gate_callee (f := 10) rfl ?_); refine goesL_ (some 1) rfl rfl Try.func10 (by kernel_rfl) rfl #[.string (⟨#[226, 130, 172]⟩ : ByteArray)] rfl (by (try simp only [List.map_toArray, List.map_cons, List.map_nil]); first | done | rfl | (simp only [List.length_drop, List.length_take]; rfl)) ?_; (with_reducible refine (utf_Next.calls k (⟨#[226, 130, 172]⟩ : ByteArray) t107 _ A1.out).mono ?_); rintro e w' ⟨rfl, ⟨nd, rfl⟩⟩; refine ⟨_, rfl, ?_⟩))
    go_ret
    exact ⟨by first | rfl | (simp [errW_none, errW_some] <;> rfl) | (simp [*, errW_none, errW_some] <;> rfl), by repeat (first | (with_reducible first | exact HB.out | apply below_alloc | apply pw_below_drewN | apply below_drew1) | exact HB.out)⟩

/-! ### inkwellref03_Put: function 14 -/
def inkwellref03_Put.j0 : Nat → Int → Bool → Option (ByteArray)
  | 0, _, _ => none
  | k + 1, x0, x3 => if x3 = true then (some (⟨#[]⟩ : ByteArray)) else (if x0 < 128 then (some (strOfNums (([(x0) % 256] : List Int)))) else (if x0 < 2048 then (some (strOfNums (([(wrap64 (192 + (wrap64 (Int.tdiv x0 64)))) % 256, (wrap64 (128 + (Int.tmod x0 64))) % 256] : List Int)))) else (if x0 < 65536 then (some (strOfNums (([(wrap64 (224 + (wrap64 (Int.tdiv x0 4096)))) % 256, (wrap64 (128 + (Int.tmod (wrap64 (Int.tdiv x0 64)) 64))) % 256, (wrap64 (128 + (Int.tmod x0 64))) % 256] : List Int)))) else (some (strOfNums (([(wrap64 (240 + (wrap64 (Int.tdiv x0 262144)))) % 256, (wrap64 (128 + (Int.tmod (wrap64 (Int.tdiv x0 4096)) 64))) % 256, (wrap64 (128 + (Int.tmod (wrap64 (Int.tdiv x0 64)) 64))) % 256, (wrap64 (128 + (Int.tmod x0 64))) % 256] : List Int)))))))
def inkwellref03_Put.f (k : Nat) (a0 : Int) : Option (ByteArray) := if a0 < 0 then (inkwellref03_Put.j0 k a0 true) else (if a0 > 1114111 then (inkwellref03_Put.j0 k a0 true) else (if a0 ≥ 55296 then (inkwellref03_Put.j0 k a0 (decide (a0 ≤ 57343))) else (inkwellref03_Put.j0 k a0 false)))
theorem inkwellref03_Put.mono_l : ∀ k, (∀ y0 y1, LeO (inkwellref03_Put.j0 k y0 y1) (inkwellref03_Put.j0 (k + 1) y0 y1))
  | 0 => fun _ _ r h => by simp [inkwellref03_Put.j0] at h
  | k + 1 => by
    have ih0 := inkwellref03_Put.mono_l k
    · intro y0 y1
      unfold inkwellref03_Put.j0
      repeat' first
      | (with_reducible exact ih0 _ _)
      | (with_reducible exact LeO.refl _)
      | (with_reducible exact LeO.none _)
      | (with_reducible refine LeO.ite ?_ ?_)
      | (with_reducible refine LeO.bind ?_ (fun _ => ?_))
      | exact ih0 _ _
      | exact LeO.none _
      | refine LeO.ite ?_ ?_
      | refine LeO.bind ?_ (fun _ => ?_)
theorem inkwellref03_Put.mono : ∀ a0 k, LeO (inkwellref03_Put.f k a0) (inkwellref03_Put.f (k + 1) a0) := by
  intro a0 k
  have ih0 := inkwellref03_Put.mono_l k
  unfold inkwellref03_Put.f
  repeat' first
      | (with_reducible exact ih0 _ _)
      | (with_reducible exact LeO.refl _)
      | (with_reducible exact LeO.none _)
      | (with_reducible refine LeO.ite ?_ ?_)
      | (with_reducible refine LeO.bind ?_ (fun _ => ?_))
      | exact ih0 _ _
      | exact LeO.none _
      | refine LeO.ite ?_ ?_
      | refine LeO.bind ?_ (fun _ => ?_)
set_option maxHeartbeats 8000000 in
set_option maxRecDepth 100000 in
theorem inkwellref03_Put.calls (k : Nat) (a0 : Int) (r : ByteArray) (w : World) (h : inkwellref03_Put.f k a0 = some r) :
    Calls Try.prog 14 #[.int .i64 a0] w fun e w' => e = .returned (.string r) ∧ Below w.heap.size w w' := by
  have HB := Aside0.mk (Below.refl w.heap.size w)
  have H : (if a0 < 0 then (inkwellref03_Put.j0 k a0 true) else (if a0 > 1114111 then (inkwellref03_Put.j0 k a0 true) else (if a0 ≥ 55296 then (inkwellref03_Put.j0 k a0 (decide (a0 ≤ 57343))) else (inkwellref03_Put.j0 k a0 false)))) = some r := h
  clear h
  have HC2 := Aside0.mk H
  clear H
  go_enter Try.func14, Try.ntmps14
  go_upto_region 1 with (fail)
  go_cut [3] (fun v3 wc => ∃ (kq : Nat) (x3_1 : Bool), v3 = .bool x3_1 ∧ Aside0 (inkwellref03_Put.j0 kq a0 x3_1 = some r) ∧ Aside0 (kq ≤ k) ∧ Aside0 (Below w.heap.size w wc))
  case first =>
    have H := HC2.out
    clear HC2
    by_cases c3 : a0 < 0
    · rw [if_pos c3] at H
      have c3b0 : decide (a0 < 0) = true := decide_eq_true c3
      clear c3
      (first | rw [c3b0] | (simp only [i64_w, i32_w]; rw [c3b0]) | skip)
      have H' := Aside0.mk H
      clear H
      go_wp2
      go_meet
      case rel => exact ⟨_, (true), (by first | rfl | (simp; done) | (simp [*]; done)), H', ⟨by first | omega | exact Nat.le_refl _⟩, ⟨by repeat (first | (with_reducible first | exact HB.out | apply below_alloc | apply pw_below_drewN | apply below_drew1) | exact HB.out)⟩⟩
    · rw [if_neg c3] at H
      have c3b0 : decide (a0 < 0) = false := decide_eq_false c3
      clear c3
      (first | rw [c3b0] | (simp only [i64_w, i32_w]; rw [c3b0]) | skip)
      by_cases c4 : a0 > 1114111
      · rw [if_pos c4] at H
        have c4b0 : decide (1114111 < a0) = true := decide_eq_true c4
        clear c4
        have H' := Aside0.mk H
        clear H
        go_wp2
        go_meet
        case rel => exact ⟨_, (true), (by first | rfl | (simp; done) | (simp [*]; done)), H', ⟨by first | omega | exact Nat.le_refl _⟩, ⟨by repeat (first | (with_reducible first | exact HB.out | apply below_alloc | apply pw_below_drewN | apply below_drew1) | exact HB.out)⟩⟩
      · rw [if_neg c4] at H
        have c4b0 : decide (1114111 < a0) = false := decide_eq_false c4
        clear c4
        by_cases c5 : a0 ≥ 55296
        · rw [if_pos c5] at H
          have c5b0 : decide (55296 ≤ a0) = true := decide_eq_true c5
          clear c5
          have H' := Aside0.mk H
          clear H
          go_wp2
          go_meet
          case rel => exact ⟨_, (decide (a0 ≤ 57343)), (by first | rfl | (simp; done) | (simp [*]; done)), H', ⟨by first | omega | exact Nat.le_refl _⟩, ⟨by repeat (first | (with_reducible first | exact HB.out | apply below_alloc | apply pw_below_drewN | apply below_drew1) | exact HB.out)⟩⟩
        · rw [if_neg c5] at H
          have c5b0 : decide (55296 ≤ a0) = false := decide_eq_false c5
          clear c5
          have H' := Aside0.mk H
          clear H
          go_wp2
          go_meet
          case rel => exact ⟨_, (false), (by first | rfl | (simp; done) | (simp [*]; done)), H', ⟨by first | omega | exact Nat.le_refl _⟩, ⟨by repeat (first | (with_reducible first | exact HB.out | apply below_alloc | apply pw_below_drewN | apply below_drew1) | exact HB.out)⟩⟩
  case rest =>
    clear HC2
    try clear c1
    try clear p2
    try clear c3
    try clear c3b0
    try clear c4
    try clear c4b0
    try clear c5
    try clear c5b0
    obtain ⟨kq, x3_1, rfl, HA, HJ1, HB⟩ := hcut
    cases kq with
    | zero => exact absurd HA.out (by simp [inkwellref03_Put.j0])
    | succ kj1 =>
      have H := HA.out
      clear HA
      simp only [inkwellref03_Put.j0] at H
      by_cases c6 : x3_1 = true
      · subst c6
        have H1 : (some (⟨#[]⟩ : ByteArray)) = some r := by rw [if_pos rfl] at H; exact H
        clear H
        have H := H1
        clear H1
        obtain rfl := Option.some.inj H
        go_wp2
        go_ret
        exact ⟨by first | rfl | (simp [errW_none, errW_some] <;> rfl) | (simp [*, errW_none, errW_some] <;> rfl), by repeat (first | (with_reducible first | exact HB.out | apply below_alloc | apply pw_below_drewN | apply below_drew1) | exact HB.out)⟩
      · replace c6 := Bool.eq_false_iff.mpr c6
        subst c6
        have H1 : (if a0 < 128 then (some (strOfNums (([(a0) % 256] : List Int)))) else (if a0 < 2048 then (some (strOfNums (([(wrap64 (192 + (wrap64 (Int.tdiv a0 64)))) % 256, (wrap64 (128 + (Int.tmod a0 64))) % 256] : List Int)))) else (if a0 < 65536 then (some (strOfNums (([(wrap64 (224 + (wrap64 (Int.tdiv a0 4096)))) % 256, (wrap64 (128 + (Int.tmod (wrap64 (Int.tdiv a0 64)) 64))) % 256, (wrap64 (128 + (Int.tmod a0 64))) % 256] : List Int)))) else (some (strOfNums (([(wrap64 (240 + (wrap64 (Int.tdiv a0 262144)))) % 256, (wrap64 (128 + (Int.tmod (wrap64 (Int.tdiv a0 4096)) 64))) % 256, (wrap64 (128 + (Int.tmod (wrap64 (Int.tdiv a0 64)) 64))) % 256, (wrap64 (128 + (Int.tmod a0 64))) % 256] : List Int))))))) = some r := by rw [if_neg (show ¬ (false = true) by decide)] at H; exact H
        clear H
        have H := H1
        clear H1
        by_cases c7 : a0 < 128
        · rw [if_pos c7] at H
          have c7b0 : decide (a0 < 128) = true := decide_eq_true c7
          clear c7
          obtain ⟨y113, hy113⟩ : ∃ y_ : List Int, y_ = (([(a0) % 256] : List Int)) := ⟨_, rfl⟩
          replace H : (some (strOfNums y113)) = some r := by first | (rw [hy113]; with_reducible exact H) | (have H2_ := (Option.bind_some _ _).symm.trans H; rw [hy113]; with_reducible exact H2_) | (have H2_ := (Option.bind_some _ _).symm.trans H; with_reducible exact H2_) | with_reducible exact H | (rw [hy113]; exact H) | exact H
          have Ny113 := Aside0.mk hy113
          clear hy113
          obtain rfl := Option.some.inj H
          go_wp2_with (first | ((with_reducible refine gate_dst (N := 23) rfl ?_); refine Kd.R_lit (Kd.int .u8) _ 5 ?hg (N := 23) ?hd (xs := ([(a0) % 256] : List Int)) (inner := [.int .u8 ((a0) % 256)]) (ok := fun _ => True) (okp := fun _ => True) ?hr ?hp (fun _ hk => hk) trivial (Below.refl _ _) (Nat.le_refl _) (by simp) ?_; (case hd => rfl); (case hg => rfl); (case hr => first | (go_simp; done) | (go_simp; rfl)); (case hp => exact (Reps.one (show Kd.M (Kd.int .u8) _ _ _ ((a0) % 256) [.int .u8 ((a0) % 256)] from rfl) (Reps.none _ _))); intro v114 w8 ho9 hb hg_ hnew_; clear hg_ hnew_; (first | rw [← Ny113.out] at ho9 | (simp only [Int.reduceToNat] at ho9; rw [← Ny113.out] at ho9)); have n0_ := Aside0.mk (Kd.R_lower ho9 (below_size (by repeat (first | (with_reducible first | exact HB.out | apply below_alloc | apply pw_below_drewN | apply below_drew1) | exact HB.out)))); have n1_ := Aside0.mk (below_step (by repeat (first | (with_reducible first | exact HB.out | apply below_alloc | apply pw_below_drewN | apply below_drew1) | exact HB.out)) hb); clear HB; have HO115 := n0_; have HB := n1_; clear n0_ n1_; clear hb ho9; have hcv10 := own_string (P := Try.prog) Try.underlying28 Try.underlying5 Try.underlying9 (Kd.own_of_R HO115.out)))
          go_ret
          exact ⟨by first | rfl | (simp [errW_none, errW_some] <;> rfl) | (simp [*, errW_none, errW_some] <;> rfl), by repeat (first | (with_reducible first | exact HB.out | apply below_alloc | apply pw_below_drewN | apply below_drew1) | exact HB.out)⟩
        · rw [if_neg c7] at H
          have c7b0 : decide (a0 < 128) = false := decide_eq_false c7
          clear c7
          by_cases c11 : a0 < 2048
          · rw [if_pos c11] at H
            have c11b0 : decide (a0 < 2048) = true := decide_eq_true c11
            clear c11
            obtain ⟨y116, hy116⟩ : ∃ y_ : List Int, y_ = (([(wrap64 (192 + (wrap64 (Int.tdiv a0 64)))) % 256, (wrap64 (128 + (Int.tmod a0 64))) % 256] : List Int)) := ⟨_, rfl⟩
            replace H : (some (strOfNums y116)) = some r := by first | (rw [hy116]; with_reducible exact H) | (have H2_ := (Option.bind_some _ _).symm.trans H; rw [hy116]; with_reducible exact H2_) | (have H2_ := (Option.bind_some _ _).symm.trans H; with_reducible exact H2_) | with_reducible exact H | (rw [hy116]; exact H) | exact H
            have Ny116 := Aside0.mk hy116
            clear hy116
            obtain rfl := Option.some.inj H
            go_wp2_with (first | ((with_reducible refine gate_dst (N := 36) rfl ?_); refine Kd.R_lit (Kd.int .u8) _ 5 ?hg (N := 36) ?hd (xs := ([(wrap64 (192 + (wrap64 (Int.tdiv a0 64)))) % 256, (wrap64 (128 + (Int.tmod a0 64))) % 256] : List Int)) (inner := [.int .u8 ((wrap64 (192 + (wrap64 (Int.tdiv a0 64)))) % 256), .int .u8 ((wrap64 (128 + (Int.tmod a0 64))) % 256)]) (ok := fun _ => True) (okp := fun _ => True) ?hr ?hp (fun _ hk => hk) trivial (Below.refl _ _) (Nat.le_refl _) (by simp) ?_; (case hd => rfl); (case hg => rfl); (case hr => first | (go_simp; done) | (go_simp; rfl)); (case hp => exact (Reps.one (show Kd.M (Kd.int .u8) _ _ _ ((wrap64 (192 + (wrap64 (Int.tdiv a0 64)))) % 256) [.int .u8 ((wrap64 (192 + (wrap64 (Int.tdiv a0 64)))) % 256)] from rfl) (Reps.one (show Kd.M (Kd.int .u8) _ _ _ ((wrap64 (128 + (Int.tmod a0 64))) % 256) [.int .u8 ((wrap64 (128 + (Int.tmod a0 64))) % 256)] from rfl) (Reps.none _ _)))); intro v117 w12 ho13 hb hg_ hnew_; clear hg_ hnew_; (first | rw [← Ny116.out] at ho13 | (simp only [Int.reduceToNat] at ho13; rw [← Ny116.out] at ho13)); have n0_ := Aside0.mk (Kd.R_lower ho13 (below_size (by repeat (first | (with_reducible first | exact HB.out | apply below_alloc | apply pw_below_drewN | apply below_drew1) | exact HB.out)))); have n1_ := Aside0.mk (below_step (by repeat (first | (with_reducible first | exact HB.out | apply below_alloc | apply pw_below_drewN | apply below_drew1) | exact HB.out)) hb); clear HB; have HO118 := n0_; have HB := n1_; clear n0_ n1_; clear hb ho13; have hcv14 := own_string (P := Try.prog) Try.underlying28 Try.underlying5 Try.underlying9 (Kd.own_of_R HO118.out)))
            go_ret
            exact ⟨by first | rfl | (simp [errW_none, errW_some] <;> rfl) | (simp [*, errW_none, errW_some] <;> rfl), by repeat (first | (with_reducible first | exact HB.out | apply below_alloc | apply pw_below_drewN | apply below_drew1) | exact HB.out)⟩
          · rw [if_neg c11] at H
            have c11b0 : decide (a0 < 2048) = false := decide_eq_false c11
            clear c11
            by_cases c15 : a0 < 65536
            · rw [if_pos c15] at H
              have c15b0 : decide (a0 < 65536) = true := decide_eq_true c15
              clear c15
              obtain ⟨y119, hy119⟩ : ∃ y_ : List Int, y_ = (([(wrap64 (224 + (wrap64 (Int.tdiv a0 4096)))) % 256, (wrap64 (128 + (Int.tmod (wrap64 (Int.tdiv a0 64)) 64))) % 256, (wrap64 (128 + (Int.tmod a0 64))) % 256] : List Int)) := ⟨_, rfl⟩
              replace H : (some (strOfNums y119)) = some r := by first | (rw [hy119]; with_reducible exact H) | (have H2_ := (Option.bind_some _ _).symm.trans H; rw [hy119]; with_reducible exact H2_) | (have H2_ := (Option.bind_some _ _).symm.trans H; with_reducible exact H2_) | with_reducible exact H | (rw [hy119]; exact H) | exact H
              have Ny119 := Aside0.mk hy119
              clear hy119
              obtain rfl := Option.some.inj H
              go_wp2_with (first | ((with_reducible refine gate_dst (N := 54) rfl ?_); refine Kd.R_lit (Kd.int .u8) _ 5 ?hg (N := 54) ?hd (xs := ([(wrap64 (224 + (wrap64 (Int.tdiv a0 4096)))) % 256, (wrap64 (128 + (Int.tmod (wrap64 (Int.tdiv a0 64)) 64))) % 256, (wrap64 (128 + (Int.tmod a0 64))) % 256] : List Int)) (inner := [.int .u8 ((wrap64 (224 + (wrap64 (Int.tdiv a0 4096)))) % 256), .int .u8 ((wrap64 (128 + (Int.tmod (wrap64 (Int.tdiv a0 64)) 64))) % 256), .int .u8 ((wrap64 (128 + (Int.tmod a0 64))) % 256)]) (ok := fun _ => True) (okp := fun _ => True) ?hr ?hp (fun _ hk => hk) trivial (Below.refl _ _) (Nat.le_refl _) (by simp) ?_; (case hd => rfl); (case hg => rfl); (case hr => first | (go_simp; done) | (go_simp; rfl)); (case hp => exact (Reps.one (show Kd.M (Kd.int .u8) _ _ _ ((wrap64 (224 + (wrap64 (Int.tdiv a0 4096)))) % 256) [.int .u8 ((wrap64 (224 + (wrap64 (Int.tdiv a0 4096)))) % 256)] from rfl) (Reps.one (show Kd.M (Kd.int .u8) _ _ _ ((wrap64 (128 + (Int.tmod (wrap64 (Int.tdiv a0 64)) 64))) % 256) [.int .u8 ((wrap64 (128 + (Int.tmod (wrap64 (Int.tdiv a0 64)) 64))) % 256)] from rfl) (Reps.one (show Kd.M (Kd.int .u8) _ _ _ ((wrap64 (128 + (Int.tmod a0 64))) % 256) [.int .u8 ((wrap64 (128 + (Int.tmod a0 64))) % 256)] from rfl) (Reps.none _ _))))); intro v120 w16 ho17 hb hg_ hnew_; clear hg_ hnew_; (first | rw [← Ny119.out] at ho17 | (simp only [Int.reduceToNat] at ho17; rw [← Ny119.out] at ho17)); have n0_ := Aside0.mk (Kd.R_lower ho17 (below_size (by repeat (first | (with_reducible first | exact HB.out | apply below_alloc | apply pw_below_drewN | apply below_drew1) | exact HB.out)))); have n1_ := Aside0.mk (below_step (by repeat (first | (with_reducible first | exact HB.out | apply below_alloc | apply pw_below_drewN | apply below_drew1) | exact HB.out)) hb); clear HB; have HO121 := n0_; have HB := n1_; clear n0_ n1_; clear hb ho17; have hcv18 := own_string (P := Try.prog) Try.underlying28 Try.underlying5 Try.underlying9 (Kd.own_of_R HO121.out)))
              go_ret
              exact ⟨by first | rfl | (simp [errW_none, errW_some] <;> rfl) | (simp [*, errW_none, errW_some] <;> rfl), by repeat (first | (with_reducible first | exact HB.out | apply below_alloc | apply pw_below_drewN | apply below_drew1) | exact HB.out)⟩
            · rw [if_neg c15] at H
              have c15b0 : decide (a0 < 65536) = false := decide_eq_false c15
              clear c15
              obtain ⟨y122, hy122⟩ : ∃ y_ : List Int, y_ = (([(wrap64 (240 + (wrap64 (Int.tdiv a0 262144)))) % 256, (wrap64 (128 + (Int.tmod (wrap64 (Int.tdiv a0 4096)) 64))) % 256, (wrap64 (128 + (Int.tmod (wrap64 (Int.tdiv a0 64)) 64))) % 256, (wrap64 (128 + (Int.tmod a0 64))) % 256] : List Int)) := ⟨_, rfl⟩
              replace H : (some (strOfNums y122)) = some r := by first | (rw [hy122]; with_reducible exact H) | (have H2_ := (Option.bind_some _ _).symm.trans H; rw [hy122]; with_reducible exact H2_) | (have H2_ := (Option.bind_some _ _).symm.trans H; with_reducible exact H2_) | with_reducible exact H | (rw [hy122]; exact H) | exact H
              have Ny122 := Aside0.mk hy122
              clear hy122
              obtain rfl := Option.some.inj H
              go_wp2_with (first | ((with_reducible refine gate_dst (N := 74) rfl ?_); refine Kd.R_lit (Kd.int .u8) _ 5 ?hg (N := 74) ?hd (xs := ([(wrap64 (240 + (wrap64 (Int.tdiv a0 262144)))) % 256, (wrap64 (128 + (Int.tmod (wrap64 (Int.tdiv a0 4096)) 64))) % 256, (wrap64 (128 + (Int.tmod (wrap64 (Int.tdiv a0 64)) 64))) % 256, (wrap64 (128 + (Int.tmod a0 64))) % 256] : List Int)) (inner := [.int .u8 ((wrap64 (240 + (wrap64 (Int.tdiv a0 262144)))) % 256), .int .u8 ((wrap64 (128 + (Int.tmod (wrap64 (Int.tdiv a0 4096)) 64))) % 256), .int .u8 ((wrap64 (128 + (Int.tmod (wrap64 (Int.tdiv a0 64)) 64))) % 256), .int .u8 ((wrap64 (128 + (Int.tmod a0 64))) % 256)]) (ok := fun _ => True) (okp := fun _ => True) ?hr ?hp (fun _ hk => hk) trivial (Below.refl _ _) (Nat.le_refl _) (by simp) ?_; (case hd => rfl); (case hg => rfl); (case hr => first | (go_simp; done) | (go_simp; rfl)); (case hp => exact (Reps.one (show Kd.M (Kd.int .u8) _ _ _ ((wrap64 (240 + (wrap64 (Int.tdiv a0 262144)))) % 256) [.int .u8 ((wrap64 (240 + (wrap64 (Int.tdiv a0 262144)))) % 256)] from rfl) (Reps.one (show Kd.M (Kd.int .u8) _ _ _ ((wrap64 (128 + (Int.tmod (wrap64 (Int.tdiv a0 4096)) 64))) % 256) [.int .u8 ((wrap64 (128 + (Int.tmod (wrap64 (Int.tdiv a0 4096)) 64))) % 256)] from rfl) (Reps.one (show Kd.M (Kd.int .u8) _ _ _ ((wrap64 (128 + (Int.tmod (wrap64 (Int.tdiv a0 64)) 64))) % 256) [.int .u8 ((wrap64 (128 + (Int.tmod (wrap64 (Int.tdiv a0 64)) 64))) % 256)] from rfl) (Reps.one (show Kd.M (Kd.int .u8) _ _ _ ((wrap64 (128 + (Int.tmod a0 64))) % 256) [.int .u8 ((wrap64 (128 + (Int.tmod a0 64))) % 256)] from rfl) (Reps.none _ _)))))); intro v123 w19 ho20 hb hg_ hnew_; clear hg_ hnew_; (first | rw [← Ny122.out] at ho20 | (simp only [Int.reduceToNat] at ho20; rw [← Ny122.out] at ho20)); have n0_ := Aside0.mk (Kd.R_lower ho20 (below_size (by repeat (first | (with_reducible first | exact HB.out | apply below_alloc | apply pw_below_drewN | apply below_drew1) | exact HB.out)))); have n1_ := Aside0.mk (below_step (by repeat (first | (with_reducible first | exact HB.out | apply below_alloc | apply pw_below_drewN | apply below_drew1) | exact HB.out)) hb); clear HB; have HO124 := n0_; have HB := n1_; clear n0_ n1_; clear hb ho20; have hcv21 := own_string (P := Try.prog) Try.underlying28 Try.underlying5 Try.underlying9 (Kd.own_of_R HO124.out)))
              go_ret
              exact ⟨by first | rfl | (simp [errW_none, errW_some] <;> rfl) | (simp [*, errW_none, errW_some] <;> rfl), by repeat (first | (with_reducible first | exact HB.out | apply below_alloc | apply pw_below_drewN | apply below_drew1) | exact HB.out)⟩

/-! ### inkwelllaw03_UtfAll: function 4 -/
def inkwelllaw03_UtfAll.f (k : Nat) (a0 : Int) : Option (Bool) := (inkwelllaw03_awake.f k).bind fun t125 => (if t125 = true then ((inkwellref03_Put.f k (Int.tmod (wrap64 (a0)) 1200000)).bind fun t126 => (if t126.toList = ([] : List UInt8) then ((some (([(wrap64 (224 + (Int.tmod (wrap64 (Int.tdiv (Int.tmod (wrap64 (a0)) 1200000) 4096)) 16))) % 256, (wrap64 (128 + (Int.tmod (wrap64 (Int.tdiv (Int.tmod (wrap64 (a0)) 1200000) 64)) 64))) % 256, (wrap64 (128 + (Int.tmod (Int.tmod (wrap64 (a0)) 1200000) 64))) % 256] : List Int) : List Int)).bind fun y127 => (if (Int.tmod (wrap64 (a0)) 1200000) > 65535 then ((some (([(wrap64 (240 + (wrap64 (Int.tdiv (Int.tmod (wrap64 (a0)) 1200000) 262144)))) % 256, (wrap64 (128 + (Int.tmod (wrap64 (Int.tdiv (Int.tmod (wrap64 (a0)) 1200000) 4096)) 64))) % 256, (wrap64 (128 + (Int.tmod (wrap64 (Int.tdiv (Int.tmod (wrap64 (a0)) 1200000) 64)) 64))) % 256, (wrap64 (128 + (Int.tmod (Int.tmod (wrap64 (a0)) 1200000) 64))) % 256] : List Int) : List Int)).bind fun y130 => ((utf_Next.f k (strOfNums y130)).bind fun t133 => (if t133 = 0 then ((utf_Valid.f k (([strOfNums y130] : List ByteArray))).bind fun t137 => (some (!t137))) else (some false)))) else ((utf_Next.f k (strOfNums y127)).bind fun t138 => (if t138 = 0 then ((utf_Valid.f k (([strOfNums y127] : List ByteArray))).bind fun t142 => (some (!t142))) else (some false))))) else ((utf_Next.f k t126).bind fun t143 => (if t143 = (t126.size : Int) then (if t126.size + 1 ≤ 9223372036854775807 then ((utf_Next.f k (t126 ++ (⟨#[120]⟩ : ByteArray))).bind fun t144 => (if t144 = (t126.size : Int) then ((utf_Valid.f k (([t126] : List ByteArray))).bind fun t148 => (if t148 = true then (if (t126.size : Int) = 1 then (some true) else (if 0 ≤ (wrap64 ((t126.size : Int) - 1)) then (if (wrap64 ((t126.size : Int) - 1)) ≤ (t126.size : Int) then ((utf_Next.f k (t126.extract 0 ((wrap64 ((t126.size : Int) - 1)) : Int).toNat)).bind fun t149 => (some (t149 == 0))) else (none)) else (none))) else (some false))) else (some false))) else (none)) else (some false))))) else (some false))
theorem inkwelllaw03_UtfAll.mono : ∀ a0 k, LeO (inkwelllaw03_UtfAll.f k a0) (inkwelllaw03_UtfAll.f (k + 1) a0) := by
  intro a0 k
  unfold inkwelllaw03_UtfAll.f
  repeat' first
      | (with_reducible exact inkwelllaw03_awake.mono _)
      | (with_reducible exact inkwellref03_Put.mono _ _)
      | (with_reducible exact utf_Next.mono _ _)
      | (with_reducible exact utf_Valid.mono _ _)
      | (with_reducible exact LeO.refl _)
      | (with_reducible exact LeO.none _)
      | (with_reducible refine LeO.ite ?_ ?_)
      | (with_reducible refine LeO.bind ?_ (fun _ => ?_))
      | exact inkwelllaw03_awake.mono _
      | exact inkwellref03_Put.mono _ _
      | exact utf_Next.mono _ _
      | exact utf_Valid.mono _ _
      | exact LeO.none _
      | refine LeO.ite ?_ ?_
      | refine LeO.bind ?_ (fun _ => ?_)
set_option maxHeartbeats 8000000 in
set_option maxRecDepth 100000 in
theorem inkwelllaw03_UtfAll.calls (k : Nat) (a0 : Int) (r : Bool) (w : World) (h : inkwelllaw03_UtfAll.f k a0 = some r) :
    Calls Try.prog 4 #[.int .u32 a0] w fun e w' => e = .returned (.bool r) ∧ Below w.heap.size w w' := by
  have HB := Aside0.mk (Below.refl w.heap.size w)
  have H : ((inkwelllaw03_awake.f k).bind fun t125 => (if t125 = true then ((inkwellref03_Put.f k (Int.tmod (wrap64 (a0)) 1200000)).bind fun t126 => (if t126.toList = ([] : List UInt8) then ((some (([(wrap64 (224 + (Int.tmod (wrap64 (Int.tdiv (Int.tmod (wrap64 (a0)) 1200000) 4096)) 16))) % 256, (wrap64 (128 + (Int.tmod (wrap64 (Int.tdiv (Int.tmod (wrap64 (a0)) 1200000) 64)) 64))) % 256, (wrap64 (128 + (Int.tmod (Int.tmod (wrap64 (a0)) 1200000) 64))) % 256] : List Int) : List Int)).bind fun y127 => (if (Int.tmod (wrap64 (a0)) 1200000) > 65535 then ((some (([(wrap64 (240 + (wrap64 (Int.tdiv (Int.tmod (wrap64 (a0)) 1200000) 262144)))) % 256, (wrap64 (128 + (Int.tmod (wrap64 (Int.tdiv (Int.tmod (wrap64 (a0)) 1200000) 4096)) 64))) % 256, (wrap64 (128 + (Int.tmod (wrap64 (Int.tdiv (Int.tmod (wrap64 (a0)) 1200000) 64)) 64))) % 256, (wrap64 (128 + (Int.tmod (Int.tmod (wrap64 (a0)) 1200000) 64))) % 256] : List Int) : List Int)).bind fun y130 => ((utf_Next.f k (strOfNums y130)).bind fun t133 => (if t133 = 0 then ((utf_Valid.f k (([strOfNums y130] : List ByteArray))).bind fun t137 => (some (!t137))) else (some false)))) else ((utf_Next.f k (strOfNums y127)).bind fun t138 => (if t138 = 0 then ((utf_Valid.f k (([strOfNums y127] : List ByteArray))).bind fun t142 => (some (!t142))) else (some false))))) else ((utf_Next.f k t126).bind fun t143 => (if t143 = (t126.size : Int) then (if t126.size + 1 ≤ 9223372036854775807 then ((utf_Next.f k (t126 ++ (⟨#[120]⟩ : ByteArray))).bind fun t144 => (if t144 = (t126.size : Int) then ((utf_Valid.f k (([t126] : List ByteArray))).bind fun t148 => (if t148 = true then (if (t126.size : Int) = 1 then (some true) else (if 0 ≤ (wrap64 ((t126.size : Int) - 1)) then (if (wrap64 ((t126.size : Int) - 1)) ≤ (t126.size : Int) then ((utf_Next.f k (t126.extract 0 ((wrap64 ((t126.size : Int) - 1)) : Int).toNat)).bind fun t149 => (some (t149 == 0))) else (none)) else (none))) else (some false))) else (some false))) else (none)) else (some false))))) else (some false))) = some r := h
  clear h
  replace H := Option.bind_eq_some_iff.mp H
  obtain ⟨t125, A20, H⟩ := H
  replace H : (if t125 = true then ((inkwellref03_Put.f k (Int.tmod (wrap64 (a0)) 1200000)).bind fun t126 => (if t126.toList = ([] : List UInt8) then ((some (([(wrap64 (224 + (Int.tmod (wrap64 (Int.tdiv (Int.tmod (wrap64 (a0)) 1200000) 4096)) 16))) % 256, (wrap64 (128 + (Int.tmod (wrap64 (Int.tdiv (Int.tmod (wrap64 (a0)) 1200000) 64)) 64))) % 256, (wrap64 (128 + (Int.tmod (Int.tmod (wrap64 (a0)) 1200000) 64))) % 256] : List Int) : List Int)).bind fun y127 => (if (Int.tmod (wrap64 (a0)) 1200000) > 65535 then ((some (([(wrap64 (240 + (wrap64 (Int.tdiv (Int.tmod (wrap64 (a0)) 1200000) 262144)))) % 256, (wrap64 (128 + (Int.tmod (wrap64 (Int.tdiv (Int.tmod (wrap64 (a0)) 1200000) 4096)) 64))) % 256, (wrap64 (128 + (Int.tmod (wrap64 (Int.tdiv (Int.tmod (wrap64 (a0)) 1200000) 64)) 64))) % 256, (wrap64 (128 + (Int.tmod (Int.tmod (wrap64 (a0)) 1200000) 64))) % 256] : List Int) : List Int)).bind fun y130 => ((utf_Next.f k (strOfNums y130)).bind fun t133 => (if t133 = 0 then ((utf_Valid.f k (([strOfNums y130] : List ByteArray))).bind fun t137 => (some (!t137))) else (some false)))) else ((utf_Next.f k (strOfNums y127)).bind fun t138 => (if t138 = 0 then ((utf_Valid.f k (([strOfNums y127] : List ByteArray))).bind fun t142 => (some (!t142))) else (some false))))) else ((utf_Next.f k t126).bind fun t143 => (if t143 = (t126.size : Int) then (if t126.size + 1 ≤ 9223372036854775807 then ((utf_Next.f k (t126 ++ (⟨#[120]⟩ : ByteArray))).bind fun t144 => (if t144 = (t126.size : Int) then ((utf_Valid.f k (([t126] : List ByteArray))).bind fun t148 => (if t148 = true then (if (t126.size : Int) = 1 then (some true) else (if 0 ≤ (wrap64 ((t126.size : Int) - 1)) then (if (wrap64 ((t126.size : Int) - 1)) ≤ (t126.size : Int) then ((utf_Next.f k (t126.extract 0 ((wrap64 ((t126.size : Int) - 1)) : Int).toNat)).bind fun t149 => (some (t149 == 0))) else (none)) else (none))) else (some false))) else (some false))) else (none)) else (some false))))) else (some false)) = some r := H
  have A2 := Aside0.mk A20
  clear A20
  by_cases c3 : t125 = true
  · subst c3
    have H1 : ((inkwellref03_Put.f k (Int.tmod (wrap64 (a0)) 1200000)).bind fun t126 => (if t126.toList = ([] : List UInt8) then ((some (([(wrap64 (224 + (Int.tmod (wrap64 (Int.tdiv (Int.tmod (wrap64 (a0)) 1200000) 4096)) 16))) % 256, (wrap64 (128 + (Int.tmod (wrap64 (Int.tdiv (Int.tmod (wrap64 (a0)) 1200000) 64)) 64))) % 256, (wrap64 (128 + (Int.tmod (Int.tmod (wrap64 (a0)) 1200000) 64))) % 256] : List Int) : List Int)).bind fun y127 => (if (Int.tmod (wrap64 (a0)) 1200000) > 65535 then ((some (([(wrap64 (240 + (wrap64 (Int.tdiv (Int.tmod (wrap64 (a0)) 1200000) 262144)))) % 256, (wrap64 (128 + (Int.tmod (wrap64 (Int.tdiv (Int.tmod (wrap64 (a0)) 1200000) 4096)) 64))) % 256, (wrap64 (128 + (Int.tmod (wrap64 (Int.tdiv (Int.tmod (wrap64 (a0)) 1200000) 64)) 64))) % 256, (wrap64 (128 + (Int.tmod (Int.tmod (wrap64 (a0)) 1200000) 64))) % 256] : List Int) : List Int)).bind fun y130 => ((utf_Next.f k (strOfNums y130)).bind fun t133 => (if t133 = 0 then ((utf_Valid.f k (([strOfNums y130] : List ByteArray))).bind fun t137 => (some (!t137))) else (some false)))) else ((utf_Next.f k (strOfNums y127)).bind fun t138 => (if t138 = 0 then ((utf_Valid.f k (([strOfNums y127] : List ByteArray))).bind fun t142 => (some (!t142))) else (some false))))) else ((utf_Next.f k t126).bind fun t143 => (if t143 = (t126.size : Int) then (if t126.size + 1 ≤ 9223372036854775807 then ((utf_Next.f k (t126 ++ (⟨#[120]⟩ : ByteArray))).bind fun t144 => (if t144 = (t126.size : Int) then ((utf_Valid.f k (([t126] : List ByteArray))).bind fun t148 => (if t148 = true then (if (t126.size : Int) = 1 then (some true) else (if 0 ≤ (wrap64 ((t126.size : Int) - 1)) then (if (wrap64 ((t126.size : Int) - 1)) ≤ (t126.size : Int) then ((utf_Next.f k (t126.extract 0 ((wrap64 ((t126.size : Int) - 1)) : Int).toNat)).bind fun t149 => (some (t149 == 0))) else (none)) else (none))) else (some false))) else (some false))) else (none)) else (some false))))) = some r := by rw [if_pos rfl] at H; exact H
    clear H
    have H := H1
    clear H1
    replace H := Option.bind_eq_some_iff.mp H
    obtain ⟨t126, A40, H⟩ := H
    replace H : (if t126.toList = ([] : List UInt8) then ((some (([(wrap64 (224 + (Int.tmod (wrap64 (Int.tdiv (Int.tmod (wrap64 (a0)) 1200000) 4096)) 16))) % 256, (wrap64 (128 + (Int.tmod (wrap64 (Int.tdiv (Int.tmod (wrap64 (a0)) 1200000) 64)) 64))) % 256, (wrap64 (128 + (Int.tmod (Int.tmod (wrap64 (a0)) 1200000) 64))) % 256] : List Int) : List Int)).bind fun y127 => (if (Int.tmod (wrap64 (a0)) 1200000) > 65535 then ((some (([(wrap64 (240 + (wrap64 (Int.tdiv (Int.tmod (wrap64 (a0)) 1200000) 262144)))) % 256, (wrap64 (128 + (Int.tmod (wrap64 (Int.tdiv (Int.tmod (wrap64 (a0)) 1200000) 4096)) 64))) % 256, (wrap64 (128 + (Int.tmod (wrap64 (Int.tdiv (Int.tmod (wrap64 (a0)) 1200000) 64)) 64))) % 256, (wrap64 (128 + (Int.tmod (Int.tmod (wrap64 (a0)) 1200000) 64))) % 256] : List Int) : List Int)).bind fun y130 => ((utf_Next.f k (strOfNums y130)).bind fun t133 => (if t133 = 0 then ((utf_Valid.f k (([strOfNums y130] : List ByteArray))).bind fun t137 => (some (!t137))) else (some false)))) else ((utf_Next.f k (strOfNums y127)).bind fun t138 => (if t138 = 0 then ((utf_Valid.f k (([strOfNums y127] : List ByteArray))).bind fun t142 => (some (!t142))) else (some false))))) else ((utf_Next.f k t126).bind fun t143 => (if t143 = (t126.size : Int) then (if t126.size + 1 ≤ 9223372036854775807 then ((utf_Next.f k (t126 ++ (⟨#[120]⟩ : ByteArray))).bind fun t144 => (if t144 = (t126.size : Int) then ((utf_Valid.f k (([t126] : List ByteArray))).bind fun t148 => (if t148 = true then (if (t126.size : Int) = 1 then (some true) else (if 0 ≤ (wrap64 ((t126.size : Int) - 1)) then (if (wrap64 ((t126.size : Int) - 1)) ≤ (t126.size : Int) then ((utf_Next.f k (t126.extract 0 ((wrap64 ((t126.size : Int) - 1)) : Int).toNat)).bind fun t149 => (some (t149 == 0))) else (none)) else (none))) else (some false))) else (some false))) else (none)) else (some false)))) = some r := H
    have A4 := Aside0.mk A40
    clear A40
    by_cases c5 : t126.toList = ([] : List UInt8)
    · rw [if_pos c5] at H
      have c5b0 : (t126.toList == ([] : List UInt8)) = true := beq_iff_eq.mpr c5
      have c5b1 : (t126.toList != ([] : List UInt8)) = false := bne_eq_false_iff_eq.mpr c5
      clear c5
      obtain ⟨y127, hy127⟩ : ∃ y_ : List Int, y_ = (([(wrap64 (224 + (Int.tmod (wrap64 (Int.tdiv (Int.tmod (wrap64 (a0)) 1200000) 4096)) 16))) % 256, (wrap64 (128 + (Int.tmod (wrap64 (Int.tdiv (Int.tmod (wrap64 (a0)) 1200000) 64)) 64))) % 256, (wrap64 (128 + (Int.tmod (Int.tmod (wrap64 (a0)) 1200000) 64))) % 256] : List Int)) := ⟨_, rfl⟩
      replace H : (if (Int.tmod (wrap64 (a0)) 1200000) > 65535 then ((some (([(wrap64 (240 + (wrap64 (Int.tdiv (Int.tmod (wrap64 (a0)) 1200000) 262144)))) % 256, (wrap64 (128 + (Int.tmod (wrap64 (Int.tdiv (Int.tmod (wrap64 (a0)) 1200000) 4096)) 64))) % 256, (wrap64 (128 + (Int.tmod (wrap64 (Int.tdiv (Int.tmod (wrap64 (a0)) 1200000) 64)) 64))) % 256, (wrap64 (128 + (Int.tmod (Int.tmod (wrap64 (a0)) 1200000) 64))) % 256] : List Int) : List Int)).bind fun y130 => ((utf_Next.f k (strOfNums y130)).bind fun t133 => (if t133 = 0 then ((utf_Valid.f k (([strOfNums y130] : List ByteArray))).bind fun t137 => (some (!t137))) else (some false)))) else ((utf_Next.f k (strOfNums y127)).bind fun t138 => (if t138 = 0 then ((utf_Valid.f k (([strOfNums y127] : List ByteArray))).bind fun t142 => (some (!t142))) else (some false)))) = some r := by first | (rw [hy127]; with_reducible exact H) | (have H2_ := (Option.bind_some _ _).symm.trans H; rw [hy127]; with_reducible exact H2_) | (have H2_ := (Option.bind_some _ _).symm.trans H; with_reducible exact H2_) | with_reducible exact H | (rw [hy127]; exact H) | exact H
      have Ny127 := Aside0.mk hy127
      clear hy127
      by_cases c6 : (Int.tmod (wrap64 (a0)) 1200000) > 65535
      · rw [if_pos c6] at H
        have c6b0 : decide (65535 < (Int.tmod (wrap64 (a0)) 1200000)) = true := decide_eq_true c6
        clear c6
        obtain ⟨y130, hy130⟩ : ∃ y_ : List Int, y_ = (([(wrap64 (240 + (wrap64 (Int.tdiv (Int.tmod (wrap64 (a0)) 1200000) 262144)))) % 256, (wrap64 (128 + (Int.tmod (wrap64 (Int.tdiv (Int.tmod (wrap64 (a0)) 1200000) 4096)) 64))) % 256, (wrap64 (128 + (Int.tmod (wrap64 (Int.tdiv (Int.tmod (wrap64 (a0)) 1200000) 64)) 64))) % 256, (wrap64 (128 + (Int.tmod (Int.tmod (wrap64 (a0)) 1200000) 64))) % 256] : List Int)) := ⟨_, rfl⟩
        replace H : ((utf_Next.f k (strOfNums y130)).bind fun t133 => (if t133 = 0 then ((utf_Valid.f k (([strOfNums y130] : List ByteArray))).bind fun t137 => (some (!t137))) else (some false))) = some r := by first | (rw [hy130]; with_reducible exact H) | (have H2_ := (Option.bind_some _ _).symm.trans H; rw [hy130]; with_reducible exact H2_) | (have H2_ := (Option.bind_some _ _).symm.trans H; with_reducible exact H2_) | with_reducible exact H | (rw [hy130]; exact H) | exact H
        have Ny130 := Aside0.mk hy130
        clear hy130
        replace H := Option.bind_eq_some_iff.mp H
        obtain ⟨t133, A70, H⟩ := H
        replace H : (if t133 = 0 then ((utf_Valid.f k (([strOfNums y130] : List ByteArray))).bind fun t137 => (some (!t137))) else (some false)) = some r := H
        have A7 := Aside0.mk A70
        clear A70
        by_cases c8 : t133 = 0
        · rw [if_pos c8] at H
          have c8b0 : (t133 == 0) = true := beq_iff_eq.mpr c8
          have c8b1 : (t133 != 0) = false := bne_eq_false_iff_eq.mpr c8
          clear c8
          obtain ⟨y134, hy134⟩ : ∃ y_ : List ByteArray, y_ = (([strOfNums y130] : List ByteArray)) := ⟨_, rfl⟩
          replace H : ((utf_Valid.f k y134).bind fun t137 => (some (!t137))) = some r := by first | (rw [hy134]; with_reducible exact H) | (have H2_ := (Option.bind_some _ _).symm.trans H; rw [hy134]; with_reducible exact H2_) | (have H2_ := (Option.bind_some _ _).symm.trans H; with_reducible exact H2_) | with_reducible exact H | (rw [hy134]; exact H) | exact H
          have Ny134 := Aside0.mk hy134
          clear hy134
          replace H := Option.bind_eq_some_iff.mp H
          obtain ⟨t137, A90, H⟩ := H
          replace H : (some (!t137)) = some r := H
          have A9 := Aside0.mk A90
          clear A90
          obtain rfl := Option.some.inj H
          go_enter Try.func4, Try.ntmps4
          go_wp2_with (first | ((with_reducible refine gate_callee (f := 8) rfl ?_); refine goesL_ (some 6) rfl rfl Try.func8 (by kernel_rfl) rfl #[] rfl (by (try simp only [List.map_toArray, List.map_cons, List.map_nil]); first | done | rfl | (simp only [List.length_drop, List.length_take]; rfl)) ?_; (with_reducible refine (inkwelllaw03_awake.calls k  true _ A2.out).mono ?_); rintro e w10 ⟨rfl, hb⟩; refine ⟨_, rfl, ?_⟩; have n0_ := Aside0.mk (below_step (by repeat (first | (with_reducible first | exact HB.out | apply below_alloc | apply pw_below_drewN | apply below_drew1) | exact HB.out)) hb); clear HB; have HB := n0_; clear n0_; (try clear hb); (try clear hb2); (try clear hk); (try clear hi)) | ((with_reducible refine gate_callee (f := 14) rfl ?_); refine goesL_ (some 12) rfl rfl Try.func14 (by kernel_rfl) rfl #[.int .i64 (Int.tmod (wrap64 (a0)) 1200000)] rfl (by (try simp only [List.map_toArray, List.map_cons, List.map_nil]); first | done | rfl | (simp only [List.length_drop, List.length_take]; rfl)) ?_; (with_reducible refine (inkwellref03_Put.calls k (Int.tmod (wrap64 (a0)) 1200000) t126 _ A4.out).mono ?_); rintro e w11 ⟨rfl, hb⟩; refine ⟨_, rfl, ?_⟩; have n0_ := Aside0.mk (below_step (by repeat (first | (with_reducible first | exact HB.out | apply below_alloc | apply pw_below_drewN | apply below_drew1) | exact HB.out)) hb); clear HB; have HB := n0_; clear n0_; (try clear hb); (try clear hb2); (try clear hk); (try clear hi)) | ((with_reducible refine gate_dst (N := 29) rfl ?_); (try (refine gate_guard (by rfl) ?_; dsimp only)); refine Kd.R_lit (Kd.int .u8) _ 5 ?hg (N := 29) ?hd (xs := ([(wrap64 (224 + (Int.tmod (wrap64 (Int.tdiv (Int.tmod (wrap64 (a0)) 1200000) 4096)) 16))) % 256, (wrap64 (128 + (Int.tmod (wrap64 (Int.tdiv (Int.tmod (wrap64 (a0)) 1200000) 64)) 64))) % 256, (wrap64 (128 + (Int.tmod (Int.tmod (wrap64 (a0)) 1200000) 64))) % 256] : List Int)) (inner := [.int .u8 ((wrap64 (224 + (Int.tmod (wrap64 (Int.tdiv (Int.tmod (wrap64 (a0)) 1200000) 4096)) 16))) % 256), .int .u8 ((wrap64 (128 + (Int.tmod (wrap64 (Int.tdiv (Int.tmod (wrap64 (a0)) 1200000) 64)) 64))) % 256), .int .u8 ((wrap64 (128 + (Int.tmod (Int.tmod (wrap64 (a0)) 1200000) 64))) % 256)]) (ok := fun _ => True) (okp := fun _ => True) ?hr ?hp (fun _ hk => hk) trivial (Below.refl _ _) (Nat.le_refl _) (by simp) ?_; (case hd => rfl); (case hg => rfl); (case hr => first | (go_simp; done) | (go_simp; rfl)); (case hp => exact (Reps.one (show Kd.M (Kd.int .u8) _ _ _ ((wrap64 (224 + (Int.tmod (wrap64 (Int.tdiv (Int.tmod (wrap64 (a0)) 1200000) 4096)) 16))) % 256) [.int .u8 ((wrap64 (224 + (Int.tmod (wrap64 (Int.tdiv (Int.tmod (wrap64 (a0)) 1200000) 4096)) 16))) % 256)] from rfl) (Reps.one (show Kd.M (Kd.int .u8) _ _ _ ((wrap64 (128 + (Int.tmod (wrap64 (Int.tdiv (Int.tmod (wrap64 (a0)) 1200000) 64)) 64))) % 256) [.int .u8 ((wrap64 (128 + (Int.tmod (wrap64 (Int.tdiv (Int.tmod (wrap64 (a0)) 1200000) 64)) 64))) % 256)] from rfl) (Reps.one (show Kd.M (Kd.int .u8) _ _ _ ((wrap64 (128 + (Int.tmod (Int.tmod (wrap64 (a0)) 1200000) 64))) % 256) [.int .u8 ((wrap64 (128 + (Int.tmod (Int.tmod (wrap64 (a0)) 1200000) 64))) % 256)] from rfl) (Reps.none _ _))))); intro v128 w12 ho13 hb hg_ hnew_; clear hg_ hnew_; (first | rw [← Ny127.out] at ho13 | (simp only [Int.reduceToNat] at ho13; rw [← Ny127.out] at ho13)); have n0_ := Aside0.mk (Kd.R_lower ho13 (below_size (by repeat (first | (with_reducible first | exact HB.out | apply below_alloc | apply pw_below_drewN | apply below_drew1) | exact HB.out)))); have n1_ := Aside0.mk (below_step (by repeat (first | (with_reducible first | exact HB.out | apply below_alloc | apply pw_below_drewN | apply below_drew1) | exact HB.out)) hb); clear HB; have HO129 := n0_; have HB := n1_; clear n0_ n1_; clear hb ho13; have hcv14 := own_string (P := Try.prog) Try.underlying28 Try.underlying5 Try.underlying9 (Kd.own_of_R HO129.out)) | ((with_reducible refine gate_dst (N := 51) rfl ?_); (try (refine gate_guard (by rfl) ?_; dsimp only)); refine Kd.R_lit (Kd.int .u8) _ 5 ?hg (N := 51) ?hd (xs := ([(wrap64 (240 + (wrap64 (Int.tdiv (Int.tmod (wrap64 (a0)) 1200000) 262144)))) % 256, (wrap64 (128 + (Int.tmod (wrap64 (Int.tdiv (Int.tmod (wrap64 (a0)) 1200000) 4096)) 64))) % 256, (wrap64 (128 + (Int.tmod (wrap64 (Int.tdiv (Int.tmod (wrap64 (a0)) 1200000) 64)) 64))) % 256, (wrap64 (128 + (Int.tmod (Int.tmod (wrap64 (a0)) 1200000) 64))) % 256] : List Int)) (inner := [.int .u8 ((wrap64 (240 + (wrap64 (Int.tdiv (Int.tmod (wrap64 (a0)) 1200000) 262144)))) % 256), .int .u8 ((wrap64 (128 + (Int.tmod (wrap64 (Int.tdiv (Int.tmod (wrap64 (a0)) 1200000) 4096)) 64))) % 256), .int .u8 ((wrap64 (128 + (Int.tmod (wrap64 (Int.tdiv (Int.tmod (wrap64 (a0)) 1200000) 64)) 64))) % 256), .int .u8 ((wrap64 (128 + (Int.tmod (Int.tmod (wrap64 (a0)) 1200000) 64))) % 256)]) (ok := fun _ => True) (okp := fun _ => True) ?hr ?hp (fun _ hk => hk) trivial (Below.refl _ _) (Nat.le_refl _) (by simp) ?_; (case hd => rfl); (case hg => rfl); (case hr => first | (go_simp; done) | (go_simp; rfl)); (case hp => exact (Reps.one (show Kd.M (Kd.int .u8) _ _ _ ((wrap64 (240 + (wrap64 (Int.tdiv (Int.tmod (wrap64 (a0)) 1200000) 262144)))) % 256) [.int .u8 ((wrap64 (240 + (wrap64 (Int.tdiv (Int.tmod (wrap64 (a0)) 1200000) 262144)))) % 256)] from rfl) (Reps.one (show Kd.M (Kd.int .u8) _ _ _ ((wrap64 (128 + (Int.tmod (wrap64 (Int.tdiv (Int.tmod (wrap64 (a0)) 1200000) 4096)) 64))) % 256) [.int .u8 ((wrap64 (128 + (Int.tmod (wrap64 (Int.tdiv (Int.tmod (wrap64 (a0)) 1200000) 4096)) 64))) % 256)] from rfl) (Reps.one (show Kd.M (Kd.int .u8) _ _ _ ((wrap64 (128 + (Int.tmod (wrap64 (Int.tdiv (Int.tmod (wrap64 (a0)) 1200000) 64)) 64))) % 256) [.int .u8 ((wrap64 (128 + (Int.tmod (wrap64 (Int.tdiv (Int.tmod (wrap64 (a0)) 1200000) 64)) 64))) % 256)] from rfl) (Reps.one (show Kd.M (Kd.int .u8) _ _ _ ((wrap64 (128 + (Int.tmod (Int.tmod (wrap64 (a0)) 1200000) 64))) % 256) [.int .u8 ((wrap64 (128 + (Int.tmod (Int.tmod (wrap64 (a0)) 1200000) 64))) % 256)] from rfl) (Reps.none _ _)))))); intro v131 w15 ho16 hb hg_ hnew_; clear hg_ hnew_; (first | rw [← Ny130.out] at ho16 | (simp only [Int.reduceToNat] at ho16; rw [← Ny130.out] at ho16)); have n0_ := Aside0.mk (Kd.R_elder' (by (with_reducible repeat (first | apply Kd.R_alloc | apply Kd.R_drewN | apply Kd.R_drew)); exact HO129.out) (Kd.R_base ho16) hb); have n1_ := Aside0.mk (Kd.R_lower (Kd.R_new' ho16 (Kd.R_lt (by (with_reducible repeat (first | apply Kd.R_alloc | apply Kd.R_drewN | apply Kd.R_drew)); exact HO129.out))) (below_size (by repeat (first | (with_reducible first | exact HB.out | apply below_alloc | apply pw_below_drewN | apply below_drew1) | exact HB.out)))); have n2_ := Aside0.mk (below_step (by repeat (first | (with_reducible first | exact HB.out | apply below_alloc | apply pw_below_drewN | apply below_drew1) | exact HB.out)) hb); clear HO129; clear HB; have HO129 := n0_; have HO132 := n1_; have HB := n2_; clear n0_ n1_ n2_; clear hb ho16; have hcv17 := own_string (P := Try.prog) Try.underlying28 Try.underlying5 Try.underlying9 (Kd.own_of_R HO132.out)) | ((with_reducible refine gate_callee (f := 10) rfl ?_); refine goesL_ (some 54) rfl rfl Try.func10 (by kernel_rfl) rfl #[.string (strOfNums y130)] rfl (by (try simp only [List.map_toArray, List.map_cons, List.map_nil]); first | done | rfl | (simp only [List.length_drop, List.length_take]; rfl)) ?_; (with_reducible refine (utf_Next.calls k (strOfNums y130) t133 _ A7.out).mono ?_); rintro e w' ⟨rfl, ⟨nd, rfl⟩⟩; refine ⟨_, rfl, ?_⟩) | ((with_reducible refine gate_dst (N := 58) rfl ?_); (try (refine gate_guard (by rfl) ?_; dsimp only)); refine Kd.R_lit Kd.string _ 9 ?hg (N := 58) ?hd (xs := ([strOfNums y130] : List ByteArray)) (inner := [.string (strOfNums y130)]) (ok := fun _ => True) (okp := fun _ => True) ?hr ?hp (fun _ hk => hk) trivial (Below.refl _ _) (Nat.le_refl _) (by simp) ?_; (case hd => rfl); (case hg => rfl); (case hr => first | (go_simp; done) | (go_simp; rfl)); (case hp => exact (Reps.one (show Kd.M Kd.string _ _ _ (strOfNums y130) [.string (strOfNums y130)] from rfl) (Reps.none _ _))); intro v135 w18 ho19 hb hg_ hnew_; clear hg_ hnew_; (first | rw [← Ny134.out] at ho19 | (simp only [Int.reduceToNat] at ho19; rw [← Ny134.out] at ho19)); have n0_ := Aside0.mk (Kd.R_below (by (with_reducible repeat (first | apply Kd.R_alloc | apply Kd.R_drewN | apply Kd.R_drew)); exact HO129.out) hb); have n1_ := Aside0.mk (Kd.R_below (by (with_reducible repeat (first | apply Kd.R_alloc | apply Kd.R_drewN | apply Kd.R_drew)); exact HO132.out) hb); have n2_ := Aside0.mk (Kd.R_lower ho19 (below_size (by repeat (first | (with_reducible first | exact HB.out | apply below_alloc | apply pw_below_drewN | apply below_drew1) | exact HB.out)))); have n3_ := Aside0.mk (below_step (by repeat (first | (with_reducible first | exact HB.out | apply below_alloc | apply pw_below_drewN | apply below_drew1) | exact HB.out)) hb); clear HO129; clear HO132; clear HB; have HO129 := n0_; have HO132 := n1_; have HO136 := n2_; have HB := n3_; clear n0_ n1_ n2_ n3_; clear hb ho19; obtain ⟨Ao20, co20, eo20⟩ := Kd.R_slice HO136.out; subst eo20) | (go_at_call 13; (with_reducible refine (utf_Valid.calls k _ _ y134 t137 _ ?side1 ?side2 A9.out).mono ?_); (case side1 => repeat (first | exact (Kd.R_reads' HO136.out).2.2 | (with_reducible refine Kd.C_alloc ?_ _) | (with_reducible refine Kd.C_drewN ?_ _) | (with_reducible refine Kd.C_drew ?_))); (case side2 => exact (Kd.R_reads' HO136.out).2.1); rintro e w' ⟨rfl, ⟨nd, rfl⟩⟩))
          go_ret
          exact ⟨by first | rfl | (simp [errW_none, errW_some] <;> rfl) | (simp [*, errW_none, errW_some] <;> rfl), by repeat (first | (with_reducible first | exact HB.out | apply below_alloc | apply pw_below_drewN | apply below_drew1) | exact HB.out)⟩
        · rw [if_neg c8] at H
          have c8b0 : (t133 == 0) = false := beq_eq_false_iff_ne.mpr c8
          have c8b1 : (t133 != 0) = true := bne_iff_ne.mpr c8
          obtain rfl := Option.some.inj H
          go_enter Try.func4, Try.ntmps4
          go_wp2_with (first | ((with_reducible refine gate_callee (f := 8) rfl ?_); refine goesL_ (some 6) rfl rfl Try.func8 (by kernel_rfl) rfl #[] rfl (by (try simp only [List.map_toArray, List.map_cons, List.map_nil]); first | done | rfl | (simp only [List.length_drop, List.length_take]; rfl)) ?_; (with_reducible refine (inkwelllaw03_awake.calls k  true _ A2.out).mono ?_); rintro e w21 ⟨rfl, hb⟩; refine ⟨_, rfl, ?_⟩; have n0_ := Aside0.mk (below_step (by repeat (first | (with_reducible first | exact HB.out | apply below_alloc | apply pw_below_drewN | apply below_drew1) | exact HB.out)) hb); clear HB; have HB := n0_; clear n0_; (try clear hb); (try clear hb2); (try clear hk); (try clear hi)) | ((with_reducible refine gate_callee (f := 14) rfl ?_); refine goesL_ (some 12) rfl rfl Try.func14 (by kernel_rfl) rfl #[.int .i64 (Int.tmod (wrap64 (a0)) 1200000)] rfl (by (try simp only [List.map_toArray, List.map_cons, List.map_nil]); first | done | rfl | (simp only [List.length_drop, List.length_take]; rfl)) ?_; (with_reducible refine (inkwellref03_Put.calls k (Int.tmod (wrap64 (a0)) 1200000) t126 _ A4.out).mono ?_); rintro e w22 ⟨rfl, hb⟩; refine ⟨_, rfl, ?_⟩; have n0_ := Aside0.mk (below_step (by repeat (first | (with_reducible first | exact HB.out | apply below_alloc | apply pw_below_drewN | apply below_drew1) | exact HB.out)) hb); clear HB; have HB := n0_; clear n0_; (try clear hb); (try clear hb2); (try clear hk); (try clear hi)) | ((with_reducible refine gate_dst (N := 29) rfl ?_); (try (refine gate_guard (by rfl) ?_; dsimp only)); refine Kd.R_lit (Kd.int .u8) _ 5 ?hg (N := 29) ?hd (xs := ([(wrap64 (224 + (Int.tmod (wrap64 (Int.tdiv (Int.tmod (wrap64 (a0)) 1200000) 4096)) 16))) % 256, (wrap64 (128 + (Int.tmod (wrap64 (Int.tdiv (Int.tmod (wrap64 (a0)) 1200000) 64)) 64))) % 256, (wrap64 (128 + (Int.tmod (Int.tmod (wrap64 (a0)) 1200000) 64))) % 256] : List Int)) (inner := [.int .u8 ((wrap64 (224 + (Int.tmod (wrap64 (Int.tdiv (Int.tmod (wrap64 (a0)) 1200000) 4096)) 16))) % 256), .int .u8 ((wrap64 (128 + (Int.tmod (wrap64 (Int.tdiv (Int.tmod (wrap64 (a0)) 1200000) 64)) 64))) % 256), .int .u8 ((wrap64 (128 + (Int.tmod (Int.tmod (wrap64 (a0)) 1200000) 64))) % 256)]) (ok := fun _ => True) (okp := fun _ => True) ?hr ?hp (fun _ hk => hk) trivial (Below.refl _ _) (Nat.le_refl _) (by simp) ?_; (case hd => rfl); (case hg => rfl); (case hr => first | (go_simp; done) | (go_simp; rfl)); (case hp => exact (Reps.one (show Kd.M (Kd.int .u8) _ _ _ ((wrap64 (224 + (Int.tmod (wrap64 (Int.tdiv (Int.tmod (wrap64 (a0)) 1200000) 4096)) 16))) % 256) [.int .u8 ((wrap64 (224 + (Int.tmod (wrap64 (Int.tdiv (Int.tmod (wrap64 (a0)) 1200000) 4096)) 16))) % 256)] from rfl) (Reps.one (show Kd.M (Kd.int .u8) _ _ _ ((wrap64 (128 + (Int.tmod (wrap64 (Int.tdiv (Int.tmod (wrap64 (a0)) 1200000) 64)) 64))) % 256) [.int .u8 ((wrap64 (128 + (Int.tmod (wrap64 (Int.tdiv (Int.tmod (wrap64 (a0)) 1200000) 64)) 64))) % 256)] from rfl) (Reps.one (show Kd.M (Kd.int .u8) _ _ _ ((wrap64 (128 + (Int.tmod (Int.tmod (wrap64 (a0)) 1200000) 64))) % 256) [.int .u8 ((wrap64 (128 + (Int.tmod (Int.tmod (wrap64 (a0)) 1200000) 64))) % 256)] from rfl) (Reps.none _ _))))); intro v128 w23 ho24 hb hg_ hnew_; clear hg_ hnew_; (first | rw [← Ny127.out] at ho24 | (simp only [Int.reduceToNat] at ho24; rw [← Ny127.out] at ho24)); have n0_ := Aside0.mk (Kd.R_lower ho24 (below_size (by repeat (first | (with_reducible first | exact HB.out | apply below_alloc | apply pw_below_drewN | apply below_drew1) | exact HB.out)))); have n1_ := Aside0.mk (below_step (by repeat (first | (with_reducible first | exact HB.out | apply below_alloc | apply pw_below_drewN | apply below_drew1) | exact HB.out)) hb); clear HB; have HO129 := n0_; have HB := n1_; clear n0_ n1_; clear hb ho24; have hcv25 := own_string (P := Try.prog) Try.underlying28 Try.underlying5 Try.underlying9 (Kd.own_of_R HO129.out)) | ((with_reducible refine gate_dst (N := 51) rfl ?_); (try (refine gate_guard (by rfl) ?_; dsimp only)); refine Kd.R_lit (Kd.int .u8) _ 5 ?hg (N := 51) ?hd (xs := ([(wrap64 (240 + (wrap64 (Int.tdiv (Int.tmod (wrap64 (a0)) 1200000) 262144)))) % 256, (wrap64 (128 + (Int.tmod (wrap64 (Int.tdiv (Int.tmod (wrap64 (a0)) 1200000) 4096)) 64))) % 256, (wrap64 (128 + (Int.tmod (wrap64 (Int.tdiv (Int.tmod (wrap64 (a0)) 1200000) 64)) 64))) % 256, (wrap64 (128 + (Int.tmod (Int.tmod (wrap64 (a0)) 1200000) 64))) % 256] : List Int)) (inner := [.int .u8 ((wrap64 (240 + (wrap64 (Int.tdiv (Int.tmod (wrap64 (a0)) 1200000) 262144)))) % 256), .int .u8 ((wrap64 (128 + (Int.tmod (wrap64 (Int.tdiv (Int.tmod (wrap64 (a0)) 1200000) 4096)) 64))) % 256), .int .u8 ((wrap64 (128 + (Int.tmod (wrap64 (Int.tdiv (Int.tmod (wrap64 (a0)) 1200000) 64)) 64))) % 256), .int .u8 ((wrap64 (128 + (Int.tmod (Int.tmod (wrap64 (a0)) 1200000) 64))) % 256)]) (ok := fun _ => True) (okp := fun _ => True) ?hr ?hp (fun _ hk => hk) trivial (Below.refl _ _) (Nat.le_refl _) (by simp) ?_; (case hd => rfl); (case hg => rfl); (case hr => first | (go_simp; done) | (go_simp; rfl)); (case hp => exact (Reps.one (show Kd.M (Kd.int .u8) _ _ _ ((wrap64 (240 + (wrap64 (Int.tdiv (Int.tmod (wrap64 (a0)) 1200000) 262144)))) % 256) [.int .u8 ((wrap64 (240 + (wrap64 (Int.tdiv (Int.tmod (wrap64 (a0)) 1200000) 262144)))) % 256)] from rfl) (Reps.one (show Kd.M (Kd.int .u8) _ _ _ ((wrap64 (128 + (Int.tmod (wrap64 (Int.tdiv (Int.tmod (wrap64 (a0)) 1200000) 4096)) 64))) % 256) [.int .u8 ((wrap64 (128 + (Int.tmod (wrap64 (Int.tdiv (Int.tmod (wrap64 (a0)) 1200000) 4096)) 64))) % 256)] from rfl) (Reps.one (show Kd.M (Kd.int .u8) _ _ _ ((wrap64 (128 + (Int.tmod (wrap64 (Int.tdiv (Int.tmod (wrap64 (a0)) 1200000) 64)) 64))) % 256) [.int .u8 ((wrap64 (128 + (Int.tmod (wrap64 (Int.tdiv (Int.tmod (wrap64 (a0)) 1200000) 64)) 64))) % 256)] from rfl) (Reps.one (show Kd.M (Kd.int .u8) _ _ _ ((wrap64 (128 + (Int.tmod (Int.tmod (wrap64 (a0)) 1200000) 64))) % 256) [.int .u8 ((wrap64 (128 + (Int.tmod (Int.tmod (wrap64 (a0)) 1200000) 64))) % 256)] from rfl) (Reps.none _ _)))))); intro v131 w26 ho27 hb hg_ hnew_; clear hg_ hnew_; (first | rw [← Ny130.out] at ho27 | (simp only [Int.reduceToNat] at ho27; rw [← Ny130.out] at ho27)); have n0_ := Aside0.mk (Kd.R_elder' (by (with_reducible repeat (first | apply Kd.R_alloc | apply Kd.R_drewN | apply Kd.R_drew)); exact HO129.out) (Kd.R_base ho27) hb); have n1_ := Aside0.mk (Kd.R_lower (Kd.R_new' ho27 (Kd.R_lt (by (with_reducible repeat (first | apply Kd.R_alloc | apply Kd.R_drewN | apply Kd.R_drew)); exact HO129.out))) (below_size (by repeat (first | (with_reducible first | exact HB.out | apply below_alloc | apply pw_below_drewN | apply below_drew1) | exact HB.out)))); have n2_ := Aside0.mk (below_step (by repeat (first | (with_reducible first | exact HB.out | apply below_alloc | apply pw_below_drewN | apply below_drew1) | exact HB.out)) hb); clear HO129; clear HB; have HO129 := n0_; have HO132 := n1_; have HB := n2_; clear n0_ n1_ n2_; clear hb ho27; have hcv28 := own_string (P := Try.prog) Try.underlying28 Try.underlying5 Try.underlying9 (Kd.own_of_R HO132.out)) | ((with_reducible refine gate_callee (f := 10) rfl ?_); refine goesL_ (some 54) rfl rfl Try.func10 (by kernel_rfl) rfl #[.string (strOfNums y130)] rfl (by (try simp only [List.map_toArray, List.map_cons, List.map_nil]); first | done | rfl | (simp only [List.length_drop, List.length_take]; rfl)) ?_; (with_reducible refine (utf_Next.calls k (strOfNums y130) t133 _ A7.out).mono ?_); rintro e w' ⟨rfl, ⟨nd, rfl⟩⟩; refine ⟨_, rfl, ?_⟩))
          go_ret
          exact ⟨by first | rfl | (simp [errW_none, errW_some] <;> rfl) | (simp [*, errW_none, errW_some] <;> rfl), by repeat (first | (with_reducible first | exact HB.out | apply below_alloc | apply pw_below_drewN | apply below_drew1) | exact HB.out)⟩
      · rw [if_neg c6] at H
        have c6b0 : decide (65535 < (Int.tmod (wrap64 (a0)) 1200000)) = false := decide_eq_false c6
        clear c6
        replace H := Option.bind_eq_some_iff.mp H
        obtain ⟨t138, A290, H⟩ := H
        replace H : (if t138 = 0 then ((utf_Valid.f k (([strOfNums y127] : List ByteArray))).bind fun t142 => (some (!t142))) else (some false)) = some r := H
        have A29 := Aside0.mk A290
        clear A290
        by_cases c30 : t138 = 0
        · rw [if_pos c30] at H
          have c30b0 : (t138 == 0) = true := beq_iff_eq.mpr c30
          have c30b1 : (t138 != 0) = false := bne_eq_false_iff_eq.mpr c30
          clear c30
          obtain ⟨y139, hy139⟩ : ∃ y_ : List ByteArray, y_ = (([strOfNums y127] : List ByteArray)) := ⟨_, rfl⟩
          replace H : ((utf_Valid.f k y139).bind fun t142 => (some (!t142))) = some r := by first | (rw [hy139]; with_reducible exact H) | (have H2_ := (Option.bind_some _ _).symm.trans H; rw [hy139]; with_reducible exact H2_) | (have H2_ := (Option.bind_some _ _).symm.trans H; with_reducible exact H2_) | with_reducible exact H | (rw [hy139]; exact H) | exact H
          have Ny139 := Aside0.mk hy139
          clear hy139
          replace H := Option.bind_eq_some_iff.mp H
          obtain ⟨t142, A310, H⟩ := H
          replace H : (some (!t142)) = some r := H
          have A31 := Aside0.mk A310
          clear A310
          obtain rfl := Option.some.inj H
          go_enter Try.func4, Try.ntmps4
          go_wp2_with (first | ((with_reducible refine gate_callee (f := 8) rfl ?_); refine goesL_ (some 6) rfl rfl Try.func8 (by kernel_rfl) rfl #[] rfl (by (try simp only [List.map_toArray, List.map_cons, List.map_nil]); first | done | rfl | (simp only [List.length_drop, List.length_take]; rfl)) ?_; (with_reducible refine (inkwelllaw03_awake.calls k  true _ A2.out).mono ?_); rintro e w32 ⟨rfl, hb⟩; refine ⟨_, rfl, ?_⟩; have n0_ := Aside0.mk (below_step (by repeat (first | (with_reducible first | exact HB.out | apply below_alloc | apply pw_below_drewN | apply below_drew1) | exact HB.out)) hb); clear HB; have HB := n0_; clear n0_; (try clear hb); (try clear hb2); (try clear hk); (try clear hi)) | ((with_reducible refine gate_callee (f := 14) rfl ?_); refine goesL_ (some 12) rfl rfl Try.func14 (by kernel_rfl) rfl #[.int .i64 (Int.tmod (wrap64 (a0)) 1200000)] rfl (by (try simp only [List.map_toArray, List.map_cons, List.map_nil]); first | done | rfl | (simp only [List.length_drop, List.length_take]; rfl)) ?_; (with_reducible refine (inkwellref03_Put.calls k (Int.tmod (wrap64 (a0)) 1200000) t126 _ A4.out).mono ?_); rintro e w33 ⟨rfl, hb⟩; refine ⟨_, rfl, ?_⟩; have n0_ := Aside0.mk (below_step (by repeat (first | (with_reducible first | exact HB.out | apply below_alloc | apply pw_below_drewN | apply below_drew1) | exact HB.out)) hb); clear HB; have HB := n0_; clear n0_; (try clear hb); (try clear hb2); (try clear hk); (try clear hi)) | ((with_reducible refine gate_dst (N := 29) rfl ?_); (try (refine gate_guard (by rfl) ?_; dsimp only)); refine Kd.R_lit (Kd.int .u8) _ 5 ?hg (N := 29) ?hd (xs := ([(wrap64 (224 + (Int.tmod (wrap64 (Int.tdiv (Int.tmod (wrap64 (a0)) 1200000) 4096)) 16))) % 256, (wrap64 (128 + (Int.tmod (wrap64 (Int.tdiv (Int.tmod (wrap64 (a0)) 1200000) 64)) 64))) % 256, (wrap64 (128 + (Int.tmod (Int.tmod (wrap64 (a0)) 1200000) 64))) % 256] : List Int)) (inner := [.int .u8 ((wrap64 (224 + (Int.tmod (wrap64 (Int.tdiv (Int.tmod (wrap64 (a0)) 1200000) 4096)) 16))) % 256), .int .u8 ((wrap64 (128 + (Int.tmod (wrap64 (Int.tdiv (Int.tmod (wrap64 (a0)) 1200000) 64)) 64))) % 256), .int .u8 ((wrap64 (128 + (Int.tmod (Int.tmod (wrap64 (a0)) 1200000) 64))) % 256)]) (ok := fun _ => True) (okp := fun _ => True) ?hr ?hp (fun _ hk => hk) trivial (Below.refl _ _) (Nat.le_refl _) (by simp) ?_; (case hd => rfl); (case hg => rfl); (case hr => first | (go_simp; done) | (go_simp; rfl)); (case hp => exact (Reps.one (show Kd.M (Kd.int .u8) _ _ _ ((wrap64 (224 + (Int.tmod (wrap64 (Int.tdiv (Int.tmod (wrap64 (a0)) 1200000) 4096)) 16))) % 256) [.int .u8 ((wrap64 (224 + (Int.tmod (wrap64 (Int.tdiv (Int.tmod (wrap64 (a0)) 1200000) 4096)) 16))) % 256)] from rfl) (Reps.one (show Kd.M (Kd.int .u8) _ _ _ ((wrap64 (128 + (Int.tmod (wrap64 (Int.tdiv (Int.tmod (wrap64 (a0)) 1200000) 64)) 64))) % 256) [.int .u8 ((wrap64 (128 + (Int.tmod (wrap64 (Int.tdiv (Int.tmod (wrap64 (a0)) 1200000) 64)) 64))) % 256)] from rfl) (Reps.one (show Kd.M (Kd.int .u8) _ _ _ ((wrap64 (128 + (Int.tmod (Int.tmod (wrap64 (a0)) 1200000) 64))) % 256) [.int .u8 ((wrap64 (128 + (Int.tmod (Int.tmod (wrap64 (a0)) 1200000) 64))) % 256)] from rfl) (Reps.none _ _))))); intro v128 w34 ho35 hb hg_ hnew_; clear hg_ hnew_; (first | rw [← Ny127.out] at ho35 | (simp only [Int.reduceToNat] at ho35; rw [← Ny127.out] at ho35)); have n0_ := Aside0.mk (Kd.R_lower ho35 (below_size (by repeat (first | (with_reducible first | exact HB.out | apply below_alloc | apply pw_below_drewN | apply below_drew1) | exact HB.out)))); have n1_ := Aside0.mk (below_step (by repeat (first | (with_reducible first | exact HB.out | apply below_alloc | apply pw_below_drewN | apply below_drew1) | exact HB.out)) hb); clear HB; have HO129 := n0_; have HB := n1_; clear n0_ n1_; clear hb ho35; have hcv36 := own_string (P := Try.prog) Try.underlying28 Try.underlying5 Try.underlying9 (Kd.own_of_R HO129.out)) | ((with_reducible refine gate_callee (f := 10) rfl ?_); refine goesL_ (some 54) rfl rfl Try.func10 (by kernel_rfl) rfl #[.string (strOfNums y127)] rfl (by (try simp only [List.map_toArray, List.map_cons, List.map_nil]); first | done | rfl | (simp only [List.length_drop, List.length_take]; rfl)) ?_; (with_reducible refine (utf_Next.calls k (strOfNums y127) t138 _ A29.out).mono ?_); rintro e w' ⟨rfl, ⟨nd, rfl⟩⟩; refine ⟨_, rfl, ?_⟩) | ((with_reducible refine gate_dst (N := 58) rfl ?_); (try (refine gate_guard (by rfl) ?_; dsimp only)); refine Kd.R_lit Kd.string _ 9 ?hg (N := 58) ?hd (xs := ([strOfNums y127] : List ByteArray)) (inner := [.string (strOfNums y127)]) (ok := fun _ => True) (okp := fun _ => True) ?hr ?hp (fun _ hk => hk) trivial (Below.refl _ _) (Nat.le_refl _) (by simp) ?_; (case hd => rfl); (case hg => rfl); (case hr => first | (go_simp; done) | (go_simp; rfl)); (case hp => exact (Reps.one (show Kd.M Kd.string _ _ _ (strOfNums y127) [.string (strOfNums y127)] from rfl) (Reps.none _ _))); intro v140 w37 ho38 hb hg_ hnew_; clear hg_ hnew_; (first | rw [← Ny139.out] at ho38 | (simp only [Int.reduceToNat] at ho38; rw [← Ny139.out] at ho38)); have n0_ := Aside0.mk (Kd.R_below (by (with_reducible repeat (first | apply Kd.R_alloc | apply Kd.R_drewN | apply Kd.R_drew)); exact HO129.out) hb); have n1_ := Aside0.mk (Kd.R_lower ho38 (below_size (by repeat (first | (with_reducible first | exact HB.out | apply below_alloc | apply pw_below_drewN | apply below_drew1) | exact HB.out)))); have n2_ := Aside0.mk (below_step (by repeat (first | (with_reducible first | exact HB.out | apply below_alloc | apply pw_below_drewN | apply below_drew1) | exact HB.out)) hb); clear HO129; clear HB; have HO129 := n0_; have HO141 := n1_; have HB := n2_; clear n0_ n1_ n2_; clear hb ho38; obtain ⟨Ao39, co39, eo39⟩ := Kd.R_slice HO141.out; subst eo39) | (go_at_call 13; (with_reducible refine (utf_Valid.calls k _ _ y139 t142 _ ?side1 ?side2 A31.out).mono ?_); (case side1 => repeat (first | exact (Kd.R_reads' HO141.out).2.2 | (with_reducible refine Kd.C_alloc ?_ _) | (with_reducible refine Kd.C_drewN ?_ _) | (with_reducible refine Kd.C_drew ?_))); (case side2 => exact (Kd.R_reads' HO141.out).2.1); rintro e w' ⟨rfl, ⟨nd, rfl⟩⟩))
          go_ret
          exact ⟨by first | rfl | (simp [errW_none, errW_some] <;> rfl) | (simp [*, errW_none, errW_some] <;> rfl), by repeat (first | (with_reducible first | exact HB.out | apply below_alloc | apply pw_below_drewN | apply below_drew1) | exact HB.out)⟩
        · rw [if_neg c30] at H
          have c30b0 : (t138 == 0) = false := beq_eq_false_iff_ne.mpr c30
          have c30b1 : (t138 != 0) = true := bne_iff_ne.mpr c30
          obtain rfl := Option.some.inj H
          go_enter Try.func4, Try.ntmps4
          go_wp2_with (first | ((with_reducible refine gate_callee (f := 8) rfl ?_); refine goesL_ (some 6) rfl rfl Try.func8 (by kernel_rfl) rfl #[] rfl (by (try simp only [List.map_toArray, List.map_cons, List.map_nil]); first | done | rfl | (simp only [List.length_drop, List.length_take]; rfl)) ?_; (with_reducible refine (inkwelllaw03_awake.calls k  true _ A2.out).mono ?_); rintro e w40 ⟨rfl, hb⟩; refine ⟨_, rfl, ?_⟩; have n0_ := Aside0.mk (below_step (by repeat (first | (with_reducible first | exact HB.out | apply below_alloc | apply pw_below_drewN | apply below_drew1) | exact HB.out)) hb); clear HB; have HB := n0_; clear n0_; (try clear hb); (try clear hb2); (try clear hk); (try clear hi)) | ((with_reducible refine gate_callee (f := 14) rfl ?_); refine goesL_ (some 12) rfl rfl Try.func14 (by kernel_rfl) rfl #[.int .i64 (Int.tmod (wrap64 (a0)) 1200000)] rfl (by (try simp only [List.map_toArray, List.map_cons, List.map_nil]); first | done | rfl | (simp only [List.length_drop, List.length_take]; rfl)) ?_; (with_reducible refine (inkwellref03_Put.calls k (Int.tmod (wrap64 (a0)) 1200000) t126 _ A4.out).mono ?_); rintro e w41 ⟨rfl, hb⟩; refine ⟨_, rfl, ?_⟩; have n0_ := Aside0.mk (below_step (by repeat (first | (with_reducible first | exact HB.out | apply below_alloc | apply pw_below_drewN | apply below_drew1) | exact HB.out)) hb); clear HB; have HB := n0_; clear n0_; (try clear hb); (try clear hb2); (try clear hk); (try clear hi)) | ((with_reducible refine gate_dst (N := 29) rfl ?_); (try (refine gate_guard (by rfl) ?_; dsimp only)); refine Kd.R_lit (Kd.int .u8) _ 5 ?hg (N := 29) ?hd (xs := ([(wrap64 (224 + (Int.tmod (wrap64 (Int.tdiv (Int.tmod (wrap64 (a0)) 1200000) 4096)) 16))) % 256, (wrap64 (128 + (Int.tmod (wrap64 (Int.tdiv (Int.tmod (wrap64 (a0)) 1200000) 64)) 64))) % 256, (wrap64 (128 + (Int.tmod (Int.tmod (wrap64 (a0)) 1200000) 64))) % 256] : List Int)) (inner := [.int .u8 ((wrap64 (224 + (Int.tmod (wrap64 (Int.tdiv (Int.tmod (wrap64 (a0)) 1200000) 4096)) 16))) % 256), .int .u8 ((wrap64 (128 + (Int.tmod (wrap64 (Int.tdiv (Int.tmod (wrap64 (a0)) 1200000) 64)) 64))) % 256), .int .u8 ((wrap64 (128 + (Int.tmod (Int.tmod (wrap64 (a0)) 1200000) 64))) % 256)]) (ok := fun _ => True) (okp := fun _ => True) ?hr ?hp (fun _ hk => hk) trivial (Below.refl _ _) (Nat.le_refl _) (by simp) ?_; (case hd => rfl); (case hg => rfl); (case hr => first | (go_simp; done) | (go_simp; rfl)); (case hp => exact (Reps.one (show Kd.M (Kd.int .u8) _ _ _ ((wrap64 (224 + (Int.tmod (wrap64 (Int.tdiv (Int.tmod (wrap64 (a0)) 1200000) 4096)) 16))) % 256) [.int .u8 ((wrap64 (224 + (Int.tmod (wrap64 (Int.tdiv (Int.tmod (wrap64 (a0)) 1200000) 4096)) 16))) % 256)] from rfl) (Reps.one (show Kd.M (Kd.int .u8) _ _ _ ((wrap64 (128 + (Int.tmod (wrap64 (Int.tdiv (Int.tmod (wrap64 (a0)) 1200000) 64)) 64))) % 256) [.int .u8 ((wrap64 (128 + (Int.tmod (wrap64 (Int.tdiv (Int.tmod (wrap64 (a0)) 1200000) 64)) 64))) % 256)] from rfl) (Reps.one (show Kd.M (Kd.int .u8) _ _ _ ((wrap64 (128 + (Int.tmod (Int.tmod (wrap64 (a0)) 1200000) 64))) % 256) [.int .u8 ((wrap64 (128 + (Int.tmod (Int.tmod (wrap64 (a0)) 1200000) 64))) % 256)] from rfl) (Reps.none _ _))))); intro v128 w42 ho43 hb hg_ hnew_; clear hg_ hnew_; (first | rw [← Ny127.out] at ho43 | (simp only [Int.reduceToNat] at ho43; rw [← Ny127.out] at ho43)); have n0_ := Aside0.mk (Kd.R_lower ho43 (below_size (by repeat (first | (with_reducible first | exact HB.out | apply below_alloc | apply pw_below_drewN | apply below_drew1) | exact HB.out)))); have n1_ := Aside0.mk (below_step (by repeat (first | (with_reducible first | exact HB.out | apply below_alloc | apply pw_below_drewN | apply below_drew1) | exact HB.out)) hb); clear HB; have HO129 := n0_; have HB := n1_; clear n0_ n1_; clear hb ho43; have hcv44 := own_string (P := Try.prog) Try.underlying28 Try.underlying5 Try.underlying9 (Kd.own_of_R HO129.out)) | ((with_reducible refine gate_callee (f := 10) rfl ?_); refine goesL_ (some 54) rfl rfl Try.func10 (by kernel_rfl) rfl #[.string (strOfNums y127)] rfl (by (try simp only [List.map_toArray, List.map_cons, List.map_nil]); first | done | rfl | (simp only [List.length_drop, List.length_take]; rfl)) ?_; (with_reducible refine (utf_Next.calls k (strOfNums y127) t138 _ A29.out).mono ?_); rintro e w' ⟨rfl, ⟨nd, rfl⟩⟩; refine ⟨_, rfl, ?_⟩))
          go_ret
          exact ⟨by first | rfl | (simp [errW_none, errW_some] <;> rfl) | (simp [*, errW_none, errW_some] <;> rfl), by repeat (first | (with_reducible first | exact HB.out | apply below_alloc | apply pw_below_drewN | apply below_drew1) | exact HB.out)⟩
    · rw [if_neg c5] at H
      have c5b0 : (t126.toList == ([] : List UInt8)) = false := beq_eq_false_iff_ne.mpr c5
      have c5b1 : (t126.toList != ([] : List UInt8)) = true := bne_iff_ne.mpr c5
      replace H := Option.bind_eq_some_iff.mp H
      obtain ⟨t143, A450, H⟩ := H
      replace H : (if t143 = (t126.size : Int) then (if t126.size + 1 ≤ 9223372036854775807 then ((utf_Next.f k (t126 ++ (⟨#[120]⟩ : ByteArray))).bind fun t144 => (if t144 = (t126.size : Int) then ((utf_Valid.f k (([t126] : List ByteArray))).bind fun t148 => (if t148 = true then (if (t126.size : Int) = 1 then (some true) else (if 0 ≤ (wrap64 ((t126.size : Int) - 1)) then (if (wrap64 ((t126.size : Int) - 1)) ≤ (t126.size : Int) then ((utf_Next.f k (t126.extract 0 ((wrap64 ((t126.size : Int) - 1)) : Int).toNat)).bind fun t149 => (some (t149 == 0))) else (none)) else (none))) else (some false))) else (some false))) else (none)) else (some false)) = some r := H
      have A45 := Aside0.mk A450
      clear A450
      by_cases c46 : t143 = (t126.size : Int)
      · rw [if_pos c46] at H
        have c46b0 : (t143 == (t126.size : Int)) = true := beq_iff_eq.mpr c46
        have c46b1 : (t143 != (t126.size : Int)) = false := bne_eq_false_iff_eq.mpr c46
        clear c46
        by_cases c47 : t126.size + 1 ≤ 9223372036854775807
        · rw [if_pos c47] at H
          have c47b0 := eq_true c47
          have c47b1 : decide (t126.size + 1 ≤ 9223372036854775807) = true := decide_eq_true c47
          try have c47b2 : (9223372036854775807 < t126.size + 1) = False := eq_false (Nat.not_lt.2 c47)
          replace H := Option.bind_eq_some_iff.mp H
          obtain ⟨t144, A480, H⟩ := H
          replace H : (if t144 = (t126.size : Int) then ((utf_Valid.f k (([t126] : List ByteArray))).bind fun t148 => (if t148 = true then (if (t126.size : Int) = 1 then (some true) else (if 0 ≤ (wrap64 ((t126.size : Int) - 1)) then (if (wrap64 ((t126.size : Int) - 1)) ≤ (t126.size : Int) then ((utf_Next.f k (t126.extract 0 ((wrap64 ((t126.size : Int) - 1)) : Int).toNat)).bind fun t149 => (some (t149 == 0))) else (none)) else (none))) else (some false))) else (some false)) = some r := H
          have A48 := Aside0.mk A480
          clear A480
          by_cases c49 : t144 = (t126.size : Int)
          · rw [if_pos c49] at H
            have c49b0 : (t144 == (t126.size : Int)) = true := beq_iff_eq.mpr c49
            have c49b1 : (t144 != (t126.size : Int)) = false := bne_eq_false_iff_eq.mpr c49
            clear c49
            obtain ⟨y145, hy145⟩ : ∃ y_ : List ByteArray, y_ = (([t126] : List ByteArray)) := ⟨_, rfl⟩
            replace H : ((utf_Valid.f k y145).bind fun t148 => (if t148 = true then (if (t126.size : Int) = 1 then (some true) else (if 0 ≤ (wrap64 ((t126.size : Int) - 1)) then (if (wrap64 ((t126.size : Int) - 1)) ≤ (t126.size : Int) then ((utf_Next.f k (t126.extract 0 ((wrap64 ((t126.size : Int) - 1)) : Int).toNat)).bind fun t149 => (some (t149 == 0))) else (none)) else (none))) else (some false))) = some r := by first | (rw [hy145]; with_reducible exact H) | (have H2_ := (Option.bind_some _ _).symm.trans H; rw [hy145]; with_reducible exact H2_) | (have H2_ := (Option.bind_some _ _).symm.trans H; with_reducible exact H2_) | with_reducible exact H | (rw [hy145]; exact H) | exact H
            have Ny145 := Aside0.mk hy145
            clear hy145
            replace H := Option.bind_eq_some_iff.mp H
            obtain ⟨t148, A500, H⟩ := H
            replace H : (if t148 = true then (if (t126.size : Int) = 1 then (some true) else (if 0 ≤ (wrap64 ((t126.size : Int) - 1)) then (if (wrap64 ((t126.size : Int) - 1)) ≤ (t126.size : Int) then ((utf_Next.f k (t126.extract 0 ((wrap64 ((t126.size : Int) - 1)) : Int).toNat)).bind fun t149 => (some (t149 == 0))) else (none)) else (none))) else (some false)) = some r := H
            have A50 := Aside0.mk A500
            clear A500
            by_cases c51 : t148 = true
            · subst c51
              have H1 : (if (t126.size : Int) = 1 then (some true) else (if 0 ≤ (wrap64 ((t126.size : Int) - 1)) then (if (wrap64 ((t126.size : Int) - 1)) ≤ (t126.size : Int) then ((utf_Next.f k (t126.extract 0 ((wrap64 ((t126.size : Int) - 1)) : Int).toNat)).bind fun t149 => (some (t149 == 0))) else (none)) else (none))) = some r := by rw [if_pos rfl] at H; exact H
              clear H
              have H := H1
              clear H1
              by_cases c52 : (t126.size : Int) = 1
              · rw [if_pos c52] at H
                have c52b0 : ((t126.size : Int) == 1) = true := beq_iff_eq.mpr c52
                have c52b1 : ((t126.size : Int) != 1) = false := bne_eq_false_iff_eq.mpr c52
                clear c52
                obtain rfl := Option.some.inj H
                go_enter Try.func4, Try.ntmps4
                go_wp2_with (first | ((with_reducible refine gate_callee (f := 8) rfl ?_); refine goesL_ (some 6) rfl rfl Try.func8 (by kernel_rfl) rfl #[] rfl (by (try simp only [List.map_toArray, List.map_cons, List.map_nil]); first | done | rfl | (simp only [List.length_drop, List.length_take]; rfl)) ?_; (with_reducible refine (inkwelllaw03_awake.calls k  true _ A2.out).mono ?_); rintro e w53 ⟨rfl, hb⟩; refine ⟨_, rfl, ?_⟩; have n0_ := Aside0.mk (below_step (by repeat (first | (with_reducible first | exact HB.out | apply below_alloc | apply pw_below_drewN | apply below_drew1) | exact HB.out)) hb); clear HB; have HB := n0_; clear n0_; (try clear hb); (try clear hb2); (try clear hk); (try clear hi)) | ((with_reducible refine gate_callee (f := 14) rfl ?_); refine goesL_ (some 12) rfl rfl Try.func14 (by kernel_rfl) rfl #[.int .i64 (Int.tmod (wrap64 (a0)) 1200000)] rfl (by (try simp only [List.map_toArray, List.map_cons, List.map_nil]); first | done | rfl | (simp only [List.length_drop, List.length_take]; rfl)) ?_; (with_reducible refine (inkwellref03_Put.calls k (Int.tmod (wrap64 (a0)) 1200000) t126 _ A4.out).mono ?_); rintro e w54 ⟨rfl, hb⟩; refine ⟨_, rfl, ?_⟩; have n0_ := Aside0.mk (below_step (by repeat (first | (with_reducible first | exact HB.out | apply below_alloc | apply pw_below_drewN | apply below_drew1) | exact HB.out)) hb); clear HB; have HB := n0_; clear n0_; (try clear hb); (try clear hb2); (try clear hk); (try clear hi)) | ((with_reducible refine gate_callee (f := 10) rfl ?_); refine goesL_ (some 63) rfl rfl Try.func10 (by kernel_rfl) rfl #[.string t126] rfl (by (try simp only [List.map_toArray, List.map_cons, List.map_nil]); first | done | rfl | (simp only [List.length_drop, List.length_take]; rfl)) ?_; (with_reducible refine (utf_Next.calls k t126 t143 _ A45.out).mono ?_); rintro e w' ⟨rfl, ⟨nd, rfl⟩⟩; refine ⟨_, rfl, ?_⟩) | (go_at_call 10; (with_reducible refine (utf_Next.calls k (t126 ++ (⟨#[120]⟩ : ByteArray)) t144 _ A48.out).mono ?_); rintro e w' ⟨rfl, ⟨nd, rfl⟩⟩) | ((with_reducible refine gate_dst (N := 77) rfl ?_); (try (refine gate_guard (by rfl) ?_; dsimp only)); refine Kd.R_lit Kd.string _ 9 ?hg (N := 77) ?hd (xs := ([t126] : List ByteArray)) (inner := [.string t126]) (ok := fun _ => True) (okp := fun _ => True) ?hr ?hp (fun _ hk => hk) trivial (Below.refl _ _) (Nat.le_refl _) (by simp) ?_; (case hd => rfl); (case hg => rfl); (case hr => first | (go_simp; done) | (go_simp; rfl)); (case hp => exact (Reps.one (show Kd.M Kd.string _ _ _ t126 [.string t126] from rfl) (Reps.none _ _))); intro v146 w55 ho56 hb hg_ hnew_; clear hg_ hnew_; (first | rw [← Ny145.out] at ho56 | (simp only [Int.reduceToNat] at ho56; rw [← Ny145.out] at ho56)); have n0_ := Aside0.mk (Kd.R_lower ho56 (below_size (by repeat (first | (with_reducible first | exact HB.out | apply below_alloc | apply pw_below_drewN | apply below_drew1) | exact HB.out)))); have n1_ := Aside0.mk (below_step (by repeat (first | (with_reducible first | exact HB.out | apply below_alloc | apply pw_below_drewN | apply below_drew1) | exact HB.out)) hb); clear HB; have HO147 := n0_; have HB := n1_; clear n0_ n1_; clear hb ho56; obtain ⟨Ao57, co57, eo57⟩ := Kd.R_slice HO147.out; subst eo57) | (go_at_call 13; (with_reducible refine (utf_Valid.calls k _ _ y145 true _ ?side1 ?side2 A50.out).mono ?_); (case side1 => repeat (first | exact (Kd.R_reads' HO147.out).2.2 | (with_reducible refine Kd.C_alloc ?_ _) | (with_reducible refine Kd.C_drewN ?_ _) | (with_reducible refine Kd.C_drew ?_))); (case side2 => exact (Kd.R_reads' HO147.out).2.1); rintro e w' ⟨rfl, ⟨nd, rfl⟩⟩))
                go_ret
                exact ⟨by first | rfl | (simp [errW_none, errW_some] <;> rfl) | (simp [*, errW_none, errW_some] <;> rfl), by repeat (first | (with_reducible first | exact HB.out | apply below_alloc | apply pw_below_drewN | apply below_drew1) | exact HB.out)⟩
              · rw [if_neg c52] at H
                have c52b0 : ((t126.size : Int) == 1) = false := beq_eq_false_iff_ne.mpr c52
                have c52b1 : ((t126.size : Int) != 1) = true := bne_iff_ne.mpr c52
                obtain ⟨ji58, hji58⟩ : ∃ j_ : Int, (wrap64 ((t126.size : Int) - 1)) = j_ := ⟨_, rfl⟩
                replace H : (if 0 ≤ (ji58) then (if (ji58) ≤ (t126.size : Int) then ((utf_Next.f k (t126.extract 0 ((ji58) : Int).toNat)).bind fun t149 => (some (t149 == 0))) else (none)) else (none)) = some r := by first | (rw [hji58] at H; exact H) | (simp only [hji58] at H ⊢; exact H)
                (try rw [hji58] at A2)
                (try rw [hji58] at A4)
                (try rw [hji58] at A45)
                (try rw [hji58] at A48)
                (try rw [hji58] at A50)
                have hji58w : (IntKind.i64.wrap ((t126.size : Int) - 1)) = ji58 := (i64_w _).trans hji58
                by_cases c59 : 0 ≤ (ji58)
                · rw [if_pos c59] at H
                  have c59b0 := eq_true c59
                  have c59b1 : decide (0 ≤ (ji58)) = true := decide_eq_true c59
                  clear c59
                  by_cases c60 : (ji58) ≤ (t126.size : Int)
                  · rw [if_pos c60] at H
                    have c60b0 := eq_true c60
                    have c60b1 : decide ((ji58) ≤ (t126.size : Int)) = true := decide_eq_true c60
                    clear c60
                    replace H := Option.bind_eq_some_iff.mp H
                    obtain ⟨t149, A610, H⟩ := H
                    replace H : (some (t149 == 0)) = some r := H
                    have A61 := Aside0.mk A610
                    clear A610
                    obtain rfl := Option.some.inj H
                    go_enter Try.func4, Try.ntmps4
                    go_wp2_with (first | ((with_reducible refine gate_callee (f := 8) rfl ?_); refine goesL_ (some 6) rfl rfl Try.func8 (by kernel_rfl) rfl #[] rfl (by (try simp only [List.map_toArray, List.map_cons, List.map_nil]); first | done | rfl | (simp only [List.length_drop, List.length_take]; rfl)) ?_; (with_reducible refine (inkwelllaw03_awake.calls k  true _ A2.out).mono ?_); rintro e w62 ⟨rfl, hb⟩; refine ⟨_, rfl, ?_⟩; have n0_ := Aside0.mk (below_step (by repeat (first | (with_reducible first | exact HB.out | apply below_alloc | apply pw_below_drewN | apply below_drew1) | exact HB.out)) hb); clear HB; have HB := n0_; clear n0_; (try clear hb); (try clear hb2); (try clear hk); (try clear hi)) | ((with_reducible refine gate_callee (f := 14) rfl ?_); refine goesL_ (some 12) rfl rfl Try.func14 (by kernel_rfl) rfl #[.int .i64 (Int.tmod (wrap64 (a0)) 1200000)] rfl (by (try simp only [List.map_toArray, List.map_cons, List.map_nil]); first | done | rfl | (simp only [List.length_drop, List.length_take]; rfl)) ?_; (with_reducible refine (inkwellref03_Put.calls k (Int.tmod (wrap64 (a0)) 1200000) t126 _ A4.out).mono ?_); rintro e w63 ⟨rfl, hb⟩; refine ⟨_, rfl, ?_⟩; have n0_ := Aside0.mk (below_step (by repeat (first | (with_reducible first | exact HB.out | apply below_alloc | apply pw_below_drewN | apply below_drew1) | exact HB.out)) hb); clear HB; have HB := n0_; clear n0_; (try clear hb); (try clear hb2); (try clear hk); (try clear hi)) | ((with_reducible refine gate_callee (f := 10) rfl ?_); refine goesL_ (some 63) rfl rfl Try.func10 (by kernel_rfl) rfl #[.string t126] rfl (by (try simp only [List.map_toArray, List.map_cons, List.map_nil]); first | done | rfl | (simp only [List.length_drop, List.length_take]; rfl)) ?_; (with_reducible refine (utf_Next.calls k t126 t143 _ A45.out).mono ?_); rintro e w' ⟨rfl, ⟨nd, rfl⟩⟩; refine ⟨_, rfl, ?_⟩) | (go_at_call 10; (with_reducible refine (utf_Next.calls k (t126 ++ (⟨#[120]⟩ : ByteArray)) t144 _ A48.out).mono ?_); rintro e w' ⟨rfl, ⟨nd, rfl⟩⟩) | ((with_reducible refine gate_dst (N := 77) rfl ?_); (try (refine gate_guard (by rfl) ?_; dsimp only)); refine Kd.R_lit Kd.string _ 9 ?hg (N := 77) ?hd (xs := ([t126] : List ByteArray)) (inner := [.string t126]) (ok := fun _ => True) (okp := fun _ => True) ?hr ?hp (fun _ hk => hk) trivial (Below.refl _ _) (Nat.le_refl _) (by simp) ?_; (case hd => rfl); (case hg => rfl); (case hr => first | (go_simp; done) | (go_simp; rfl)); (case hp => exact (Reps.one (show Kd.M Kd.string _ _ _ t126 [.string t126] from rfl) (Reps.none _ _))); intro v146 w64 ho65 hb hg_ hnew_; clear hg_ hnew_; (first | rw [← Ny145.out] at ho65 | (simp only [Int.reduceToNat] at ho65; rw [← Ny145.out] at ho65)); have n0_ := Aside0.mk (Kd.R_lower ho65 (below_size (by repeat (first | (with_reducible first | exact HB.out | apply below_alloc | apply pw_below_drewN | apply below_drew1) | exact HB.out)))); have n1_ := Aside0.mk (below_step (by repeat (first | (with_reducible first | exact HB.out | apply below_alloc | apply pw_below_drewN | apply below_drew1) | exact HB.out)) hb); clear HB; have HO147 := n0_; have HB := n1_; clear n0_ n1_; clear hb ho65; obtain ⟨Ao66, co66, eo66⟩ := Kd.R_slice HO147.out; subst eo66) | (go_at_call 13; (with_reducible refine (utf_Valid.calls k _ _ y145 true _ ?side1 ?side2 A50.out).mono ?_); (case side1 => repeat (first | exact (Kd.R_reads' HO147.out).2.2 | (with_reducible refine Kd.C_alloc ?_ _) | (with_reducible refine Kd.C_drewN ?_ _) | (with_reducible refine Kd.C_drew ?_))); (case side2 => exact (Kd.R_reads' HO147.out).2.1); rintro e w' ⟨rfl, ⟨nd, rfl⟩⟩) | (go_at_call 10; (with_reducible refine (utf_Next.calls k (t126.extract 0 ((ji58) : Int).toNat) t149 _ A61.out).mono ?_); rintro e w' ⟨rfl, ⟨nd, rfl⟩⟩))
                    go_ret
                    exact ⟨by first | rfl | (simp [errW_none, errW_some] <;> rfl) | (simp only [← hji58]; first | rfl | (simp [errW_none, errW_some] <;> rfl)) | (simp [*, errW_none, errW_some] <;> rfl), by repeat (first | (with_reducible first | exact HB.out | apply below_alloc | apply pw_below_drewN | apply below_drew1) | exact HB.out)⟩
                  · rw [if_neg c60] at H
                    exact absurd H (by simp)
                · rw [if_neg c59] at H
                  exact absurd H (by simp)
            · replace c51 := Bool.eq_false_iff.mpr c51
              subst c51
              have H1 : (some false) = some r := by rw [if_neg (show ¬ (false = true) by decide)] at H; exact H
              clear H
              have H := H1
              clear H1
              obtain rfl := Option.some.inj H
              go_enter Try.func4, Try.ntmps4
              go_wp2_with (first | ((with_reducible refine gate_callee (f := 8) rfl ?_); refine goesL_ (some 6) rfl rfl Try.func8 (by kernel_rfl) rfl #[] rfl (by (try simp only [List.map_toArray, List.map_cons, List.map_nil]); first | done | rfl | (simp only [List.length_drop, List.length_take]; rfl)) ?_; (with_reducible refine (inkwelllaw03_awake.calls k  true _ A2.out).mono ?_); rintro e w67 ⟨rfl, hb⟩; refine ⟨_, rfl, ?_⟩; have n0_ := Aside0.mk (below_step (by repeat (first | (with_reducible first | exact HB.out | apply below_alloc | apply pw_below_drewN | apply below_drew1) | exact HB.out)) hb); clear HB; have HB := n0_; clear n0_; (try clear hb); (try clear hb2); (try clear hk); (try clear hi)) | ((with_reducible refine gate_callee (f := 14) rfl ?_); refine goesL_ (some 12) rfl rfl Try.func14 (by kernel_rfl) rfl #[.int .i64 (Int.tmod (wrap64 (a0)) 1200000)] rfl (by (try simp only [List.map_toArray, List.map_cons, List.map_nil]); first | done | rfl | (simp only [List.length_drop, List.length_take]; rfl)) ?_; (with_reducible refine (inkwellref03_Put.calls k (Int.tmod (wrap64 (a0)) 1200000) t126 _ A4.out).mono ?_); rintro e w68 ⟨rfl, hb⟩; refine ⟨_, rfl, ?_⟩; have n0_ := Aside0.mk (below_step (by repeat (first | (with_reducible first | exact HB.out | apply below_alloc | apply pw_below_drewN | apply below_drew1) | exact HB.out)) hb); clear HB; have HB := n0_; clear n0_; (try clear hb); (try clear hb2); (try clear hk); (try clear hi)) | ((with_reducible refine gate_callee (f := 10) rfl ?_); refine goesL_ (some 63) rfl rfl Try.func10 (by kernel_rfl) rfl #[.string t126] rfl (by (try simp only [List.map_toArray, List.map_cons, List.map_nil]); first | done | rfl | (simp only [List.length_drop, List.length_take]; rfl)) ?_; (with_reducible refine (utf_Next.calls k t126 t143 _ A45.out).mono ?_); rintro e w' ⟨rfl, ⟨nd, rfl⟩⟩; refine ⟨_, rfl, ?_⟩) | (go_at_call 10; (with_reducible refine (utf_Next.calls k (t126 ++ (⟨#[120]⟩ : ByteArray)) t144 _ A48.out).mono ?_); rintro e w' ⟨rfl, ⟨nd, rfl⟩⟩) | ((with_reducible refine gate_dst (N := 77) rfl ?_); (try (refine gate_guard (by rfl) ?_; dsimp only)); refine Kd.R_lit Kd.string _ 9 ?hg (N := 77) ?hd (xs := ([t126] : List ByteArray)) (inner := [.string t126]) (ok := fun _ => True) (okp := fun _ => True) ?hr ?hp (fun _ hk => hk) trivial (Below.refl _ _) (Nat.le_refl _) (by simp) ?_; (case hd => rfl); (case hg => rfl); (case hr => first | (go_simp; done) | (go_simp; rfl)); (case hp => exact (Reps.one (show Kd.M Kd.string _ _ _ t126 [.string t126] from rfl) (Reps.none _ _))); intro v146 w69 ho70 hb hg_ hnew_; clear hg_ hnew_; (first | rw [← Ny145.out] at ho70 | (simp only [Int.reduceToNat] at ho70; rw [← Ny145.out] at ho70)); have n0_ := Aside0.mk (Kd.R_lower ho70 (below_size (by repeat (first | (with_reducible first | exact HB.out | apply below_alloc | apply pw_below_drewN | apply below_drew1) | exact HB.out)))); have n1_ := Aside0.mk (below_step (by repeat (first | (with_reducible first | exact HB.out | apply below_alloc | apply pw_below_drewN | apply below_drew1) | exact HB.out)) hb); clear HB; have HO147 := n0_; have HB := n1_; clear n0_ n1_; clear hb ho70; obtain ⟨Ao71, co71, eo71⟩ := Kd.R_slice HO147.out; subst eo71) | (go_at_call 13; (with_reducible refine (utf_Valid.calls k _ _ y145 false _ ?side1 ?side2 A50.out).mono ?_); (case side1 => repeat (first | exact (Kd.R_reads' HO147.out).2.2 | (with_reducible refine Kd.C_alloc ?_ _) | (with_reducible refine Kd.C_drewN ?_ _) | (with_reducible refine Kd.C_drew ?_))); (case side2 => exact (Kd.R_reads' HO147.out).2.1); rintro e w' ⟨rfl, ⟨nd, rfl⟩⟩))
              go_ret
              exact ⟨by first | rfl | (simp [errW_none, errW_some] <;> rfl) | (simp [*, errW_none, errW_some] <;> rfl), by repeat (first | (with_reducible first | exact HB.out | apply below_alloc | apply pw_below_drewN | apply below_drew1) | exact HB.out)⟩
          · rw [if_neg c49] at H
            have c49b0 : (t144 == (t126.size : Int)) = false := beq_eq_false_iff_ne.mpr c49
            have c49b1 : (t144 != (t126.size : Int)) = true := bne_iff_ne.mpr c49
            obtain rfl := Option.some.inj H
            go_enter Try.func4, Try.ntmps4
            go_wp2_with (first | ((with_reducible refine gate_callee (f := 8) rfl ?_); refine goesL_ (some 6) rfl rfl Try.func8 (by kernel_rfl) rfl #[] rfl (by (try simp only [List.map_toArray, List.map_cons, List.map_nil]); first | done | rfl | (simp only [List.length_drop, List.length_take]; rfl)) ?_; (with_reducible refine (inkwelllaw03_awake.calls k  true _ A2.out).mono ?_); rintro e w72 ⟨rfl, hb⟩; refine ⟨_, rfl, ?_⟩; have n0_ := Aside0.mk (below_step (by repeat (first | (with_reducible first | exact HB.out | apply below_alloc | apply pw_below_drewN | apply below_drew1) | exact HB.out)) hb); clear HB; have HB := n0_; clear n0_; (try clear hb); (try clear hb2); (try clear hk); (try clear hi)) | ((with_reducible refine gate_callee (f := 14) rfl ?_); refine goesL_ (some 12) rfl rfl Try.func14 (by kernel_rfl) rfl #[.int .i64 (Int.tmod (wrap64 (a0)) 1200000)] rfl (by (try simp only [List.map_toArray, List.map_cons, List.map_nil]); first | done | rfl | (simp only [List.length_drop, List.length_take]; rfl)) ?_; (with_reducible refine (inkwellref03_Put.calls k (Int.tmod (wrap64 (a0)) 1200000) t126 _ A4.out).mono ?_); rintro e w73 ⟨rfl, hb⟩; refine ⟨_, rfl, ?_⟩; have n0_ := Aside0.mk (below_step (by repeat (first | (with_reducible first | exact HB.out | apply below_alloc | apply pw_below_drewN | apply below_drew1) | exact HB.out)) hb); clear HB; have HB := n0_; clear n0_; (try clear hb); (try clear hb2); (try clear hk); (try clear hi)) | ((with_reducible refine gate_callee (f := 10) rfl ?_); refine goesL_ (some 63) rfl rfl Try.func10 (by kernel_rfl) rfl #[.string t126] rfl (by (try simp only [List.map_toArray, List.map_cons, List.map_nil]); first | done | rfl | (simp only [List.length_drop, List.length_take]; rfl)) ?_; (with_reducible refine (utf_Next.calls k t126 t143 _ A45.out).mono ?_); rintro e w' ⟨rfl, ⟨nd, rfl⟩⟩; refine ⟨_, rfl, ?_⟩) | (go_at_call 10; (with_reducible refine (utf_Next.calls k (t126 ++ (⟨#[120]⟩ : ByteArray)) t144 _ A48.out).mono ?_); rintro e w' ⟨rfl, ⟨nd, rfl⟩⟩))
            go_ret
            exact ⟨by first | rfl | (simp [errW_none, errW_some] <;> rfl) | (simp [*, errW_none, errW_some] <;> rfl), by repeat (first | (with_reducible first | exact HB.out | apply below_alloc | apply pw_below_drewN | apply below_drew1) | exact HB.out)⟩
        · rw [if_neg c47] at H
          exact absurd H (by simp)
      · rw [if_neg c46] at H
        have c46b0 : (t143 == (t126.size : Int)) = false := beq_eq_false_iff_ne.mpr c46
        have c46b1 : (t143 != (t126.size : Int)) = true := bne_iff_ne.mpr c46
        obtain rfl := Option.some.inj H
        go_enter Try.func4, Try.ntmps4
        go_wp2_with (first | ((with_reducible refine gate_callee (f := 8) rfl ?_); refine goesL_ (some 6) rfl rfl Try.func8 (by kernel_rfl) rfl #[] rfl (by (try simp only [List.map_toArray, List.map_cons, List.map_nil]); first | done | rfl | (simp only [List.length_drop, List.length_take]; rfl)) ?_; (with_reducible refine (inkwelllaw03_awake.calls k  true _ A2.out).mono ?_); rintro e w74 ⟨rfl, hb⟩; refine ⟨_, rfl, ?_⟩; have n0_ := Aside0.mk (below_step (by repeat (first | (with_reducible first | exact HB.out | apply below_alloc | apply pw_below_drewN | apply below_drew1) | exact HB.out)) hb); clear HB; have HB := n0_; clear n0_; (try clear hb); (try clear hb2); (try clear hk); (try clear hi)) | ((with_reducible refine gate_callee (f := 14) rfl ?_); refine goesL_ (some 12) rfl rfl Try.func14 (by kernel_rfl) rfl #[.int .i64 (Int.tmod (wrap64 (a0)) 1200000)] rfl (by (try simp only [List.map_toArray, List.map_cons, List.map_nil]); first | done | rfl | (simp only [List.length_drop, List.length_take]; rfl)) ?_; (with_reducible refine (inkwellref03_Put.calls k (Int.tmod (wrap64 (a0)) 1200000) t126 _ A4.out).mono ?_); rintro e w75 ⟨rfl, hb⟩; refine ⟨_, rfl, ?_⟩; have n0_ := Aside0.mk (below_step (by repeat (first | (with_reducible first | exact HB.out | apply below_alloc | apply pw_below_drewN | apply below_drew1) | exact HB.out)) hb); clear HB; have HB := n0_; clear n0_; (try clear hb); (try clear hb2); (try clear hk); (try clear hi)) | ((with_reducible refine gate_callee (f := 10) rfl ?_); refine goesL_ (some 63) rfl rfl Try.func10 (by kernel_rfl) rfl #[.string t126] rfl (by (try simp only [List.map_toArray, List.map_cons, List.map_nil]); first | done | rfl | (simp only [List.length_drop, List.length_take]; rfl)) ?_; (with_reducible refine (utf_Next.calls k t126 t143 _ A45.out).mono ?_); rintro e w' ⟨rfl, ⟨nd, rfl⟩⟩; refine ⟨_, rfl, ?_⟩))
        go_ret
        exact ⟨by first | rfl | (simp [errW_none, errW_some] <;> rfl) | (simp [*, errW_none, errW_some] <;> rfl), by repeat (first | (with_reducible first | exact HB.out | apply below_alloc | apply pw_below_drewN | apply below_drew1) | exact HB.out)⟩
  · replace c3 := Bool.eq_false_iff.mpr c3
    subst c3
    have H1 : (some false) = some r := by rw [if_neg (show ¬ (false = true) by decide)] at H; exact H
    clear H
    have H := H1
    clear H1
    obtain rfl := Option.some.inj H
    go_enter Try.func4, Try.ntmps4
    go_wp2_with (first | ((with_reducible refine gate_callee (f := 8) rfl ?_); refine goesL_ (some 6) rfl rfl Try.func8 (by kernel_rfl) rfl #[] rfl (by (try simp only [List.map_toArray, List.map_cons, List.map_nil]); first | done | rfl | (simp only [List.length_drop, List.length_take]; rfl)) ?_; (with_reducible refine (inkwelllaw03_awake.calls k  false _ A2.out).mono ?_); rintro e w76 ⟨rfl, hb⟩; refine ⟨_, rfl, ?_⟩; have n0_ := Aside0.mk (below_step (by repeat (first | (with_reducible first | exact HB.out | apply below_alloc | apply pw_below_drewN | apply below_drew1) | exact HB.out)) hb); clear HB; have HB := n0_; clear n0_; (try clear hb); (try clear hb2); (try clear hk); (try clear hi)))
    go_ret
    exact ⟨by first | rfl | (simp [errW_none, errW_some] <;> rfl) | (simp [*, errW_none, errW_some] <;> rfl), by repeat (first | (with_reducible first | exact HB.out | apply below_alloc | apply pw_below_drewN | apply below_drew1) | exact HB.out)⟩

/-- THE ONE PURE STATEMENT of inkwelllaw03_UtfAll: yours. -/
def inkwelllaw03_UtfAll.Pure : Prop := ∀ (a0 : Int), (Lit.int .u32 a0).wf = true → ∃ k, inkwelllaw03_UtfAll.f k a0 = some true
theorem inkwelllaw03_UtfAll.walk (P : inkwelllaw03_UtfAll.Pure) (a0 : Int) (w : World) (w0 : (Lit.int .u32 a0).wf = true) :
    Calls Try.prog 4 #[.int .u32 a0] w fun e w' => e = .returned (.bool true) ∧ Below w.heap.size w w' := by
  obtain ⟨k, h⟩ := P a0 w0
  refine (inkwelllaw03_UtfAll.calls k a0 true w h).mono ?_
  rintro e w' ⟨rfl, hd⟩
  exact ⟨rfl, hd⟩

end Go.Proofs.Ytiehijephkagbaa.PUtfAll
