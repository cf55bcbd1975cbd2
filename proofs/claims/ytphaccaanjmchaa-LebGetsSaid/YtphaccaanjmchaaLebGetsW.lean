/- 'LebGets': the walk of the statement's own function, along the ways on which it answers true. -/
import Derived.Test.YtphaccaanjmchaalebK
import Derived.Test.YtphaccaanjmchaalebW
namespace Go.Proofs.Ytphaccaanjmchaa.Own
open Go.RowKit Go.Proofs.Ytphaccaanjmchaa.PLebPuts Go.Proofs.YtphaccaanjmchaaW.PrintWords Go.Proofs.YtphaccaanjmchaaW.PrintLast Go.Proofs.YtphaccaanjmchaaW.PrintMore Go.Proofs.Ytphaccaanjmchaa.U Go.Proofs.Ytphaccaanjmchaa.Reg
set_option linter.unusedVariables false
set_option linter.unusedSimpArgs false
set_option maxHeartbeats 4000000 in
set_option maxRecDepth 100000 in
/-- The document's way to tell how many bytes a number has. -/
theorem refSpan_any (A : Option Addr) (c : Nat) (l : List Int) (w : World) (hC : Kd.C (Kd.int .u8) w A l.length l) (hc : l.length ≤ c) (hb : Bs l) (hm : l.length ≤ 140737488355328) :
    Calls Try.prog 41 #[.slice A l.length c] w fun e w' => e = .returned (.tuple #[.int .i64 (spn l 0).1, .int .i64 (spn l 0).2]) ∧ Below w.heap.size w w' := by
  have HC := Aside0.mk hC
  have HB := Aside0.mk hb
  clear hC hb
  go_enter Try.func41, Try.ntmps41
  go_wp2_with (fail)
  go_loopg [4] l.length (fun kq v4 w' => ∃ i : Nat, v4 = .int .i64 i ∧ Aside0 (kq + i = l.length) ∧ Aside0 (i ≤ 9 ∨ i = l.length) ∧ Aside0 (spn (l.drop i) i = spn l 0) ∧ Aside0 (Below w.heap.size w w'))
  case atStart => exact ⟨0, rfl, ⟨rfl⟩, ⟨.inl (by omega)⟩, ⟨rfl⟩, ⟨Below.refl _ _⟩⟩
  case round =>
    obtain ⟨i, rfl, hki, hi9, hsp, B1⟩ := hrel
    by_cases hlt : i < l.length
    · obtain ⟨ad, rfl, hcell⟩ := Kd.at_int (Kd.C_below HC.out B1.out) (i : Int) (by omega) (by omega)
      have hx := HB.out l[i] (List.getElem_mem hlt)
      rw [Int.toNat_natCast, rd_nat l i hlt] at hcell
      have HS := hsp
      clear hsp
      have hdr : l.drop i = l[i] :: l.drop (i + 1) := List.drop_eq_getElem_cons hlt
      generalize hxi : l[i] = x at *
      have HD := Aside0.mk hdr
      clear hdr hxi
      by_cases h128 : x < 128
      · go_wp2_with (fail)
        have e : spn l 0 = ((i : Int) + 1, 0) := by rw [← HS.out, HD.out, spn, if_pos h128]
        rw [e]
        go_ret2
        exact ⟨rfl, B1.out⟩
      · by_cases h9 : i = 9
        · have h9' : ((i : Int) == 9) = true := by rw [h9]; rfl
          have H9 := Aside0.mk h9
          clear h9
          go_wp2_with (fail)
          have e : spn l 0 = (0, 3) := by rw [← HS.out, HD.out, spn, if_neg (by omega), if_pos H9.out]
          rw [e]
          go_ret2
          exact ⟨rfl, B1.out⟩
        · have h9' : ((i : Int) == 9) = false := beq_eq_false_iff_ne.2 (by omega)
          have H9 := Aside0.mk h9
          clear h9
          go_wp2_with (fail)
          go_roundg (gk - 1)
          case measure => have := hki.out; omega
          case rel => exact ⟨i + 1, by go_num, ⟨by have := hki.out; omega⟩, ⟨by have := hi9.out; have := H9.out; omega⟩, ⟨by rw [← HS.out, HD.out, spn, if_neg (by omega), if_neg H9.out]⟩, B1⟩
    · have hi : i = l.length := by have := hki.out; omega
      subst hi
      go_wp2_with (fail)
      have e : spn l 0 = (0, 2) := by rw [← hsp.out, List.drop_length]; rfl
      rw [e]
      go_ret2
      exact ⟨rfl, B1.out⟩
theorem C_front {w : World} {A : Option Addr} {l t rest : List Int} (h : Kd.C (Kd.int .u8) w A l.length l) (e : l = t ++ rest) : Kd.C (Kd.int .u8) w A t.length t := by
  have h1 := Kd.C_take (m := t.length) h (by rw [e]; simp)
  rw [e, List.take_left] at h1
  exact h1
/-- How a number's bytes end: alone; or the last but one and the last. -/
theorem wf_ends {t : List Int} (h : Wf t) : (t.length = 1 ∧ ¬ Red t) ∨ (1 < t.length ∧ ∃ y, 128 ≤ y ∧ y < 256 ∧ rd t ((t.length - 2 : Nat) : Int) = y ∧ (Red t ↔ (lastB t = 0 ∧ y % 128 < 64) ∨ (lastB t = 127 ∧ 64 ≤ y % 128))) := by
  by_cases hl : 1 < t.length
  · obtain ⟨a, y, x, rfl, h0, h1⟩ := wf_two h hl
    refine .inr ⟨hl, y, h0, h1, ?_, ?_⟩
    · rw [show (a ++ [y, x]).length - 2 = a.length by simp, rd_nat _ _ (by simp)]
      simp
    · rw [red_snoc, show a ++ [y, x] = (a ++ [y]) ++ [x] by simp, lastB_snoc]
  · left
    have := h.pos
    obtain ⟨x, rfl⟩ := List.length_eq_one_iff.1 (by omega : t.length = 1)
    exact ⟨rfl, red_one x⟩

set_option maxHeartbeats 8000000 in
set_option maxRecDepth 100000 in
theorem gets_us (A : Option Addr) (c : Nat) (l : List Int) (w : World) (hC : Kd.C (Kd.int .u8) w A l.length l) (hc : l.length ≤ c) (hm : l.length ≤ 140737488351232) (hb : Bs l) (h5 : l.length ≤ 500)
    (t rest : List Int) (he : l = t ++ rest) (hw : Wf t) (hl : t.length ≤ 10) (hU : getU l = ((lv t : Int), (t.length : Int), 0)) (hS : getS l = ((sv t), (t.length : Int), 0)) (hu1 : uB (lv t) = t) (hu2 : lv t < 18446744073709551616) (hs1 : sB (sv t) = t) (hs2 : -9223372036854775808 ≤ sv t ∧ sv t < 9223372036854775808)
    (hcls : (t.length = 1 ∧ True ∧ True) ∨ ((1 < t.length ∧ t.length < 10) ∧ lastB t = 127 ∧ rd t ((t.length - 2 : Nat) : Int) % 128 < 64) ∨ ((1 < t.length ∧ t.length < 10) ∧ (lastB t ≠ 0 ∧ lastB t ≠ 127) ∧ True)) :
    Calls Try.prog 11 #[.slice A l.length c] w fun e w' => e = .returned (.bool true) ∧ Below w.heap.size w w' := by
  have HC := Aside0.mk hC
  have HB := Aside0.mk hb
  have HE := Aside0.mk he
  have HW := Aside0.mk hw
  have HL := Aside0.mk hl
  have HU := Aside0.mk hU
  have HS := Aside0.mk hS
  have hspn : spn l 0 = ((t.length : Int), 0) := by
    have := spn_of t rest 0 hw (by omega)
    rw [he, this, Int.natCast_zero, Int.zero_add]
  have HSP := Aside0.mk hspn
  have hpos := hw.pos
  have HLe := Aside0.mk (show t.length ≤ l.length by rw [he]; simp)
  have h5' : decide (500 < (l.length : Int)) = false := decide_eq_false (by omega)
  have HCL := Aside0.mk hcls
  have H5 := Aside0.mk h5
  have HU1 := Aside0.mk hu1
  have HU2 := Aside0.mk hu2
  clear hu1 hu2
  have HS1 := Aside0.mk hs1
  have HS2 := Aside0.mk hs2
  clear hs1 hs2
  clear hC hb he hw hl hU hS hspn hcls h5
  obtain ⟨i0, hi0, _, _, _⟩ := info_parts info_u8
  have hcut := cut_to (P := Try.prog) 24 5 .i64 Try.underlying24 hi0 A l.length c (t.length : Int) (Int.natCast_nonneg _) (Int.ofNat_le.2 HLe.out) hc
  rw [Int.toNat_natCast] at hcut
  clear hi0
  go_enter Try.func11, Try.ntmps11
  go_wp2_with (fail)
  go_at_call 13; refine (awake_any _).mono ?_; rintro e w1 ⟨v, rfl, rfl, hb1⟩
  have B1 := Aside0.mk hb1; clear hb1
  go_wp2_with (fail)
  go_at_call 39; refine (GetU_any leb_U_any A c l _ (Kd.C_below HC.out B1.out) hc HB.out (by omega)).mono ?_; rintro e w2 ⟨rfl, hb2⟩
  rw [HU.out]
  have B2 := Aside0.mk (below_step B1.out hb2); clear hb2
  go_wp2_with (fail)
  go_at_call 40; refine (GetS_any leb_S_any A c l _ (Kd.C_below HC.out B2.out) hc HB.out (by omega)).mono ?_; rintro e w3 ⟨rfl, hb3⟩
  rw [HS.out]
  have B3 := Aside0.mk (below_step B2.out hb3); clear hb3
  go_wp2_with (fail)
  go_at_call 41; refine (refSpan_any A c l _ (Kd.C_below HC.out B3.out) hc HB.out (by omega)).mono ?_; rintro e w4 ⟨rfl, hb4⟩
  rw [HSP.out]
  have B4 := Aside0.mk (below_step B3.out hb4); clear hb4
  clear B1 B2 B3
  go_wp2_with (fail)
  refine wp_any [Is (.int .i64 0), Is (.bool true), Is (.bool true), Is (.int .i64 (t.length : Int)), Is (.int .i64 (t.length : Int)), Is (.bool false), Is (.bool false), Is (.int .u64 (lv t : Int)), Sl (t), Is (.string (strOfNums (t))), Is (.slice A l.length c), Is (.int .i64 (t.length : Int)), Sl (t), Is (.string (strOfNums (t))), Is (.bool false), Is (.bool false), Is (.bool false), Is (.bool false), Is (.int .i64 0), Is (.bool true), Is (.bool true), Is (.int .i64 (t.length : Int)), Is (.int .i64 (t.length : Int)), Is (.bool false), Is (.bool false), Is (.int .i64 (sv t)), Sl (t), Is (.string (strOfNums (t))), Is (.slice A l.length c), Is (.int .i64 (t.length : Int)), Sl (t), Is (.string (strOfNums (t))), Is (.bool false), Is (.bool false), Is (.bool false), Is (.bool false)] (fun w' => Below w.heap.size w w') Grows (by kernel_rfl) (by kernel_rfl) (by kernel_rfl) rfl ?hst ?hgr Grows.refl ?hg ?hsteps ?hend
  case hst => simp only [List.forall_mem_cons, List.not_mem_nil, false_implies, implies_true, Is.st, Sl.st, and_self]
  case hgr => exact fun _ _ h1 h2 => below_step h1 h2
  case hg => exact below_drew B4.out
  case hsteps =>
    refine ⟨?_, ?_, ?_, ?_, ?_, ?_, ?_, ?_, ?_, ?_, ?_, ?_, ?_, ?_, ?_, ?_, ?_, ?_, ?_, ?_, ?_, ?_, ?_, ?_, ?_, ?_, ?_, ?_, ?_, ?_, ?_, ?_, ?_, ?_, ?_, ?_, trivial⟩
    · intro a w' hG hd hk
      rw [if_pos (wanted_none rfl)]
      have e5 : a.tmps.getD 5 undef = .int .i64 0 := hk 5 (frame_of (by kernel_rfl))
      exact Does.val (v := .int .i64 0) (w' := w') (by simp [execOp, Act.eval, go_sem, e5]) ⟨Grows.refl _, rfl⟩
    · intro a w' hG hd hk
      rw [if_pos (wanted_none rfl)]
      have e66 : a.tmps.getD 66 undef = .int .i64 0 := hd 0 (by decide) _ rfl
      exact Does.val (v := .bool true) (w' := w') (by simp [execOp, Act.eval, go_sem, e66]) ⟨Grows.refl _, rfl⟩
    · intro a w' hG hd hk
      rw [if_pos (wanted_none rfl)]
      have e67 : a.tmps.getD 67 undef = .bool true := hd 1 (by decide) _ rfl
      exact Does.val (v := .bool true) (w' := w') (by simp [execOp, Act.eval, go_sem, e67]) ⟨Grows.refl _, rfl⟩
    · intro a w' hG hd hk
      have g68 : a.tmps.getD 68 undef = .bool true := hd 2 (by decide) _ rfl
      rw [if_pos (by rw [wanted_some (j := 2) (t := 68) rfl rfl rfl g68]; decide)]
      have e4 : a.tmps.getD 4 undef = .int .i64 (t.length : Int) := hk 4 (frame_of (by kernel_rfl))
      exact Does.val (v := .int .i64 (t.length : Int)) (w' := w') (by simp [execOp, Act.eval, go_sem, e4]) ⟨Grows.refl _, rfl⟩
    · intro a w' hG hd hk
      have g68 : a.tmps.getD 68 undef = .bool true := hd 2 (by decide) _ rfl
      rw [if_pos (by rw [wanted_some (j := 2) (t := 68) rfl rfl rfl g68]; decide)]
      have e9 : a.tmps.getD 9 undef = .int .i64 (t.length : Int) := hk 9 (frame_of (by kernel_rfl))
      exact Does.val (v := .int .i64 (t.length : Int)) (w' := w') (by simp [execOp, Act.eval, go_sem, e9]) ⟨Grows.refl _, rfl⟩
    · intro a w' hG hd hk
      have g68 : a.tmps.getD 68 undef = .bool true := hd 2 (by decide) _ rfl
      rw [if_pos (by rw [wanted_some (j := 2) (t := 68) rfl rfl rfl g68]; decide)]
      have e69 : a.tmps.getD 69 undef = .int .i64 (t.length : Int) := hd 3 (by decide) _ rfl
      have e70 : a.tmps.getD 70 undef = .int .i64 (t.length : Int) := hd 4 (by decide) _ rfl
      exact Does.val (v := .bool false) (w' := w') (by simp [execOp, Act.eval, go_sem, e69, e70]) ⟨Grows.refl _, rfl⟩
    · intro a w' hG hd hk
      have g68 : a.tmps.getD 68 undef = .bool true := hd 2 (by decide) _ rfl
      rw [if_pos (by rw [wanted_some (j := 2) (t := 68) rfl rfl rfl g68]; decide)]
      have e71 : a.tmps.getD 71 undef = .bool false := hd 5 (by decide) _ rfl
      exact Does.val (v := .bool false) (w' := w') (by simp [execOp, Act.eval, go_sem, e71]) ⟨Grows.refl _, rfl⟩
    · intro a w' hG hd hk
      have g72 : a.tmps.getD 72 undef = .bool false := hd 6 (by decide) _ rfl
      rw [if_pos (by rw [wanted_some (j := 6) (t := 72) rfl rfl rfl g72]; decide)]
      have e3 : a.tmps.getD 3 undef = .int .u64 (lv t : Int) := hk 3 (frame_of (by kernel_rfl))
      exact Does.val (v := .int .u64 (lv t : Int)) (w' := w') (by simp [execOp, Act.eval, go_sem, e3]) ⟨Grows.refl _, rfl⟩
    · intro a w' hG hd hk
      have g72 : a.tmps.getD 72 undef = .bool false := hd 6 (by decide) _ rfl
      rw [if_pos (by rw [wanted_some (j := 6) (t := 72) rfl rfl rfl g72]; decide)]
      have e73 : a.tmps.getD 73 undef = .int .u64 (lv t : Int) := hd 7 (by decide) _ rfl
      exact Does.call (f := 21) (by simp [execOp, Act.eval, go_sem, e73]) (HU1.out ▸ ref_U_any (lv t) HU2.out w')
    · intro a w' hG hd hk
      have g72 : a.tmps.getD 72 undef = .bool false := hd 6 (by decide) _ rfl
      rw [if_pos (by rw [wanted_some (j := 6) (t := 72) rfl rfl rfl g72]; decide)]
      obtain ⟨A74, c74, e74, hc74, hC74⟩ : Sl (t) (a.tmps.getD 74 undef) w' := hd 8 (by decide) _ rfl
      have hv := Kd.C_string (P := Try.prog) (c := c74) Try.underlying24 Try.underlying5 Try.underlying9 hC74
      exact Does.val (v := .string (strOfNums (t))) (w' := w') (by simp [execOp, Act.eval, go_sem, e74, hv]) ⟨Grows.refl _, rfl⟩
    · intro a w' hG hd hk
      have g72 : a.tmps.getD 72 undef = .bool false := hd 6 (by decide) _ rfl
      rw [if_pos (by rw [wanted_some (j := 6) (t := 72) rfl rfl rfl g72]; decide)]
      have e0 : a.tmps.getD 0 undef = .slice A l.length c := hk 0 (frame_of (by kernel_rfl))
      exact Does.val (v := .slice A l.length c) (w' := w') (by simp [execOp, Act.eval, go_sem, e0]) ⟨Grows.refl _, rfl⟩
    · intro a w' hG hd hk
      have g72 : a.tmps.getD 72 undef = .bool false := hd 6 (by decide) _ rfl
      rw [if_pos (by rw [wanted_some (j := 6) (t := 72) rfl rfl rfl g72]; decide)]
      have e9 : a.tmps.getD 9 undef = .int .i64 (t.length : Int) := hk 9 (frame_of (by kernel_rfl))
      exact Does.val (v := .int .i64 (t.length : Int)) (w' := w') (by simp [execOp, Act.eval, go_sem, e9]) ⟨Grows.refl _, rfl⟩
    · intro a w' hG hd hk
      have g72 : a.tmps.getD 72 undef = .bool false := hd 6 (by decide) _ rfl
      rw [if_pos (by rw [wanted_some (j := 6) (t := 72) rfl rfl rfl g72]; decide)]
      have e76 : a.tmps.getD 76 undef = .slice A l.length c := hd 10 (by decide) _ rfl
      have e77 : a.tmps.getD 77 undef = .int .i64 (t.length : Int) := hd 11 (by decide) _ rfl
      exact Does.val (v := .slice A t.length c) (w' := w') (by simp [execOp, Act.eval, go_sem, e76, e77, hcut]) ⟨Grows.refl _, A, c, rfl, Nat.le_trans HLe.out hc, C_front (Kd.C_below HC.out hG) HE.out⟩
    · intro a w' hG hd hk
      have g72 : a.tmps.getD 72 undef = .bool false := hd 6 (by decide) _ rfl
      rw [if_pos (by rw [wanted_some (j := 6) (t := 72) rfl rfl rfl g72]; decide)]
      obtain ⟨A78, c78, e78, hc78, hC78⟩ : Sl (t) (a.tmps.getD 78 undef) w' := hd 12 (by decide) _ rfl
      have hv := Kd.C_string (P := Try.prog) (c := c78) Try.underlying24 Try.underlying5 Try.underlying9 hC78
      exact Does.val (v := .string (strOfNums (t))) (w' := w') (by simp [execOp, Act.eval, go_sem, e78, hv]) ⟨Grows.refl _, rfl⟩
    · intro a w' hG hd hk
      have g72 : a.tmps.getD 72 undef = .bool false := hd 6 (by decide) _ rfl
      rw [if_pos (by rw [wanted_some (j := 6) (t := 72) rfl rfl rfl g72]; decide)]
      have e75 : a.tmps.getD 75 undef = .string (strOfNums (t)) := hd 9 (by decide) _ rfl
      have e79 : a.tmps.getD 79 undef = .string (strOfNums (t)) := hd 13 (by decide) _ rfl
      exact Does.val (v := .bool false) (w' := w') (by simp [execOp, Act.eval, go_sem, e75, e79]) ⟨Grows.refl _, rfl⟩
    · intro a w' hG hd hk
      have g68 : a.tmps.getD 68 undef = .bool true := hd 2 (by decide) _ rfl
      rw [if_pos (by rw [wanted_some (j := 2) (t := 68) rfl rfl rfl g68]; decide)]
      have e72 : a.tmps.getD 72 undef = .bool false := hd 6 (by decide) _ rfl
      have e80 : a.tmps.getD 80 undef = .bool false := hd 14 (by decide) _ rfl
      exact Does.val (v := .bool false) (w' := w') (by simp [execOp, Act.eval, go_sem, e72, e80]) ⟨Grows.refl _, rfl⟩
    · intro a w' hG hd hk
      rw [if_pos (wanted_none rfl)]
      have e68 : a.tmps.getD 68 undef = .bool true := hd 2 (by decide) _ rfl
      have e81 : a.tmps.getD 81 undef = .bool false := hd 15 (by decide) _ rfl
      exact Does.val (v := .bool false) (w' := w') (by simp [execOp, Act.eval, go_sem, e68, e81]) ⟨Grows.refl _, rfl⟩
    · intro a w' hG hd hk
      rw [if_pos (wanted_none rfl)]
      have e82 : a.tmps.getD 82 undef = .bool false := hd 16 (by decide) _ rfl
      exact Does.val (v := .bool false) (w' := w') (by simp [execOp, Act.eval, go_sem, e82]) ⟨Grows.refl _, rfl⟩
    · intro a w' hG hd hk
      have g83 : a.tmps.getD 83 undef = .bool false := hd 17 (by decide) _ rfl
      rw [if_pos (by rw [wanted_some (j := 17) (t := 83) rfl rfl rfl g83]; decide)]
      have e8 : a.tmps.getD 8 undef = .int .i64 0 := hk 8 (frame_of (by kernel_rfl))
      exact Does.val (v := .int .i64 0) (w' := w') (by simp [execOp, Act.eval, go_sem, e8]) ⟨Grows.refl _, rfl⟩
    · intro a w' hG hd hk
      have g83 : a.tmps.getD 83 undef = .bool false := hd 17 (by decide) _ rfl
      rw [if_pos (by rw [wanted_some (j := 17) (t := 83) rfl rfl rfl g83]; decide)]
      have e84 : a.tmps.getD 84 undef = .int .i64 0 := hd 18 (by decide) _ rfl
      exact Does.val (v := .bool true) (w' := w') (by simp [execOp, Act.eval, go_sem, e84]) ⟨Grows.refl _, rfl⟩
    · intro a w' hG hd hk
      have g83 : a.tmps.getD 83 undef = .bool false := hd 17 (by decide) _ rfl
      rw [if_pos (by rw [wanted_some (j := 17) (t := 83) rfl rfl rfl g83]; decide)]
      have e85 : a.tmps.getD 85 undef = .bool true := hd 19 (by decide) _ rfl
      exact Does.val (v := .bool true) (w' := w') (by simp [execOp, Act.eval, go_sem, e85]) ⟨Grows.refl _, rfl⟩
    · intro a w' hG hd hk
      have g86 : a.tmps.getD 86 undef = .bool true := hd 20 (by decide) _ rfl
      rw [if_pos (by rw [wanted_some (j := 20) (t := 86) rfl rfl rfl g86]; decide)]
      have e7 : a.tmps.getD 7 undef = .int .i64 (t.length : Int) := hk 7 (frame_of (by kernel_rfl))
      exact Does.val (v := .int .i64 (t.length : Int)) (w' := w') (by simp [execOp, Act.eval, go_sem, e7]) ⟨Grows.refl _, rfl⟩
    · intro a w' hG hd hk
      have g86 : a.tmps.getD 86 undef = .bool true := hd 20 (by decide) _ rfl
      rw [if_pos (by rw [wanted_some (j := 20) (t := 86) rfl rfl rfl g86]; decide)]
      have e9 : a.tmps.getD 9 undef = .int .i64 (t.length : Int) := hk 9 (frame_of (by kernel_rfl))
      exact Does.val (v := .int .i64 (t.length : Int)) (w' := w') (by simp [execOp, Act.eval, go_sem, e9]) ⟨Grows.refl _, rfl⟩
    · intro a w' hG hd hk
      have g86 : a.tmps.getD 86 undef = .bool true := hd 20 (by decide) _ rfl
      rw [if_pos (by rw [wanted_some (j := 20) (t := 86) rfl rfl rfl g86]; decide)]
      have e87 : a.tmps.getD 87 undef = .int .i64 (t.length : Int) := hd 21 (by decide) _ rfl
      have e88 : a.tmps.getD 88 undef = .int .i64 (t.length : Int) := hd 22 (by decide) _ rfl
      exact Does.val (v := .bool false) (w' := w') (by simp [execOp, Act.eval, go_sem, e87, e88]) ⟨Grows.refl _, rfl⟩
    · intro a w' hG hd hk
      have g86 : a.tmps.getD 86 undef = .bool true := hd 20 (by decide) _ rfl
      rw [if_pos (by rw [wanted_some (j := 20) (t := 86) rfl rfl rfl g86]; decide)]
      have e89 : a.tmps.getD 89 undef = .bool false := hd 23 (by decide) _ rfl
      exact Does.val (v := .bool false) (w' := w') (by simp [execOp, Act.eval, go_sem, e89]) ⟨Grows.refl _, rfl⟩
    · intro a w' hG hd hk
      have g90 : a.tmps.getD 90 undef = .bool false := hd 24 (by decide) _ rfl
      rw [if_pos (by rw [wanted_some (j := 24) (t := 90) rfl rfl rfl g90]; decide)]
      have e6 : a.tmps.getD 6 undef = .int .i64 (sv t) := hk 6 (frame_of (by kernel_rfl))
      exact Does.val (v := .int .i64 (sv t)) (w' := w') (by simp [execOp, Act.eval, go_sem, e6]) ⟨Grows.refl _, rfl⟩
    · intro a w' hG hd hk
      have g90 : a.tmps.getD 90 undef = .bool false := hd 24 (by decide) _ rfl
      rw [if_pos (by rw [wanted_some (j := 24) (t := 90) rfl rfl rfl g90]; decide)]
      have e91 : a.tmps.getD 91 undef = .int .i64 (sv t) := hd 25 (by decide) _ rfl
      exact Does.call (f := 22) (by simp [execOp, Act.eval, go_sem, e91]) (HS1.out ▸ ref_S_any (sv t) HS2.out w')
    · intro a w' hG hd hk
      have g90 : a.tmps.getD 90 undef = .bool false := hd 24 (by decide) _ rfl
      rw [if_pos (by rw [wanted_some (j := 24) (t := 90) rfl rfl rfl g90]; decide)]
      obtain ⟨A92, c92, e92, hc92, hC92⟩ : Sl (t) (a.tmps.getD 92 undef) w' := hd 26 (by decide) _ rfl
      have hv := Kd.C_string (P := Try.prog) (c := c92) Try.underlying24 Try.underlying5 Try.underlying9 hC92
      exact Does.val (v := .string (strOfNums (t))) (w' := w') (by simp [execOp, Act.eval, go_sem, e92, hv]) ⟨Grows.refl _, rfl⟩
    · intro a w' hG hd hk
      have g90 : a.tmps.getD 90 undef = .bool false := hd 24 (by decide) _ rfl
      rw [if_pos (by rw [wanted_some (j := 24) (t := 90) rfl rfl rfl g90]; decide)]
      have e0 : a.tmps.getD 0 undef = .slice A l.length c := hk 0 (frame_of (by kernel_rfl))
      exact Does.val (v := .slice A l.length c) (w' := w') (by simp [execOp, Act.eval, go_sem, e0]) ⟨Grows.refl _, rfl⟩
    · intro a w' hG hd hk
      have g90 : a.tmps.getD 90 undef = .bool false := hd 24 (by decide) _ rfl
      rw [if_pos (by rw [wanted_some (j := 24) (t := 90) rfl rfl rfl g90]; decide)]
      have e9 : a.tmps.getD 9 undef = .int .i64 (t.length : Int) := hk 9 (frame_of (by kernel_rfl))
      exact Does.val (v := .int .i64 (t.length : Int)) (w' := w') (by simp [execOp, Act.eval, go_sem, e9]) ⟨Grows.refl _, rfl⟩
    · intro a w' hG hd hk
      have g90 : a.tmps.getD 90 undef = .bool false := hd 24 (by decide) _ rfl
      rw [if_pos (by rw [wanted_some (j := 24) (t := 90) rfl rfl rfl g90]; decide)]
      have e94 : a.tmps.getD 94 undef = .slice A l.length c := hd 28 (by decide) _ rfl
      have e95 : a.tmps.getD 95 undef = .int .i64 (t.length : Int) := hd 29 (by decide) _ rfl
      exact Does.val (v := .slice A t.length c) (w' := w') (by simp [execOp, Act.eval, go_sem, e94, e95, hcut]) ⟨Grows.refl _, A, c, rfl, Nat.le_trans HLe.out hc, C_front (Kd.C_below HC.out hG) HE.out⟩
    · intro a w' hG hd hk
      have g90 : a.tmps.getD 90 undef = .bool false := hd 24 (by decide) _ rfl
      rw [if_pos (by rw [wanted_some (j := 24) (t := 90) rfl rfl rfl g90]; decide)]
      obtain ⟨A96, c96, e96, hc96, hC96⟩ : Sl (t) (a.tmps.getD 96 undef) w' := hd 30 (by decide) _ rfl
      have hv := Kd.C_string (P := Try.prog) (c := c96) Try.underlying24 Try.underlying5 Try.underlying9 hC96
      exact Does.val (v := .string (strOfNums (t))) (w' := w') (by simp [execOp, Act.eval, go_sem, e96, hv]) ⟨Grows.refl _, rfl⟩
    · intro a w' hG hd hk
      have g90 : a.tmps.getD 90 undef = .bool false := hd 24 (by decide) _ rfl
      rw [if_pos (by rw [wanted_some (j := 24) (t := 90) rfl rfl rfl g90]; decide)]
      have e93 : a.tmps.getD 93 undef = .string (strOfNums (t)) := hd 27 (by decide) _ rfl
      have e97 : a.tmps.getD 97 undef = .string (strOfNums (t)) := hd 31 (by decide) _ rfl
      exact Does.val (v := .bool false) (w' := w') (by simp [execOp, Act.eval, go_sem, e93, e97]) ⟨Grows.refl _, rfl⟩
    · intro a w' hG hd hk
      have g86 : a.tmps.getD 86 undef = .bool true := hd 20 (by decide) _ rfl
      rw [if_pos (by rw [wanted_some (j := 20) (t := 86) rfl rfl rfl g86]; decide)]
      have e90 : a.tmps.getD 90 undef = .bool false := hd 24 (by decide) _ rfl
      have e98 : a.tmps.getD 98 undef = .bool false := hd 32 (by decide) _ rfl
      exact Does.val (v := .bool false) (w' := w') (by simp [execOp, Act.eval, go_sem, e90, e98]) ⟨Grows.refl _, rfl⟩
    · intro a w' hG hd hk
      have g83 : a.tmps.getD 83 undef = .bool false := hd 17 (by decide) _ rfl
      rw [if_pos (by rw [wanted_some (j := 17) (t := 83) rfl rfl rfl g83]; decide)]
      have e86 : a.tmps.getD 86 undef = .bool true := hd 20 (by decide) _ rfl
      have e99 : a.tmps.getD 99 undef = .bool false := hd 33 (by decide) _ rfl
      exact Does.val (v := .bool false) (w' := w') (by simp [execOp, Act.eval, go_sem, e86, e99]) ⟨Grows.refl _, rfl⟩
    · intro a w' hG hd hk
      rw [if_pos (wanted_none rfl)]
      have e83 : a.tmps.getD 83 undef = .bool false := hd 17 (by decide) _ rfl
      have e100 : a.tmps.getD 100 undef = .bool false := hd 34 (by decide) _ rfl
      exact Does.val (v := .bool false) (w' := w') (by simp [execOp, Act.eval, go_sem, e83, e100]) ⟨Grows.refl _, rfl⟩
  intro vs0 w5 B5_ hV0
  have B5 := Aside0.mk B5_; clear B5_
  obtain ⟨_, vs1, rfl, rfl, hV1⟩ := Vals.out hV0; clear hV0
  obtain ⟨_, vs2, rfl, rfl, hV2⟩ := Vals.out hV1; clear hV1
  obtain ⟨_, vs3, rfl, rfl, hV3⟩ := Vals.out hV2; clear hV2
  obtain ⟨_, vs4, rfl, rfl, hV4⟩ := Vals.out hV3; clear hV3
  obtain ⟨_, vs5, rfl, rfl, hV5⟩ := Vals.out hV4; clear hV4
  obtain ⟨_, vs6, rfl, rfl, hV6⟩ := Vals.out hV5; clear hV5
  obtain ⟨_, vs7, rfl, rfl, hV7⟩ := Vals.out hV6; clear hV6
  obtain ⟨_, vs8, rfl, rfl, hV8⟩ := Vals.out hV7; clear hV7
  obtain ⟨_, vs9, rfl, ⟨A74, c74, rfl, hc74, hC74⟩, hV9⟩ := Vals.out hV8; clear hV8
  obtain ⟨_, vs10, rfl, rfl, hV10⟩ := Vals.out hV9; clear hV9
  obtain ⟨_, vs11, rfl, rfl, hV11⟩ := Vals.out hV10; clear hV10
  obtain ⟨_, vs12, rfl, rfl, hV12⟩ := Vals.out hV11; clear hV11
  obtain ⟨_, vs13, rfl, ⟨A78, c78, rfl, hc78, hC78⟩, hV13⟩ := Vals.out hV12; clear hV12
  obtain ⟨_, vs14, rfl, rfl, hV14⟩ := Vals.out hV13; clear hV13
  obtain ⟨_, vs15, rfl, rfl, hV15⟩ := Vals.out hV14; clear hV14
  obtain ⟨_, vs16, rfl, rfl, hV16⟩ := Vals.out hV15; clear hV15
  obtain ⟨_, vs17, rfl, rfl, hV17⟩ := Vals.out hV16; clear hV16
  obtain ⟨_, vs18, rfl, rfl, hV18⟩ := Vals.out hV17; clear hV17
  obtain ⟨_, vs19, rfl, rfl, hV19⟩ := Vals.out hV18; clear hV18
  obtain ⟨_, vs20, rfl, rfl, hV20⟩ := Vals.out hV19; clear hV19
  obtain ⟨_, vs21, rfl, rfl, hV21⟩ := Vals.out hV20; clear hV20
  obtain ⟨_, vs22, rfl, rfl, hV22⟩ := Vals.out hV21; clear hV21
  obtain ⟨_, vs23, rfl, rfl, hV23⟩ := Vals.out hV22; clear hV22
  obtain ⟨_, vs24, rfl, rfl, hV24⟩ := Vals.out hV23; clear hV23
  obtain ⟨_, vs25, rfl, rfl, hV25⟩ := Vals.out hV24; clear hV24
  obtain ⟨_, vs26, rfl, rfl, hV26⟩ := Vals.out hV25; clear hV25
  obtain ⟨_, vs27, rfl, ⟨A92, c92, rfl, hc92, hC92⟩, hV27⟩ := Vals.out hV26; clear hV26
  obtain ⟨_, vs28, rfl, rfl, hV28⟩ := Vals.out hV27; clear hV27
  obtain ⟨_, vs29, rfl, rfl, hV29⟩ := Vals.out hV28; clear hV28
  obtain ⟨_, vs30, rfl, rfl, hV30⟩ := Vals.out hV29; clear hV29
  obtain ⟨_, vs31, rfl, ⟨A96, c96, rfl, hc96, hC96⟩, hV31⟩ := Vals.out hV30; clear hV30
  obtain ⟨_, vs32, rfl, rfl, hV32⟩ := Vals.out hV31; clear hV31
  obtain ⟨_, vs33, rfl, rfl, hV33⟩ := Vals.out hV32; clear hV32
  obtain ⟨_, vs34, rfl, rfl, hV34⟩ := Vals.out hV33; clear hV33
  obtain ⟨_, vs35, rfl, rfl, hV35⟩ := Vals.out hV34; clear hV34
  obtain ⟨_, vs36, rfl, rfl, hV36⟩ := Vals.out hV35; clear hV35
  obtain rfl := Vals.nil hV36; clear hV36
  simp only [puts, List.map_cons, List.map_nil, Act.put, List.setIfInBounds_toArray, List.set_cons_zero, List.set_cons_succ]
  have HD := Aside0.mk (Kd.C_below HC.out B5.out)
  obtain ⟨j, hj⟩ : ∃ j, t.length = j + 1 := ⟨t.length - 1, by omega⟩
  have hle := HLe.out
  have hl10 := HL.out
  obtain ⟨ad, rfl, hcell⟩ := Kd.at_int HD.out (j : Int) (by omega) (by omega)
  have hlast : rd l (j : Int) = lastB t := by
    rw [HE.out, rd_front (by omega)]
    unfold lastB
    rw [show ((t.length : Int) - 1) = (j : Int) by omega, rd_nat _ _ (by omega)]
  rw [hlast, Int.toNat_natCast] at hcell
  have hw0 : wrap64 ((t.length : Int) - 1) = (j : Int) := by rw [w64 (by omega) (by omega)]; omega
  have hjl : (j : Int) < (l.length : Int) := by omega
  have hLB := HW.out.last
  have hye : 1 < t.length → 0 ≤ rd t ((t.length - 2 : Nat) : Int) ∧ rd t ((t.length - 2 : Nat) : Int) < 256 := fun h => by
    rw [rd_nat _ _ (by omega)]; exact HW.out.bytes _ (List.getElem_mem _)
  have hcl := HCL.out
  have hcell2 : 1 < t.length → ∃ j2 : Nat, wrap64 ((t.length : Int) - 2) = (j2 : Int) ∧ (j2 : Int) < (l.length : Int) ∧ w5.cell? (ad.add j2) = some (.int .u8 (rd t ((t.length - 2 : Nat) : Int))) := by
    intro h1
    obtain ⟨ad2, e2, hc2⟩ := Kd.at_int HD.out ((t.length - 2 : Nat) : Int) (by omega) (by omega)
    injection e2 with e2
    subst e2
    refine ⟨t.length - 2, by rw [w64 (by omega) (by omega)]; omega, by omega, ?_⟩
    rw [Int.toNat_natCast] at hc2
    rw [hc2, HE.out, rd_front (by omega), rd_nat _ _ (by omega)]
  clear hle hl10 hlast HE HW HD HC HCL HU HS HSP HLe
  generalize hlx : lastB t = x at *
  generalize hry : rd t ((t.length - 2 : Nat) : Int) = y at *
  clear hlx hry
  rcases hcl with ⟨hcw, hcx, hcy⟩ | ⟨hcw, hcx, hcy⟩ | ⟨hcw, hcx, hcy⟩
  · have c1 : ((t.length : Int) == 1) = true := by rw [hcw]; rfl
    have c1' : decide (1 < (t.length : Int)) = false := decide_eq_false (by omega)
    clear hye hcell2
    clear hcw hcx hcy hpos hj
    go_wp2_with (fail)
    go_ret
    exact ⟨rfl, B5.out⟩
  · have c1 : ((t.length : Int) == 1) = false := beq_eq_false_iff_ne.2 (by omega)
    have c1' : decide (1 < (t.length : Int)) = true := decide_eq_true (by omega)
    have c10 : decide ((t.length : Int) < 10) = true := decide_eq_true (by omega)
    obtain ⟨j2, hw2, hj2, hcl2⟩ := hcell2 (by omega)
    have hy := hye (by omega)
    have h64 := and64b hy
    rw [if_neg (by omega)] at h64
    clear hye hcell2
    clear hcw hcy hpos hj
    subst hcx
    go_wp2_with (fail)
    go_ret
    exact ⟨rfl, B5.out⟩
  · have c1 : ((t.length : Int) == 1) = false := beq_eq_false_iff_ne.2 (by omega)
    have c1' : decide (1 < (t.length : Int)) = true := decide_eq_true (by omega)
    have c10 : decide ((t.length : Int) < 10) = true := decide_eq_true (by omega)
    obtain ⟨j2, hw2, hj2, hcl2⟩ := hcell2 (by omega)
    have hy := hye (by omega)
    have h64 := and64b hy
    clear h64
    clear hye hcell2
    have x0 : (x == 0) = false := beq_eq_false_iff_ne.2 (by omega)
    have n0 : (x != 0) = true := bne_iff_ne.2 (by omega)
    have p0 : ¬ x = 0 := by omega
    have x127 : (x == 127) = false := beq_eq_false_iff_ne.2 (by omega)
    have n127 : (x != 127) = true := bne_iff_ne.2 (by omega)
    have p127 : ¬ x = 127 := by omega
    clear hcw hcx hcy hpos hj
    go_wp2_with (fail)
    go_ret
    exact ⟨rfl, B5.out⟩
set_option maxHeartbeats 8000000 in
set_option maxRecDepth 100000 in
theorem gets_nn (A : Option Addr) (c : Nat) (l : List Int) (w : World) (hC : Kd.C (Kd.int .u8) w A l.length l) (hc : l.length ≤ c) (hm : l.length ≤ 140737488351232) (hb : Bs l) (h5 : l.length ≤ 500)
    (t rest : List Int) (he : l = t ++ rest) (hw : Wf t) (hl : t.length ≤ 10) (hU : getU l = (0, 0, 3)) (hS : getS l = (0, 0, 3))
    (hcls : ((1 < t.length ∧ t.length < 10) ∧ lastB t = 0 ∧ rd t ((t.length - 2 : Nat) : Int) % 128 < 64) ∨ (t.length = 10 ∧ lastB t = 0 ∧ rd t ((t.length - 2 : Nat) : Int) % 128 < 64) ∨ (t.length = 10 ∧ lastB t = 127 ∧ 64 ≤ rd t ((t.length - 2 : Nat) : Int) % 128) ∨ (t.length = 10 ∧ (lastB t ≠ 0 ∧ lastB t ≠ 1 ∧ lastB t ≠ 127) ∧ True)) :
    Calls Try.prog 11 #[.slice A l.length c] w fun e w' => e = .returned (.bool true) ∧ Below w.heap.size w w' := by
  have HC := Aside0.mk hC
  have HB := Aside0.mk hb
  have HE := Aside0.mk he
  have HW := Aside0.mk hw
  have HL := Aside0.mk hl
  have HU := Aside0.mk hU
  have HS := Aside0.mk hS
  have hspn : spn l 0 = ((t.length : Int), 0) := by
    have := spn_of t rest 0 hw (by omega)
    rw [he, this, Int.natCast_zero, Int.zero_add]
  have HSP := Aside0.mk hspn
  have hpos := hw.pos
  have HLe := Aside0.mk (show t.length ≤ l.length by rw [he]; simp)
  have h5' : decide (500 < (l.length : Int)) = false := decide_eq_false (by omega)
  have HCL := Aside0.mk hcls
  have H5 := Aside0.mk h5
  clear hC hb he hw hl hU hS hspn hcls h5
  obtain ⟨i0, hi0, _, _, _⟩ := info_parts info_u8
  have hcut := cut_to (P := Try.prog) 24 5 .i64 Try.underlying24 hi0 A l.length c (t.length : Int) (Int.natCast_nonneg _) (Int.ofNat_le.2 HLe.out) hc
  rw [Int.toNat_natCast] at hcut
  clear hi0
  go_enter Try.func11, Try.ntmps11
  go_wp2_with (fail)
  go_at_call 13; refine (awake_any _).mono ?_; rintro e w1 ⟨v, rfl, rfl, hb1⟩
  have B1 := Aside0.mk hb1; clear hb1
  go_wp2_with (fail)
  go_at_call 39; refine (GetU_any leb_U_any A c l _ (Kd.C_below HC.out B1.out) hc HB.out (by omega)).mono ?_; rintro e w2 ⟨rfl, hb2⟩
  rw [HU.out]
  have B2 := Aside0.mk (below_step B1.out hb2); clear hb2
  go_wp2_with (fail)
  go_at_call 40; refine (GetS_any leb_S_any A c l _ (Kd.C_below HC.out B2.out) hc HB.out (by omega)).mono ?_; rintro e w3 ⟨rfl, hb3⟩
  rw [HS.out]
  have B3 := Aside0.mk (below_step B2.out hb3); clear hb3
  go_wp2_with (fail)
  go_at_call 41; refine (refSpan_any A c l _ (Kd.C_below HC.out B3.out) hc HB.out (by omega)).mono ?_; rintro e w4 ⟨rfl, hb4⟩
  rw [HSP.out]
  have B4 := Aside0.mk (below_step B3.out hb4); clear hb4
  clear B1 B2 B3
  go_wp2_with (fail)
  refine wp_any [Is (.int .i64 3), Is (.bool false), Is (.bool false), Is (undef), Is (undef), Is (undef), Is (undef), Is (undef), Is (undef), Is (undef), Is (undef), Is (undef), Is (undef), Is (undef), Is (undef), Is (undef), Is (.bool false), Is (.bool false), Is (.int .i64 3), Is (.bool false), Is (.bool false), Is (undef), Is (undef), Is (undef), Is (undef), Is (undef), Is (undef), Is (undef), Is (undef), Is (undef), Is (undef), Is (undef), Is (undef), Is (undef), Is (.bool false), Is (.bool false)] (fun w' => Below w.heap.size w w') Grows (by kernel_rfl) (by kernel_rfl) (by kernel_rfl) rfl ?hst ?hgr Grows.refl ?hg ?hsteps ?hend
  case hst => simp only [List.forall_mem_cons, List.not_mem_nil, false_implies, implies_true, Is.st, Sl.st, and_self]
  case hgr => exact fun _ _ h1 h2 => below_step h1 h2
  case hg => exact below_drew B4.out
  case hsteps =>
    refine ⟨?_, ?_, ?_, ?_, ?_, ?_, ?_, ?_, ?_, ?_, ?_, ?_, ?_, ?_, ?_, ?_, ?_, ?_, ?_, ?_, ?_, ?_, ?_, ?_, ?_, ?_, ?_, ?_, ?_, ?_, ?_, ?_, ?_, ?_, ?_, ?_, trivial⟩
    · intro a w' hG hd hk
      rw [if_pos (wanted_none rfl)]
      have e5 : a.tmps.getD 5 undef = .int .i64 3 := hk 5 (frame_of (by kernel_rfl))
      exact Does.val (v := .int .i64 3) (w' := w') (by simp [execOp, Act.eval, go_sem, e5]) ⟨Grows.refl _, rfl⟩
    · intro a w' hG hd hk
      rw [if_pos (wanted_none rfl)]
      have e66 : a.tmps.getD 66 undef = .int .i64 3 := hd 0 (by decide) _ rfl
      exact Does.val (v := .bool false) (w' := w') (by simp [execOp, Act.eval, go_sem, e66]) ⟨Grows.refl _, rfl⟩
    · intro a w' hG hd hk
      rw [if_pos (wanted_none rfl)]
      have e67 : a.tmps.getD 67 undef = .bool false := hd 1 (by decide) _ rfl
      exact Does.val (v := .bool false) (w' := w') (by simp [execOp, Act.eval, go_sem, e67]) ⟨Grows.refl _, rfl⟩
    · intro a w' hG hd hk
      have g68 : a.tmps.getD 68 undef = .bool false := hd 2 (by decide) _ rfl
      rw [if_neg (by rw [wanted_some (j := 2) (t := 68) rfl rfl rfl g68]; decide)]
      exact rfl
    · intro a w' hG hd hk
      have g68 : a.tmps.getD 68 undef = .bool false := hd 2 (by decide) _ rfl
      rw [if_neg (by rw [wanted_some (j := 2) (t := 68) rfl rfl rfl g68]; decide)]
      exact rfl
    · intro a w' hG hd hk
      have g68 : a.tmps.getD 68 undef = .bool false := hd 2 (by decide) _ rfl
      rw [if_neg (by rw [wanted_some (j := 2) (t := 68) rfl rfl rfl g68]; decide)]
      exact rfl
    · intro a w' hG hd hk
      have g68 : a.tmps.getD 68 undef = .bool false := hd 2 (by decide) _ rfl
      rw [if_neg (by rw [wanted_some (j := 2) (t := 68) rfl rfl rfl g68]; decide)]
      exact rfl
    · intro a w' hG hd hk
      have g72 : a.tmps.getD 72 undef = undef := hd 6 (by decide) _ rfl
      rw [if_neg (by rw [wanted_undef (j := 6) (t := 72) rfl rfl rfl g72]; decide)]
      exact rfl
    · intro a w' hG hd hk
      have g72 : a.tmps.getD 72 undef = undef := hd 6 (by decide) _ rfl
      rw [if_neg (by rw [wanted_undef (j := 6) (t := 72) rfl rfl rfl g72]; decide)]
      exact rfl
    · intro a w' hG hd hk
      have g72 : a.tmps.getD 72 undef = undef := hd 6 (by decide) _ rfl
      rw [if_neg (by rw [wanted_undef (j := 6) (t := 72) rfl rfl rfl g72]; decide)]
      exact rfl
    · intro a w' hG hd hk
      have g72 : a.tmps.getD 72 undef = undef := hd 6 (by decide) _ rfl
      rw [if_neg (by rw [wanted_undef (j := 6) (t := 72) rfl rfl rfl g72]; decide)]
      exact rfl
    · intro a w' hG hd hk
      have g72 : a.tmps.getD 72 undef = undef := hd 6 (by decide) _ rfl
      rw [if_neg (by rw [wanted_undef (j := 6) (t := 72) rfl rfl rfl g72]; decide)]
      exact rfl
    · intro a w' hG hd hk
      have g72 : a.tmps.getD 72 undef = undef := hd 6 (by decide) _ rfl
      rw [if_neg (by rw [wanted_undef (j := 6) (t := 72) rfl rfl rfl g72]; decide)]
      exact rfl
    · intro a w' hG hd hk
      have g72 : a.tmps.getD 72 undef = undef := hd 6 (by decide) _ rfl
      rw [if_neg (by rw [wanted_undef (j := 6) (t := 72) rfl rfl rfl g72]; decide)]
      exact rfl
    · intro a w' hG hd hk
      have g72 : a.tmps.getD 72 undef = undef := hd 6 (by decide) _ rfl
      rw [if_neg (by rw [wanted_undef (j := 6) (t := 72) rfl rfl rfl g72]; decide)]
      exact rfl
    · intro a w' hG hd hk
      have g68 : a.tmps.getD 68 undef = .bool false := hd 2 (by decide) _ rfl
      rw [if_neg (by rw [wanted_some (j := 2) (t := 68) rfl rfl rfl g68]; decide)]
      exact rfl
    · intro a w' hG hd hk
      rw [if_pos (wanted_none rfl)]
      have e68 : a.tmps.getD 68 undef = .bool false := hd 2 (by decide) _ rfl
      exact Does.val (v := .bool false) (w' := w') (by simp [execOp, Act.eval, go_sem, e68]) ⟨Grows.refl _, rfl⟩
    · intro a w' hG hd hk
      rw [if_pos (wanted_none rfl)]
      have e82 : a.tmps.getD 82 undef = .bool false := hd 16 (by decide) _ rfl
      exact Does.val (v := .bool false) (w' := w') (by simp [execOp, Act.eval, go_sem, e82]) ⟨Grows.refl _, rfl⟩
    · intro a w' hG hd hk
      have g83 : a.tmps.getD 83 undef = .bool false := hd 17 (by decide) _ rfl
      rw [if_pos (by rw [wanted_some (j := 17) (t := 83) rfl rfl rfl g83]; decide)]
      have e8 : a.tmps.getD 8 undef = .int .i64 3 := hk 8 (frame_of (by kernel_rfl))
      exact Does.val (v := .int .i64 3) (w' := w') (by simp [execOp, Act.eval, go_sem, e8]) ⟨Grows.refl _, rfl⟩
    · intro a w' hG hd hk
      have g83 : a.tmps.getD 83 undef = .bool false := hd 17 (by decide) _ rfl
      rw [if_pos (by rw [wanted_some (j := 17) (t := 83) rfl rfl rfl g83]; decide)]
      have e84 : a.tmps.getD 84 undef = .int .i64 3 := hd 18 (by decide) _ rfl
      exact Does.val (v := .bool false) (w' := w') (by simp [execOp, Act.eval, go_sem, e84]) ⟨Grows.refl _, rfl⟩
    · intro a w' hG hd hk
      have g83 : a.tmps.getD 83 undef = .bool false := hd 17 (by decide) _ rfl
      rw [if_pos (by rw [wanted_some (j := 17) (t := 83) rfl rfl rfl g83]; decide)]
      have e85 : a.tmps.getD 85 undef = .bool false := hd 19 (by decide) _ rfl
      exact Does.val (v := .bool false) (w' := w') (by simp [execOp, Act.eval, go_sem, e85]) ⟨Grows.refl _, rfl⟩
    · intro a w' hG hd hk
      have g86 : a.tmps.getD 86 undef = .bool false := hd 20 (by decide) _ rfl
      rw [if_neg (by rw [wanted_some (j := 20) (t := 86) rfl rfl rfl g86]; decide)]
      exact rfl
    · intro a w' hG hd hk
      have g86 : a.tmps.getD 86 undef = .bool false := hd 20 (by decide) _ rfl
      rw [if_neg (by rw [wanted_some (j := 20) (t := 86) rfl rfl rfl g86]; decide)]
      exact rfl
    · intro a w' hG hd hk
      have g86 : a.tmps.getD 86 undef = .bool false := hd 20 (by decide) _ rfl
      rw [if_neg (by rw [wanted_some (j := 20) (t := 86) rfl rfl rfl g86]; decide)]
      exact rfl
    · intro a w' hG hd hk
      have g86 : a.tmps.getD 86 undef = .bool false := hd 20 (by decide) _ rfl
      rw [if_neg (by rw [wanted_some (j := 20) (t := 86) rfl rfl rfl g86]; decide)]
      exact rfl
    · intro a w' hG hd hk
      have g90 : a.tmps.getD 90 undef = undef := hd 24 (by decide) _ rfl
      rw [if_neg (by rw [wanted_undef (j := 24) (t := 90) rfl rfl rfl g90]; decide)]
      exact rfl
    · intro a w' hG hd hk
      have g90 : a.tmps.getD 90 undef = undef := hd 24 (by decide) _ rfl
      rw [if_neg (by rw [wanted_undef (j := 24) (t := 90) rfl rfl rfl g90]; decide)]
      exact rfl
    · intro a w' hG hd hk
      have g90 : a.tmps.getD 90 undef = undef := hd 24 (by decide) _ rfl
      rw [if_neg (by rw [wanted_undef (j := 24) (t := 90) rfl rfl rfl g90]; decide)]
      exact rfl
    · intro a w' hG hd hk
      have g90 : a.tmps.getD 90 undef = undef := hd 24 (by decide) _ rfl
      rw [if_neg (by rw [wanted_undef (j := 24) (t := 90) rfl rfl rfl g90]; decide)]
      exact rfl
    · intro a w' hG hd hk
      have g90 : a.tmps.getD 90 undef = undef := hd 24 (by decide) _ rfl
      rw [if_neg (by rw [wanted_undef (j := 24) (t := 90) rfl rfl rfl g90]; decide)]
      exact rfl
    · intro a w' hG hd hk
      have g90 : a.tmps.getD 90 undef = undef := hd 24 (by decide) _ rfl
      rw [if_neg (by rw [wanted_undef (j := 24) (t := 90) rfl rfl rfl g90]; decide)]
      exact rfl
    · intro a w' hG hd hk
      have g90 : a.tmps.getD 90 undef = undef := hd 24 (by decide) _ rfl
      rw [if_neg (by rw [wanted_undef (j := 24) (t := 90) rfl rfl rfl g90]; decide)]
      exact rfl
    · intro a w' hG hd hk
      have g90 : a.tmps.getD 90 undef = undef := hd 24 (by decide) _ rfl
      rw [if_neg (by rw [wanted_undef (j := 24) (t := 90) rfl rfl rfl g90]; decide)]
      exact rfl
    · intro a w' hG hd hk
      have g86 : a.tmps.getD 86 undef = .bool false := hd 20 (by decide) _ rfl
      rw [if_neg (by rw [wanted_some (j := 20) (t := 86) rfl rfl rfl g86]; decide)]
      exact rfl
    · intro a w' hG hd hk
      have g83 : a.tmps.getD 83 undef = .bool false := hd 17 (by decide) _ rfl
      rw [if_pos (by rw [wanted_some (j := 17) (t := 83) rfl rfl rfl g83]; decide)]
      have e86 : a.tmps.getD 86 undef = .bool false := hd 20 (by decide) _ rfl
      exact Does.val (v := .bool false) (w' := w') (by simp [execOp, Act.eval, go_sem, e86]) ⟨Grows.refl _, rfl⟩
    · intro a w' hG hd hk
      rw [if_pos (wanted_none rfl)]
      have e83 : a.tmps.getD 83 undef = .bool false := hd 17 (by decide) _ rfl
      have e100 : a.tmps.getD 100 undef = .bool false := hd 34 (by decide) _ rfl
      exact Does.val (v := .bool false) (w' := w') (by simp [execOp, Act.eval, go_sem, e83, e100]) ⟨Grows.refl _, rfl⟩
  intro vs0 w5 B5_ hV0
  have B5 := Aside0.mk B5_; clear B5_
  obtain ⟨_, vs1, rfl, rfl, hV1⟩ := Vals.out hV0; clear hV0
  obtain ⟨_, vs2, rfl, rfl, hV2⟩ := Vals.out hV1; clear hV1
  obtain ⟨_, vs3, rfl, rfl, hV3⟩ := Vals.out hV2; clear hV2
  obtain ⟨_, vs4, rfl, rfl, hV4⟩ := Vals.out hV3; clear hV3
  obtain ⟨_, vs5, rfl, rfl, hV5⟩ := Vals.out hV4; clear hV4
  obtain ⟨_, vs6, rfl, rfl, hV6⟩ := Vals.out hV5; clear hV5
  obtain ⟨_, vs7, rfl, rfl, hV7⟩ := Vals.out hV6; clear hV6
  obtain ⟨_, vs8, rfl, rfl, hV8⟩ := Vals.out hV7; clear hV7
  obtain ⟨_, vs9, rfl, rfl, hV9⟩ := Vals.out hV8; clear hV8
  obtain ⟨_, vs10, rfl, rfl, hV10⟩ := Vals.out hV9; clear hV9
  obtain ⟨_, vs11, rfl, rfl, hV11⟩ := Vals.out hV10; clear hV10
  obtain ⟨_, vs12, rfl, rfl, hV12⟩ := Vals.out hV11; clear hV11
  obtain ⟨_, vs13, rfl, rfl, hV13⟩ := Vals.out hV12; clear hV12
  obtain ⟨_, vs14, rfl, rfl, hV14⟩ := Vals.out hV13; clear hV13
  obtain ⟨_, vs15, rfl, rfl, hV15⟩ := Vals.out hV14; clear hV14
  obtain ⟨_, vs16, rfl, rfl, hV16⟩ := Vals.out hV15; clear hV15
  obtain ⟨_, vs17, rfl, rfl, hV17⟩ := Vals.out hV16; clear hV16
  obtain ⟨_, vs18, rfl, rfl, hV18⟩ := Vals.out hV17; clear hV17
  obtain ⟨_, vs19, rfl, rfl, hV19⟩ := Vals.out hV18; clear hV18
  obtain ⟨_, vs20, rfl, rfl, hV20⟩ := Vals.out hV19; clear hV19
  obtain ⟨_, vs21, rfl, rfl, hV21⟩ := Vals.out hV20; clear hV20
  obtain ⟨_, vs22, rfl, rfl, hV22⟩ := Vals.out hV21; clear hV21
  obtain ⟨_, vs23, rfl, rfl, hV23⟩ := Vals.out hV22; clear hV22
  obtain ⟨_, vs24, rfl, rfl, hV24⟩ := Vals.out hV23; clear hV23
  obtain ⟨_, vs25, rfl, rfl, hV25⟩ := Vals.out hV24; clear hV24
  obtain ⟨_, vs26, rfl, rfl, hV26⟩ := Vals.out hV25; clear hV25
  obtain ⟨_, vs27, rfl, rfl, hV27⟩ := Vals.out hV26; clear hV26
  obtain ⟨_, vs28, rfl, rfl, hV28⟩ := Vals.out hV27; clear hV27
  obtain ⟨_, vs29, rfl, rfl, hV29⟩ := Vals.out hV28; clear hV28
  obtain ⟨_, vs30, rfl, rfl, hV30⟩ := Vals.out hV29; clear hV29
  obtain ⟨_, vs31, rfl, rfl, hV31⟩ := Vals.out hV30; clear hV30
  obtain ⟨_, vs32, rfl, rfl, hV32⟩ := Vals.out hV31; clear hV31
  obtain ⟨_, vs33, rfl, rfl, hV33⟩ := Vals.out hV32; clear hV32
  obtain ⟨_, vs34, rfl, rfl, hV34⟩ := Vals.out hV33; clear hV33
  obtain ⟨_, vs35, rfl, rfl, hV35⟩ := Vals.out hV34; clear hV34
  obtain ⟨_, vs36, rfl, rfl, hV36⟩ := Vals.out hV35; clear hV35
  obtain rfl := Vals.nil hV36; clear hV36
  simp only [puts, List.map_cons, List.map_nil, Act.put, List.setIfInBounds_toArray, List.set_cons_zero, List.set_cons_succ]
  have HD := Aside0.mk (Kd.C_below HC.out B5.out)
  obtain ⟨j, hj⟩ : ∃ j, t.length = j + 1 := ⟨t.length - 1, by omega⟩
  have hle := HLe.out
  have hl10 := HL.out
  obtain ⟨ad, rfl, hcell⟩ := Kd.at_int HD.out (j : Int) (by omega) (by omega)
  have hlast : rd l (j : Int) = lastB t := by
    rw [HE.out, rd_front (by omega)]
    unfold lastB
    rw [show ((t.length : Int) - 1) = (j : Int) by omega, rd_nat _ _ (by omega)]
  rw [hlast, Int.toNat_natCast] at hcell
  have hw0 : wrap64 ((t.length : Int) - 1) = (j : Int) := by rw [w64 (by omega) (by omega)]; omega
  have hjl : (j : Int) < (l.length : Int) := by omega
  have hLB := HW.out.last
  have hye : 1 < t.length → 0 ≤ rd t ((t.length - 2 : Nat) : Int) ∧ rd t ((t.length - 2 : Nat) : Int) < 256 := fun h => by
    rw [rd_nat _ _ (by omega)]; exact HW.out.bytes _ (List.getElem_mem _)
  have hcl := HCL.out
  have hcell2 : 1 < t.length → ∃ j2 : Nat, wrap64 ((t.length : Int) - 2) = (j2 : Int) ∧ (j2 : Int) < (l.length : Int) ∧ w5.cell? (ad.add j2) = some (.int .u8 (rd t ((t.length - 2 : Nat) : Int))) := by
    intro h1
    obtain ⟨ad2, e2, hc2⟩ := Kd.at_int HD.out ((t.length - 2 : Nat) : Int) (by omega) (by omega)
    injection e2 with e2
    subst e2
    refine ⟨t.length - 2, by rw [w64 (by omega) (by omega)]; omega, by omega, ?_⟩
    rw [Int.toNat_natCast] at hc2
    rw [hc2, HE.out, rd_front (by omega), rd_nat _ _ (by omega)]
  clear hle hl10 hlast HE HW HD HC HCL HU HS HSP HLe
  generalize hlx : lastB t = x at *
  generalize hry : rd t ((t.length - 2 : Nat) : Int) = y at *
  clear hlx hry
  rcases hcl with ⟨hcw, hcx, hcy⟩ | ⟨hcw, hcx, hcy⟩ | ⟨hcw, hcx, hcy⟩ | ⟨hcw, hcx, hcy⟩
  · have c1 : ((t.length : Int) == 1) = false := beq_eq_false_iff_ne.2 (by omega)
    have c1' : decide (1 < (t.length : Int)) = true := decide_eq_true (by omega)
    have c10 : decide ((t.length : Int) < 10) = true := decide_eq_true (by omega)
    obtain ⟨j2, hw2, hj2, hcl2⟩ := hcell2 (by omega)
    have hy := hye (by omega)
    have h64 := and64b hy
    rw [if_neg (by omega)] at h64
    clear hye hcell2
    clear hcw hcy hpos hj
    subst hcx
    go_wp2_with (fail)
    go_ret
    exact ⟨rfl, B5.out⟩
  · have c1 : ((t.length : Int) == 1) = false := beq_eq_false_iff_ne.2 (by omega)
    have c1' : decide (1 < (t.length : Int)) = true := decide_eq_true (by omega)
    have c10 : decide ((t.length : Int) < 10) = false := decide_eq_false (by omega)
    obtain ⟨j2, hw2, hj2, hcl2⟩ := hcell2 (by omega)
    have hy := hye (by omega)
    have h64 := and64b hy
    rw [if_neg (by omega)] at h64
    clear hye hcell2
    clear hcw hcy hpos hj
    subst hcx
    go_wp2_with (fail)
    go_ret
    exact ⟨rfl, B5.out⟩
  · have c1 : ((t.length : Int) == 1) = false := beq_eq_false_iff_ne.2 (by omega)
    have c1' : decide (1 < (t.length : Int)) = true := decide_eq_true (by omega)
    have c10 : decide ((t.length : Int) < 10) = false := decide_eq_false (by omega)
    obtain ⟨j2, hw2, hj2, hcl2⟩ := hcell2 (by omega)
    have hy := hye (by omega)
    have h64 := and64b hy
    rw [if_pos (by omega)] at h64
    clear hye hcell2
    clear hcw hcy hpos hj
    subst hcx
    go_wp2_with (fail)
    go_ret
    exact ⟨rfl, B5.out⟩
  · have c1 : ((t.length : Int) == 1) = false := beq_eq_false_iff_ne.2 (by omega)
    have c1' : decide (1 < (t.length : Int)) = true := decide_eq_true (by omega)
    have c10 : decide ((t.length : Int) < 10) = false := decide_eq_false (by omega)
    obtain ⟨j2, hw2, hj2, hcl2⟩ := hcell2 (by omega)
    have hy := hye (by omega)
    have h64 := and64b hy
    clear h64
    clear hye hcell2
    have x0 : (x == 0) = false := beq_eq_false_iff_ne.2 (by omega)
    have n0 : (x != 0) = true := bne_iff_ne.2 (by omega)
    have p0 : ¬ x = 0 := by omega
    have x1 : (x == 1) = false := beq_eq_false_iff_ne.2 (by omega)
    have n1 : (x != 1) = true := bne_iff_ne.2 (by omega)
    have p1 : ¬ x = 1 := by omega
    have x127 : (x == 127) = false := beq_eq_false_iff_ne.2 (by omega)
    have n127 : (x != 127) = true := bne_iff_ne.2 (by omega)
    have p127 : ¬ x = 127 := by omega
    clear hcw hcx hcy hpos hj
    go_wp2_with (fail)
    go_ret
    exact ⟨rfl, B5.out⟩
set_option maxHeartbeats 8000000 in
set_option maxRecDepth 100000 in
theorem gets_ns (A : Option Addr) (c : Nat) (l : List Int) (w : World) (hC : Kd.C (Kd.int .u8) w A l.length l) (hc : l.length ≤ c) (hm : l.length ≤ 140737488351232) (hb : Bs l) (h5 : l.length ≤ 500)
    (t rest : List Int) (he : l = t ++ rest) (hw : Wf t) (hl : t.length ≤ 10) (hU : getU l = (0, 0, 3)) (hS : getS l = ((sv t), (t.length : Int), 0)) (hs1 : sB (sv t) = t) (hs2 : -9223372036854775808 ≤ sv t ∧ sv t < 9223372036854775808)
    (hcls : ((1 < t.length ∧ t.length < 10) ∧ lastB t = 0 ∧ 64 ≤ rd t ((t.length - 2 : Nat) : Int) % 128) ∨ (t.length = 10 ∧ lastB t = 0 ∧ 64 ≤ rd t ((t.length - 2 : Nat) : Int) % 128) ∨ (t.length = 10 ∧ lastB t = 127 ∧ rd t ((t.length - 2 : Nat) : Int) % 128 < 64)) :
    Calls Try.prog 11 #[.slice A l.length c] w fun e w' => e = .returned (.bool true) ∧ Below w.heap.size w w' := by
  have HC := Aside0.mk hC
  have HB := Aside0.mk hb
  have HE := Aside0.mk he
  have HW := Aside0.mk hw
  have HL := Aside0.mk hl
  have HU := Aside0.mk hU
  have HS := Aside0.mk hS
  have hspn : spn l 0 = ((t.length : Int), 0) := by
    have := spn_of t rest 0 hw (by omega)
    rw [he, this, Int.natCast_zero, Int.zero_add]
  have HSP := Aside0.mk hspn
  have hpos := hw.pos
  have HLe := Aside0.mk (show t.length ≤ l.length by rw [he]; simp)
  have h5' : decide (500 < (l.length : Int)) = false := decide_eq_false (by omega)
  have HCL := Aside0.mk hcls
  have H5 := Aside0.mk h5
  have HS1 := Aside0.mk hs1
  have HS2 := Aside0.mk hs2
  clear hs1 hs2
  clear hC hb he hw hl hU hS hspn hcls h5
  obtain ⟨i0, hi0, _, _, _⟩ := info_parts info_u8
  have hcut := cut_to (P := Try.prog) 24 5 .i64 Try.underlying24 hi0 A l.length c (t.length : Int) (Int.natCast_nonneg _) (Int.ofNat_le.2 HLe.out) hc
  rw [Int.toNat_natCast] at hcut
  clear hi0
  go_enter Try.func11, Try.ntmps11
  go_wp2_with (fail)
  go_at_call 13; refine (awake_any _).mono ?_; rintro e w1 ⟨v, rfl, rfl, hb1⟩
  have B1 := Aside0.mk hb1; clear hb1
  go_wp2_with (fail)
  go_at_call 39; refine (GetU_any leb_U_any A c l _ (Kd.C_below HC.out B1.out) hc HB.out (by omega)).mono ?_; rintro e w2 ⟨rfl, hb2⟩
  rw [HU.out]
  have B2 := Aside0.mk (below_step B1.out hb2); clear hb2
  go_wp2_with (fail)
  go_at_call 40; refine (GetS_any leb_S_any A c l _ (Kd.C_below HC.out B2.out) hc HB.out (by omega)).mono ?_; rintro e w3 ⟨rfl, hb3⟩
  rw [HS.out]
  have B3 := Aside0.mk (below_step B2.out hb3); clear hb3
  go_wp2_with (fail)
  go_at_call 41; refine (refSpan_any A c l _ (Kd.C_below HC.out B3.out) hc HB.out (by omega)).mono ?_; rintro e w4 ⟨rfl, hb4⟩
  rw [HSP.out]
  have B4 := Aside0.mk (below_step B3.out hb4); clear hb4
  clear B1 B2 B3
  go_wp2_with (fail)
  refine wp_any [Is (.int .i64 3), Is (.bool false), Is (.bool false), Is (undef), Is (undef), Is (undef), Is (undef), Is (undef), Is (undef), Is (undef), Is (undef), Is (undef), Is (undef), Is (undef), Is (undef), Is (undef), Is (.bool false), Is (.bool false), Is (.int .i64 0), Is (.bool true), Is (.bool true), Is (.int .i64 (t.length : Int)), Is (.int .i64 (t.length : Int)), Is (.bool false), Is (.bool false), Is (.int .i64 (sv t)), Sl (t), Is (.string (strOfNums (t))), Is (.slice A l.length c), Is (.int .i64 (t.length : Int)), Sl (t), Is (.string (strOfNums (t))), Is (.bool false), Is (.bool false), Is (.bool false), Is (.bool false)] (fun w' => Below w.heap.size w w') Grows (by kernel_rfl) (by kernel_rfl) (by kernel_rfl) rfl ?hst ?hgr Grows.refl ?hg ?hsteps ?hend
  case hst => simp only [List.forall_mem_cons, List.not_mem_nil, false_implies, implies_true, Is.st, Sl.st, and_self]
  case hgr => exact fun _ _ h1 h2 => below_step h1 h2
  case hg => exact below_drew B4.out
  case hsteps =>
    refine ⟨?_, ?_, ?_, ?_, ?_, ?_, ?_, ?_, ?_, ?_, ?_, ?_, ?_, ?_, ?_, ?_, ?_, ?_, ?_, ?_, ?_, ?_, ?_, ?_, ?_, ?_, ?_, ?_, ?_, ?_, ?_, ?_, ?_, ?_, ?_, ?_, trivial⟩
    · intro a w' hG hd hk
      rw [if_pos (wanted_none rfl)]
      have e5 : a.tmps.getD 5 undef = .int .i64 3 := hk 5 (frame_of (by kernel_rfl))
      exact Does.val (v := .int .i64 3) (w' := w') (by simp [execOp, Act.eval, go_sem, e5]) ⟨Grows.refl _, rfl⟩
    · intro a w' hG hd hk
      rw [if_pos (wanted_none rfl)]
      have e66 : a.tmps.getD 66 undef = .int .i64 3 := hd 0 (by decide) _ rfl
      exact Does.val (v := .bool false) (w' := w') (by simp [execOp, Act.eval, go_sem, e66]) ⟨Grows.refl _, rfl⟩
    · intro a w' hG hd hk
      rw [if_pos (wanted_none rfl)]
      have e67 : a.tmps.getD 67 undef = .bool false := hd 1 (by decide) _ rfl
      exact Does.val (v := .bool false) (w' := w') (by simp [execOp, Act.eval, go_sem, e67]) ⟨Grows.refl _, rfl⟩
    · intro a w' hG hd hk
      have g68 : a.tmps.getD 68 undef = .bool false := hd 2 (by decide) _ rfl
      rw [if_neg (by rw [wanted_some (j := 2) (t := 68) rfl rfl rfl g68]; decide)]
      exact rfl
    · intro a w' hG hd hk
      have g68 : a.tmps.getD 68 undef = .bool false := hd 2 (by decide) _ rfl
      rw [if_neg (by rw [wanted_some (j := 2) (t := 68) rfl rfl rfl g68]; decide)]
      exact rfl
    · intro a w' hG hd hk
      have g68 : a.tmps.getD 68 undef = .bool false := hd 2 (by decide) _ rfl
      rw [if_neg (by rw [wanted_some (j := 2) (t := 68) rfl rfl rfl g68]; decide)]
      exact rfl
    · intro a w' hG hd hk
      have g68 : a.tmps.getD 68 undef = .bool false := hd 2 (by decide) _ rfl
      rw [if_neg (by rw [wanted_some (j := 2) (t := 68) rfl rfl rfl g68]; decide)]
      exact rfl
    · intro a w' hG hd hk
      have g72 : a.tmps.getD 72 undef = undef := hd 6 (by decide) _ rfl
      rw [if_neg (by rw [wanted_undef (j := 6) (t := 72) rfl rfl rfl g72]; decide)]
      exact rfl
    · intro a w' hG hd hk
      have g72 : a.tmps.getD 72 undef = undef := hd 6 (by decide) _ rfl
      rw [if_neg (by rw [wanted_undef (j := 6) (t := 72) rfl rfl rfl g72]; decide)]
      exact rfl
    · intro a w' hG hd hk
      have g72 : a.tmps.getD 72 undef = undef := hd 6 (by decide) _ rfl
      rw [if_neg (by rw [wanted_undef (j := 6) (t := 72) rfl rfl rfl g72]; decide)]
      exact rfl
    · intro a w' hG hd hk
      have g72 : a.tmps.getD 72 undef = undef := hd 6 (by decide) _ rfl
      rw [if_neg (by rw [wanted_undef (j := 6) (t := 72) rfl rfl rfl g72]; decide)]
      exact rfl
    · intro a w' hG hd hk
      have g72 : a.tmps.getD 72 undef = undef := hd 6 (by decide) _ rfl
      rw [if_neg (by rw [wanted_undef (j := 6) (t := 72) rfl rfl rfl g72]; decide)]
      exact rfl
    · intro a w' hG hd hk
      have g72 : a.tmps.getD 72 undef = undef := hd 6 (by decide) _ rfl
      rw [if_neg (by rw [wanted_undef (j := 6) (t := 72) rfl rfl rfl g72]; decide)]
      exact rfl
    · intro a w' hG hd hk
      have g72 : a.tmps.getD 72 undef = undef := hd 6 (by decide) _ rfl
      rw [if_neg (by rw [wanted_undef (j := 6) (t := 72) rfl rfl rfl g72]; decide)]
      exact rfl
    · intro a w' hG hd hk
      have g72 : a.tmps.getD 72 undef = undef := hd 6 (by decide) _ rfl
      rw [if_neg (by rw [wanted_undef (j := 6) (t := 72) rfl rfl rfl g72]; decide)]
      exact rfl
    · intro a w' hG hd hk
      have g68 : a.tmps.getD 68 undef = .bool false := hd 2 (by decide) _ rfl
      rw [if_neg (by rw [wanted_some (j := 2) (t := 68) rfl rfl rfl g68]; decide)]
      exact rfl
    · intro a w' hG hd hk
      rw [if_pos (wanted_none rfl)]
      have e68 : a.tmps.getD 68 undef = .bool false := hd 2 (by decide) _ rfl
      exact Does.val (v := .bool false) (w' := w') (by simp [execOp, Act.eval, go_sem, e68]) ⟨Grows.refl _, rfl⟩
    · intro a w' hG hd hk
      rw [if_pos (wanted_none rfl)]
      have e82 : a.tmps.getD 82 undef = .bool false := hd 16 (by decide) _ rfl
      exact Does.val (v := .bool false) (w' := w') (by simp [execOp, Act.eval, go_sem, e82]) ⟨Grows.refl _, rfl⟩
    · intro a w' hG hd hk
      have g83 : a.tmps.getD 83 undef = .bool false := hd 17 (by decide) _ rfl
      rw [if_pos (by rw [wanted_some (j := 17) (t := 83) rfl rfl rfl g83]; decide)]
      have e8 : a.tmps.getD 8 undef = .int .i64 0 := hk 8 (frame_of (by kernel_rfl))
      exact Does.val (v := .int .i64 0) (w' := w') (by simp [execOp, Act.eval, go_sem, e8]) ⟨Grows.refl _, rfl⟩
    · intro a w' hG hd hk
      have g83 : a.tmps.getD 83 undef = .bool false := hd 17 (by decide) _ rfl
      rw [if_pos (by rw [wanted_some (j := 17) (t := 83) rfl rfl rfl g83]; decide)]
      have e84 : a.tmps.getD 84 undef = .int .i64 0 := hd 18 (by decide) _ rfl
      exact Does.val (v := .bool true) (w' := w') (by simp [execOp, Act.eval, go_sem, e84]) ⟨Grows.refl _, rfl⟩
    · intro a w' hG hd hk
      have g83 : a.tmps.getD 83 undef = .bool false := hd 17 (by decide) _ rfl
      rw [if_pos (by rw [wanted_some (j := 17) (t := 83) rfl rfl rfl g83]; decide)]
      have e85 : a.tmps.getD 85 undef = .bool true := hd 19 (by decide) _ rfl
      exact Does.val (v := .bool true) (w' := w') (by simp [execOp, Act.eval, go_sem, e85]) ⟨Grows.refl _, rfl⟩
    · intro a w' hG hd hk
      have g86 : a.tmps.getD 86 undef = .bool true := hd 20 (by decide) _ rfl
      rw [if_pos (by rw [wanted_some (j := 20) (t := 86) rfl rfl rfl g86]; decide)]
      have e7 : a.tmps.getD 7 undef = .int .i64 (t.length : Int) := hk 7 (frame_of (by kernel_rfl))
      exact Does.val (v := .int .i64 (t.length : Int)) (w' := w') (by simp [execOp, Act.eval, go_sem, e7]) ⟨Grows.refl _, rfl⟩
    · intro a w' hG hd hk
      have g86 : a.tmps.getD 86 undef = .bool true := hd 20 (by decide) _ rfl
      rw [if_pos (by rw [wanted_some (j := 20) (t := 86) rfl rfl rfl g86]; decide)]
      have e9 : a.tmps.getD 9 undef = .int .i64 (t.length : Int) := hk 9 (frame_of (by kernel_rfl))
      exact Does.val (v := .int .i64 (t.length : Int)) (w' := w') (by simp [execOp, Act.eval, go_sem, e9]) ⟨Grows.refl _, rfl⟩
    · intro a w' hG hd hk
      have g86 : a.tmps.getD 86 undef = .bool true := hd 20 (by decide) _ rfl
      rw [if_pos (by rw [wanted_some (j := 20) (t := 86) rfl rfl rfl g86]; decide)]
      have e87 : a.tmps.getD 87 undef = .int .i64 (t.length : Int) := hd 21 (by decide) _ rfl
      have e88 : a.tmps.getD 88 undef = .int .i64 (t.length : Int) := hd 22 (by decide) _ rfl
      exact Does.val (v := .bool false) (w' := w') (by simp [execOp, Act.eval, go_sem, e87, e88]) ⟨Grows.refl _, rfl⟩
    · intro a w' hG hd hk
      have g86 : a.tmps.getD 86 undef = .bool true := hd 20 (by decide) _ rfl
      rw [if_pos (by rw [wanted_some (j := 20) (t := 86) rfl rfl rfl g86]; decide)]
      have e89 : a.tmps.getD 89 undef = .bool false := hd 23 (by decide) _ rfl
      exact Does.val (v := .bool false) (w' := w') (by simp [execOp, Act.eval, go_sem, e89]) ⟨Grows.refl _, rfl⟩
    · intro a w' hG hd hk
      have g90 : a.tmps.getD 90 undef = .bool false := hd 24 (by decide) _ rfl
      rw [if_pos (by rw [wanted_some (j := 24) (t := 90) rfl rfl rfl g90]; decide)]
      have e6 : a.tmps.getD 6 undef = .int .i64 (sv t) := hk 6 (frame_of (by kernel_rfl))
      exact Does.val (v := .int .i64 (sv t)) (w' := w') (by simp [execOp, Act.eval, go_sem, e6]) ⟨Grows.refl _, rfl⟩
    · intro a w' hG hd hk
      have g90 : a.tmps.getD 90 undef = .bool false := hd 24 (by decide) _ rfl
      rw [if_pos (by rw [wanted_some (j := 24) (t := 90) rfl rfl rfl g90]; decide)]
      have e91 : a.tmps.getD 91 undef = .int .i64 (sv t) := hd 25 (by decide) _ rfl
      exact Does.call (f := 22) (by simp [execOp, Act.eval, go_sem, e91]) (HS1.out ▸ ref_S_any (sv t) HS2.out w')
    · intro a w' hG hd hk
      have g90 : a.tmps.getD 90 undef = .bool false := hd 24 (by decide) _ rfl
      rw [if_pos (by rw [wanted_some (j := 24) (t := 90) rfl rfl rfl g90]; decide)]
      obtain ⟨A92, c92, e92, hc92, hC92⟩ : Sl (t) (a.tmps.getD 92 undef) w' := hd 26 (by decide) _ rfl
      have hv := Kd.C_string (P := Try.prog) (c := c92) Try.underlying24 Try.underlying5 Try.underlying9 hC92
      exact Does.val (v := .string (strOfNums (t))) (w' := w') (by simp [execOp, Act.eval, go_sem, e92, hv]) ⟨Grows.refl _, rfl⟩
    · intro a w' hG hd hk
      have g90 : a.tmps.getD 90 undef = .bool false := hd 24 (by decide) _ rfl
      rw [if_pos (by rw [wanted_some (j := 24) (t := 90) rfl rfl rfl g90]; decide)]
      have e0 : a.tmps.getD 0 undef = .slice A l.length c := hk 0 (frame_of (by kernel_rfl))
      exact Does.val (v := .slice A l.length c) (w' := w') (by simp [execOp, Act.eval, go_sem, e0]) ⟨Grows.refl _, rfl⟩
    · intro a w' hG hd hk
      have g90 : a.tmps.getD 90 undef = .bool false := hd 24 (by decide) _ rfl
      rw [if_pos (by rw [wanted_some (j := 24) (t := 90) rfl rfl rfl g90]; decide)]
      have e9 : a.tmps.getD 9 undef = .int .i64 (t.length : Int) := hk 9 (frame_of (by kernel_rfl))
      exact Does.val (v := .int .i64 (t.length : Int)) (w' := w') (by simp [execOp, Act.eval, go_sem, e9]) ⟨Grows.refl _, rfl⟩
    · intro a w' hG hd hk
      have g90 : a.tmps.getD 90 undef = .bool false := hd 24 (by decide) _ rfl
      rw [if_pos (by rw [wanted_some (j := 24) (t := 90) rfl rfl rfl g90]; decide)]
      have e94 : a.tmps.getD 94 undef = .slice A l.length c := hd 28 (by decide) _ rfl
      have e95 : a.tmps.getD 95 undef = .int .i64 (t.length : Int) := hd 29 (by decide) _ rfl
      exact Does.val (v := .slice A t.length c) (w' := w') (by simp [execOp, Act.eval, go_sem, e94, e95, hcut]) ⟨Grows.refl _, A, c, rfl, Nat.le_trans HLe.out hc, C_front (Kd.C_below HC.out hG) HE.out⟩
    · intro a w' hG hd hk
      have g90 : a.tmps.getD 90 undef = .bool false := hd 24 (by decide) _ rfl
      rw [if_pos (by rw [wanted_some (j := 24) (t := 90) rfl rfl rfl g90]; decide)]
      obtain ⟨A96, c96, e96, hc96, hC96⟩ : Sl (t) (a.tmps.getD 96 undef) w' := hd 30 (by decide) _ rfl
      have hv := Kd.C_string (P := Try.prog) (c := c96) Try.underlying24 Try.underlying5 Try.underlying9 hC96
      exact Does.val (v := .string (strOfNums (t))) (w' := w') (by simp [execOp, Act.eval, go_sem, e96, hv]) ⟨Grows.refl _, rfl⟩
    · intro a w' hG hd hk
      have g90 : a.tmps.getD 90 undef = .bool false := hd 24 (by decide) _ rfl
      rw [if_pos (by rw [wanted_some (j := 24) (t := 90) rfl rfl rfl g90]; decide)]
      have e93 : a.tmps.getD 93 undef = .string (strOfNums (t)) := hd 27 (by decide) _ rfl
      have e97 : a.tmps.getD 97 undef = .string (strOfNums (t)) := hd 31 (by decide) _ rfl
      exact Does.val (v := .bool false) (w' := w') (by simp [execOp, Act.eval, go_sem, e93, e97]) ⟨Grows.refl _, rfl⟩
    · intro a w' hG hd hk
      have g86 : a.tmps.getD 86 undef = .bool true := hd 20 (by decide) _ rfl
      rw [if_pos (by rw [wanted_some (j := 20) (t := 86) rfl rfl rfl g86]; decide)]
      have e90 : a.tmps.getD 90 undef = .bool false := hd 24 (by decide) _ rfl
      have e98 : a.tmps.getD 98 undef = .bool false := hd 32 (by decide) _ rfl
      exact Does.val (v := .bool false) (w' := w') (by simp [execOp, Act.eval, go_sem, e90, e98]) ⟨Grows.refl _, rfl⟩
    · intro a w' hG hd hk
      have g83 : a.tmps.getD 83 undef = .bool false := hd 17 (by decide) _ rfl
      rw [if_pos (by rw [wanted_some (j := 17) (t := 83) rfl rfl rfl g83]; decide)]
      have e86 : a.tmps.getD 86 undef = .bool true := hd 20 (by decide) _ rfl
      have e99 : a.tmps.getD 99 undef = .bool false := hd 33 (by decide) _ rfl
      exact Does.val (v := .bool false) (w' := w') (by simp [execOp, Act.eval, go_sem, e86, e99]) ⟨Grows.refl _, rfl⟩
    · intro a w' hG hd hk
      rw [if_pos (wanted_none rfl)]
      have e83 : a.tmps.getD 83 undef = .bool false := hd 17 (by decide) _ rfl
      have e100 : a.tmps.getD 100 undef = .bool false := hd 34 (by decide) _ rfl
      exact Does.val (v := .bool false) (w' := w') (by simp [execOp, Act.eval, go_sem, e83, e100]) ⟨Grows.refl _, rfl⟩
  intro vs0 w5 B5_ hV0
  have B5 := Aside0.mk B5_; clear B5_
  obtain ⟨_, vs1, rfl, rfl, hV1⟩ := Vals.out hV0; clear hV0
  obtain ⟨_, vs2, rfl, rfl, hV2⟩ := Vals.out hV1; clear hV1
  obtain ⟨_, vs3, rfl, rfl, hV3⟩ := Vals.out hV2; clear hV2
  obtain ⟨_, vs4, rfl, rfl, hV4⟩ := Vals.out hV3; clear hV3
  obtain ⟨_, vs5, rfl, rfl, hV5⟩ := Vals.out hV4; clear hV4
  obtain ⟨_, vs6, rfl, rfl, hV6⟩ := Vals.out hV5; clear hV5
  obtain ⟨_, vs7, rfl, rfl, hV7⟩ := Vals.out hV6; clear hV6
  obtain ⟨_, vs8, rfl, rfl, hV8⟩ := Vals.out hV7; clear hV7
  obtain ⟨_, vs9, rfl, rfl, hV9⟩ := Vals.out hV8; clear hV8
  obtain ⟨_, vs10, rfl, rfl, hV10⟩ := Vals.out hV9; clear hV9
  obtain ⟨_, vs11, rfl, rfl, hV11⟩ := Vals.out hV10; clear hV10
  obtain ⟨_, vs12, rfl, rfl, hV12⟩ := Vals.out hV11; clear hV11
  obtain ⟨_, vs13, rfl, rfl, hV13⟩ := Vals.out hV12; clear hV12
  obtain ⟨_, vs14, rfl, rfl, hV14⟩ := Vals.out hV13; clear hV13
  obtain ⟨_, vs15, rfl, rfl, hV15⟩ := Vals.out hV14; clear hV14
  obtain ⟨_, vs16, rfl, rfl, hV16⟩ := Vals.out hV15; clear hV15
  obtain ⟨_, vs17, rfl, rfl, hV17⟩ := Vals.out hV16; clear hV16
  obtain ⟨_, vs18, rfl, rfl, hV18⟩ := Vals.out hV17; clear hV17
  obtain ⟨_, vs19, rfl, rfl, hV19⟩ := Vals.out hV18; clear hV18
  obtain ⟨_, vs20, rfl, rfl, hV20⟩ := Vals.out hV19; clear hV19
  obtain ⟨_, vs21, rfl, rfl, hV21⟩ := Vals.out hV20; clear hV20
  obtain ⟨_, vs22, rfl, rfl, hV22⟩ := Vals.out hV21; clear hV21
  obtain ⟨_, vs23, rfl, rfl, hV23⟩ := Vals.out hV22; clear hV22
  obtain ⟨_, vs24, rfl, rfl, hV24⟩ := Vals.out hV23; clear hV23
  obtain ⟨_, vs25, rfl, rfl, hV25⟩ := Vals.out hV24; clear hV24
  obtain ⟨_, vs26, rfl, rfl, hV26⟩ := Vals.out hV25; clear hV25
  obtain ⟨_, vs27, rfl, ⟨A92, c92, rfl, hc92, hC92⟩, hV27⟩ := Vals.out hV26; clear hV26
  obtain ⟨_, vs28, rfl, rfl, hV28⟩ := Vals.out hV27; clear hV27
  obtain ⟨_, vs29, rfl, rfl, hV29⟩ := Vals.out hV28; clear hV28
  obtain ⟨_, vs30, rfl, rfl, hV30⟩ := Vals.out hV29; clear hV29
  obtain ⟨_, vs31, rfl, ⟨A96, c96, rfl, hc96, hC96⟩, hV31⟩ := Vals.out hV30; clear hV30
  obtain ⟨_, vs32, rfl, rfl, hV32⟩ := Vals.out hV31; clear hV31
  obtain ⟨_, vs33, rfl, rfl, hV33⟩ := Vals.out hV32; clear hV32
  obtain ⟨_, vs34, rfl, rfl, hV34⟩ := Vals.out hV33; clear hV33
  obtain ⟨_, vs35, rfl, rfl, hV35⟩ := Vals.out hV34; clear hV34
  obtain ⟨_, vs36, rfl, rfl, hV36⟩ := Vals.out hV35; clear hV35
  obtain rfl := Vals.nil hV36; clear hV36
  simp only [puts, List.map_cons, List.map_nil, Act.put, List.setIfInBounds_toArray, List.set_cons_zero, List.set_cons_succ]
  have HD := Aside0.mk (Kd.C_below HC.out B5.out)
  obtain ⟨j, hj⟩ : ∃ j, t.length = j + 1 := ⟨t.length - 1, by omega⟩
  have hle := HLe.out
  have hl10 := HL.out
  obtain ⟨ad, rfl, hcell⟩ := Kd.at_int HD.out (j : Int) (by omega) (by omega)
  have hlast : rd l (j : Int) = lastB t := by
    rw [HE.out, rd_front (by omega)]
    unfold lastB
    rw [show ((t.length : Int) - 1) = (j : Int) by omega, rd_nat _ _ (by omega)]
  rw [hlast, Int.toNat_natCast] at hcell
  have hw0 : wrap64 ((t.length : Int) - 1) = (j : Int) := by rw [w64 (by omega) (by omega)]; omega
  have hjl : (j : Int) < (l.length : Int) := by omega
  have hLB := HW.out.last
  have hye : 1 < t.length → 0 ≤ rd t ((t.length - 2 : Nat) : Int) ∧ rd t ((t.length - 2 : Nat) : Int) < 256 := fun h => by
    rw [rd_nat _ _ (by omega)]; exact HW.out.bytes _ (List.getElem_mem _)
  have hcl := HCL.out
  have hcell2 : 1 < t.length → ∃ j2 : Nat, wrap64 ((t.length : Int) - 2) = (j2 : Int) ∧ (j2 : Int) < (l.length : Int) ∧ w5.cell? (ad.add j2) = some (.int .u8 (rd t ((t.length - 2 : Nat) : Int))) := by
    intro h1
    obtain ⟨ad2, e2, hc2⟩ := Kd.at_int HD.out ((t.length - 2 : Nat) : Int) (by omega) (by omega)
    injection e2 with e2
    subst e2
    refine ⟨t.length - 2, by rw [w64 (by omega) (by omega)]; omega, by omega, ?_⟩
    rw [Int.toNat_natCast] at hc2
    rw [hc2, HE.out, rd_front (by omega), rd_nat _ _ (by omega)]
  clear hle hl10 hlast HE HW HD HC HCL HU HS HSP HLe
  generalize hlx : lastB t = x at *
  generalize hry : rd t ((t.length - 2 : Nat) : Int) = y at *
  clear hlx hry
  rcases hcl with ⟨hcw, hcx, hcy⟩ | ⟨hcw, hcx, hcy⟩ | ⟨hcw, hcx, hcy⟩
  · have c1 : ((t.length : Int) == 1) = false := beq_eq_false_iff_ne.2 (by omega)
    have c1' : decide (1 < (t.length : Int)) = true := decide_eq_true (by omega)
    have c10 : decide ((t.length : Int) < 10) = true := decide_eq_true (by omega)
    obtain ⟨j2, hw2, hj2, hcl2⟩ := hcell2 (by omega)
    have hy := hye (by omega)
    have h64 := and64b hy
    rw [if_pos (by omega)] at h64
    clear hye hcell2
    clear hcw hcy hpos hj
    subst hcx
    go_wp2_with (fail)
    go_ret
    exact ⟨rfl, B5.out⟩
  · have c1 : ((t.length : Int) == 1) = false := beq_eq_false_iff_ne.2 (by omega)
    have c1' : decide (1 < (t.length : Int)) = true := decide_eq_true (by omega)
    have c10 : decide ((t.length : Int) < 10) = false := decide_eq_false (by omega)
    obtain ⟨j2, hw2, hj2, hcl2⟩ := hcell2 (by omega)
    have hy := hye (by omega)
    have h64 := and64b hy
    rw [if_pos (by omega)] at h64
    clear hye hcell2
    clear hcw hcy hpos hj
    subst hcx
    go_wp2_with (fail)
    go_ret
    exact ⟨rfl, B5.out⟩
  · have c1 : ((t.length : Int) == 1) = false := beq_eq_false_iff_ne.2 (by omega)
    have c1' : decide (1 < (t.length : Int)) = true := decide_eq_true (by omega)
    have c10 : decide ((t.length : Int) < 10) = false := decide_eq_false (by omega)
    obtain ⟨j2, hw2, hj2, hcl2⟩ := hcell2 (by omega)
    have hy := hye (by omega)
    have h64 := and64b hy
    rw [if_neg (by omega)] at h64
    clear hye hcell2
    clear hcw hcy hpos hj
    subst hcx
    go_wp2_with (fail)
    go_ret
    exact ⟨rfl, B5.out⟩
set_option maxHeartbeats 8000000 in
set_option maxRecDepth 100000 in
theorem gets_un (A : Option Addr) (c : Nat) (l : List Int) (w : World) (hC : Kd.C (Kd.int .u8) w A l.length l) (hc : l.length ≤ c) (hm : l.length ≤ 140737488351232) (hb : Bs l) (h5 : l.length ≤ 500)
    (t rest : List Int) (he : l = t ++ rest) (hw : Wf t) (hl : t.length ≤ 10) (hU : getU l = ((lv t : Int), (t.length : Int), 0)) (hS : getS l = (0, 0, 3)) (hu1 : uB (lv t) = t) (hu2 : lv t < 18446744073709551616)
    (hcls : ((1 < t.length ∧ t.length < 10) ∧ lastB t = 127 ∧ 64 ≤ rd t ((t.length - 2 : Nat) : Int) % 128) ∨ (t.length = 10 ∧ lastB t = 1 ∧ True)) :
    Calls Try.prog 11 #[.slice A l.length c] w fun e w' => e = .returned (.bool true) ∧ Below w.heap.size w w' := by
  have HC := Aside0.mk hC
  have HB := Aside0.mk hb
  have HE := Aside0.mk he
  have HW := Aside0.mk hw
  have HL := Aside0.mk hl
  have HU := Aside0.mk hU
  have HS := Aside0.mk hS
  have hspn : spn l 0 = ((t.length : Int), 0) := by
    have := spn_of t rest 0 hw (by omega)
    rw [he, this, Int.natCast_zero, Int.zero_add]
  have HSP := Aside0.mk hspn
  have hpos := hw.pos
  have HLe := Aside0.mk (show t.length ≤ l.length by rw [he]; simp)
  have h5' : decide (500 < (l.length : Int)) = false := decide_eq_false (by omega)
  have HCL := Aside0.mk hcls
  have H5 := Aside0.mk h5
  have HU1 := Aside0.mk hu1
  have HU2 := Aside0.mk hu2
  clear hu1 hu2
  clear hC hb he hw hl hU hS hspn hcls h5
  obtain ⟨i0, hi0, _, _, _⟩ := info_parts info_u8
  have hcut := cut_to (P := Try.prog) 24 5 .i64 Try.underlying24 hi0 A l.length c (t.length : Int) (Int.natCast_nonneg _) (Int.ofNat_le.2 HLe.out) hc
  rw [Int.toNat_natCast] at hcut
  clear hi0
  go_enter Try.func11, Try.ntmps11
  go_wp2_with (fail)
  go_at_call 13; refine (awake_any _).mono ?_; rintro e w1 ⟨v, rfl, rfl, hb1⟩
  have B1 := Aside0.mk hb1; clear hb1
  go_wp2_with (fail)
  go_at_call 39; refine (GetU_any leb_U_any A c l _ (Kd.C_below HC.out B1.out) hc HB.out (by omega)).mono ?_; rintro e w2 ⟨rfl, hb2⟩
  rw [HU.out]
  have B2 := Aside0.mk (below_step B1.out hb2); clear hb2
  go_wp2_with (fail)
  go_at_call 40; refine (GetS_any leb_S_any A c l _ (Kd.C_below HC.out B2.out) hc HB.out (by omega)).mono ?_; rintro e w3 ⟨rfl, hb3⟩
  rw [HS.out]
  have B3 := Aside0.mk (below_step B2.out hb3); clear hb3
  go_wp2_with (fail)
  go_at_call 41; refine (refSpan_any A c l _ (Kd.C_below HC.out B3.out) hc HB.out (by omega)).mono ?_; rintro e w4 ⟨rfl, hb4⟩
  rw [HSP.out]
  have B4 := Aside0.mk (below_step B3.out hb4); clear hb4
  clear B1 B2 B3
  go_wp2_with (fail)
  refine wp_any [Is (.int .i64 0), Is (.bool true), Is (.bool true), Is (.int .i64 (t.length : Int)), Is (.int .i64 (t.length : Int)), Is (.bool false), Is (.bool false), Is (.int .u64 (lv t : Int)), Sl (t), Is (.string (strOfNums (t))), Is (.slice A l.length c), Is (.int .i64 (t.length : Int)), Sl (t), Is (.string (strOfNums (t))), Is (.bool false), Is (.bool false), Is (.bool false), Is (.bool false), Is (.int .i64 3), Is (.bool false), Is (.bool false), Is (undef), Is (undef), Is (undef), Is (undef), Is (undef), Is (undef), Is (undef), Is (undef), Is (undef), Is (undef), Is (undef), Is (undef), Is (undef), Is (.bool false), Is (.bool false)] (fun w' => Below w.heap.size w w') Grows (by kernel_rfl) (by kernel_rfl) (by kernel_rfl) rfl ?hst ?hgr Grows.refl ?hg ?hsteps ?hend
  case hst => simp only [List.forall_mem_cons, List.not_mem_nil, false_implies, implies_true, Is.st, Sl.st, and_self]
  case hgr => exact fun _ _ h1 h2 => below_step h1 h2
  case hg => exact below_drew B4.out
  case hsteps =>
    refine ⟨?_, ?_, ?_, ?_, ?_, ?_, ?_, ?_, ?_, ?_, ?_, ?_, ?_, ?_, ?_, ?_, ?_, ?_, ?_, ?_, ?_, ?_, ?_, ?_, ?_, ?_, ?_, ?_, ?_, ?_, ?_, ?_, ?_, ?_, ?_, ?_, trivial⟩
    · intro a w' hG hd hk
      rw [if_pos (wanted_none rfl)]
      have e5 : a.tmps.getD 5 undef = .int .i64 0 := hk 5 (frame_of (by kernel_rfl))
      exact Does.val (v := .int .i64 0) (w' := w') (by simp [execOp, Act.eval, go_sem, e5]) ⟨Grows.refl _, rfl⟩
    · intro a w' hG hd hk
      rw [if_pos (wanted_none rfl)]
      have e66 : a.tmps.getD 66 undef = .int .i64 0 := hd 0 (by decide) _ rfl
      exact Does.val (v := .bool true) (w' := w') (by simp [execOp, Act.eval, go_sem, e66]) ⟨Grows.refl _, rfl⟩
    · intro a w' hG hd hk
      rw [if_pos (wanted_none rfl)]
      have e67 : a.tmps.getD 67 undef = .bool true := hd 1 (by decide) _ rfl
      exact Does.val (v := .bool true) (w' := w') (by simp [execOp, Act.eval, go_sem, e67]) ⟨Grows.refl _, rfl⟩
    · intro a w' hG hd hk
      have g68 : a.tmps.getD 68 undef = .bool true := hd 2 (by decide) _ rfl
      rw [if_pos (by rw [wanted_some (j := 2) (t := 68) rfl rfl rfl g68]; decide)]
      have e4 : a.tmps.getD 4 undef = .int .i64 (t.length : Int) := hk 4 (frame_of (by kernel_rfl))
      exact Does.val (v := .int .i64 (t.length : Int)) (w' := w') (by simp [execOp, Act.eval, go_sem, e4]) ⟨Grows.refl _, rfl⟩
    · intro a w' hG hd hk
      have g68 : a.tmps.getD 68 undef = .bool true := hd 2 (by decide) _ rfl
      rw [if_pos (by rw [wanted_some (j := 2) (t := 68) rfl rfl rfl g68]; decide)]
      have e9 : a.tmps.getD 9 undef = .int .i64 (t.length : Int) := hk 9 (frame_of (by kernel_rfl))
      exact Does.val (v := .int .i64 (t.length : Int)) (w' := w') (by simp [execOp, Act.eval, go_sem, e9]) ⟨Grows.refl _, rfl⟩
    · intro a w' hG hd hk
      have g68 : a.tmps.getD 68 undef = .bool true := hd 2 (by decide) _ rfl
      rw [if_pos (by rw [wanted_some (j := 2) (t := 68) rfl rfl rfl g68]; decide)]
      have e69 : a.tmps.getD 69 undef = .int .i64 (t.length : Int) := hd 3 (by decide) _ rfl
      have e70 : a.tmps.getD 70 undef = .int .i64 (t.length : Int) := hd 4 (by decide) _ rfl
      exact Does.val (v := .bool false) (w' := w') (by simp [execOp, Act.eval, go_sem, e69, e70]) ⟨Grows.refl _, rfl⟩
    · intro a w' hG hd hk
      have g68 : a.tmps.getD 68 undef = .bool true := hd 2 (by decide) _ rfl
      rw [if_pos (by rw [wanted_some (j := 2) (t := 68) rfl rfl rfl g68]; decide)]
      have e71 : a.tmps.getD 71 undef = .bool false := hd 5 (by decide) _ rfl
      exact Does.val (v := .bool false) (w' := w') (by simp [execOp, Act.eval, go_sem, e71]) ⟨Grows.refl _, rfl⟩
    · intro a w' hG hd hk
      have g72 : a.tmps.getD 72 undef = .bool false := hd 6 (by decide) _ rfl
      rw [if_pos (by rw [wanted_some (j := 6) (t := 72) rfl rfl rfl g72]; decide)]
      have e3 : a.tmps.getD 3 undef = .int .u64 (lv t : Int) := hk 3 (frame_of (by kernel_rfl))
      exact Does.val (v := .int .u64 (lv t : Int)) (w' := w') (by simp [execOp, Act.eval, go_sem, e3]) ⟨Grows.refl _, rfl⟩
    · intro a w' hG hd hk
      have g72 : a.tmps.getD 72 undef = .bool false := hd 6 (by decide) _ rfl
      rw [if_pos (by rw [wanted_some (j := 6) (t := 72) rfl rfl rfl g72]; decide)]
      have e73 : a.tmps.getD 73 undef = .int .u64 (lv t : Int) := hd 7 (by decide) _ rfl
      exact Does.call (f := 21) (by simp [execOp, Act.eval, go_sem, e73]) (HU1.out ▸ ref_U_any (lv t) HU2.out w')
    · intro a w' hG hd hk
      have g72 : a.tmps.getD 72 undef = .bool false := hd 6 (by decide) _ rfl
      rw [if_pos (by rw [wanted_some (j := 6) (t := 72) rfl rfl rfl g72]; decide)]
      obtain ⟨A74, c74, e74, hc74, hC74⟩ : Sl (t) (a.tmps.getD 74 undef) w' := hd 8 (by decide) _ rfl
      have hv := Kd.C_string (P := Try.prog) (c := c74) Try.underlying24 Try.underlying5 Try.underlying9 hC74
      exact Does.val (v := .string (strOfNums (t))) (w' := w') (by simp [execOp, Act.eval, go_sem, e74, hv]) ⟨Grows.refl _, rfl⟩
    · intro a w' hG hd hk
      have g72 : a.tmps.getD 72 undef = .bool false := hd 6 (by decide) _ rfl
      rw [if_pos (by rw [wanted_some (j := 6) (t := 72) rfl rfl rfl g72]; decide)]
      have e0 : a.tmps.getD 0 undef = .slice A l.length c := hk 0 (frame_of (by kernel_rfl))
      exact Does.val (v := .slice A l.length c) (w' := w') (by simp [execOp, Act.eval, go_sem, e0]) ⟨Grows.refl _, rfl⟩
    · intro a w' hG hd hk
      have g72 : a.tmps.getD 72 undef = .bool false := hd 6 (by decide) _ rfl
      rw [if_pos (by rw [wanted_some (j := 6) (t := 72) rfl rfl rfl g72]; decide)]
      have e9 : a.tmps.getD 9 undef = .int .i64 (t.length : Int) := hk 9 (frame_of (by kernel_rfl))
      exact Does.val (v := .int .i64 (t.length : Int)) (w' := w') (by simp [execOp, Act.eval, go_sem, e9]) ⟨Grows.refl _, rfl⟩
    · intro a w' hG hd hk
      have g72 : a.tmps.getD 72 undef = .bool false := hd 6 (by decide) _ rfl
      rw [if_pos (by rw [wanted_some (j := 6) (t := 72) rfl rfl rfl g72]; decide)]
      have e76 : a.tmps.getD 76 undef = .slice A l.length c := hd 10 (by decide) _ rfl
      have e77 : a.tmps.getD 77 undef = .int .i64 (t.length : Int) := hd 11 (by decide) _ rfl
      exact Does.val (v := .slice A t.length c) (w' := w') (by simp [execOp, Act.eval, go_sem, e76, e77, hcut]) ⟨Grows.refl _, A, c, rfl, Nat.le_trans HLe.out hc, C_front (Kd.C_below HC.out hG) HE.out⟩
    · intro a w' hG hd hk
      have g72 : a.tmps.getD 72 undef = .bool false := hd 6 (by decide) _ rfl
      rw [if_pos (by rw [wanted_some (j := 6) (t := 72) rfl rfl rfl g72]; decide)]
      obtain ⟨A78, c78, e78, hc78, hC78⟩ : Sl (t) (a.tmps.getD 78 undef) w' := hd 12 (by decide) _ rfl
      have hv := Kd.C_string (P := Try.prog) (c := c78) Try.underlying24 Try.underlying5 Try.underlying9 hC78
      exact Does.val (v := .string (strOfNums (t))) (w' := w') (by simp [execOp, Act.eval, go_sem, e78, hv]) ⟨Grows.refl _, rfl⟩
    · intro a w' hG hd hk
      have g72 : a.tmps.getD 72 undef = .bool false := hd 6 (by decide) _ rfl
      rw [if_pos (by rw [wanted_some (j := 6) (t := 72) rfl rfl rfl g72]; decide)]
      have e75 : a.tmps.getD 75 undef = .string (strOfNums (t)) := hd 9 (by decide) _ rfl
      have e79 : a.tmps.getD 79 undef = .string (strOfNums (t)) := hd 13 (by decide) _ rfl
      exact Does.val (v := .bool false) (w' := w') (by simp [execOp, Act.eval, go_sem, e75, e79]) ⟨Grows.refl _, rfl⟩
    · intro a w' hG hd hk
      have g68 : a.tmps.getD 68 undef = .bool true := hd 2 (by decide) _ rfl
      rw [if_pos (by rw [wanted_some (j := 2) (t := 68) rfl rfl rfl g68]; decide)]
      have e72 : a.tmps.getD 72 undef = .bool false := hd 6 (by decide) _ rfl
      have e80 : a.tmps.getD 80 undef = .bool false := hd 14 (by decide) _ rfl
      exact Does.val (v := .bool false) (w' := w') (by simp [execOp, Act.eval, go_sem, e72, e80]) ⟨Grows.refl _, rfl⟩
    · intro a w' hG hd hk
      rw [if_pos (wanted_none rfl)]
      have e68 : a.tmps.getD 68 undef = .bool true := hd 2 (by decide) _ rfl
      have e81 : a.tmps.getD 81 undef = .bool false := hd 15 (by decide) _ rfl
      exact Does.val (v := .bool false) (w' := w') (by simp [execOp, Act.eval, go_sem, e68, e81]) ⟨Grows.refl _, rfl⟩
    · intro a w' hG hd hk
      rw [if_pos (wanted_none rfl)]
      have e82 : a.tmps.getD 82 undef = .bool false := hd 16 (by decide) _ rfl
      exact Does.val (v := .bool false) (w' := w') (by simp [execOp, Act.eval, go_sem, e82]) ⟨Grows.refl _, rfl⟩
    · intro a w' hG hd hk
      have g83 : a.tmps.getD 83 undef = .bool false := hd 17 (by decide) _ rfl
      rw [if_pos (by rw [wanted_some (j := 17) (t := 83) rfl rfl rfl g83]; decide)]
      have e8 : a.tmps.getD 8 undef = .int .i64 3 := hk 8 (frame_of (by kernel_rfl))
      exact Does.val (v := .int .i64 3) (w' := w') (by simp [execOp, Act.eval, go_sem, e8]) ⟨Grows.refl _, rfl⟩
    · intro a w' hG hd hk
      have g83 : a.tmps.getD 83 undef = .bool false := hd 17 (by decide) _ rfl
      rw [if_pos (by rw [wanted_some (j := 17) (t := 83) rfl rfl rfl g83]; decide)]
      have e84 : a.tmps.getD 84 undef = .int .i64 3 := hd 18 (by decide) _ rfl
      exact Does.val (v := .bool false) (w' := w') (by simp [execOp, Act.eval, go_sem, e84]) ⟨Grows.refl _, rfl⟩
    · intro a w' hG hd hk
      have g83 : a.tmps.getD 83 undef = .bool false := hd 17 (by decide) _ rfl
      rw [if_pos (by rw [wanted_some (j := 17) (t := 83) rfl rfl rfl g83]; decide)]
      have e85 : a.tmps.getD 85 undef = .bool false := hd 19 (by decide) _ rfl
      exact Does.val (v := .bool false) (w' := w') (by simp [execOp, Act.eval, go_sem, e85]) ⟨Grows.refl _, rfl⟩
    · intro a w' hG hd hk
      have g86 : a.tmps.getD 86 undef = .bool false := hd 20 (by decide) _ rfl
      rw [if_neg (by rw [wanted_some (j := 20) (t := 86) rfl rfl rfl g86]; decide)]
      exact rfl
    · intro a w' hG hd hk
      have g86 : a.tmps.getD 86 undef = .bool false := hd 20 (by decide) _ rfl
      rw [if_neg (by rw [wanted_some (j := 20) (t := 86) rfl rfl rfl g86]; decide)]
      exact rfl
    · intro a w' hG hd hk
      have g86 : a.tmps.getD 86 undef = .bool false := hd 20 (by decide) _ rfl
      rw [if_neg (by rw [wanted_some (j := 20) (t := 86) rfl rfl rfl g86]; decide)]
      exact rfl
    · intro a w' hG hd hk
      have g86 : a.tmps.getD 86 undef = .bool false := hd 20 (by decide) _ rfl
      rw [if_neg (by rw [wanted_some (j := 20) (t := 86) rfl rfl rfl g86]; decide)]
      exact rfl
    · intro a w' hG hd hk
      have g90 : a.tmps.getD 90 undef = undef := hd 24 (by decide) _ rfl
      rw [if_neg (by rw [wanted_undef (j := 24) (t := 90) rfl rfl rfl g90]; decide)]
      exact rfl
    · intro a w' hG hd hk
      have g90 : a.tmps.getD 90 undef = undef := hd 24 (by decide) _ rfl
      rw [if_neg (by rw [wanted_undef (j := 24) (t := 90) rfl rfl rfl g90]; decide)]
      exact rfl
    · intro a w' hG hd hk
      have g90 : a.tmps.getD 90 undef = undef := hd 24 (by decide) _ rfl
      rw [if_neg (by rw [wanted_undef (j := 24) (t := 90) rfl rfl rfl g90]; decide)]
      exact rfl
    · intro a w' hG hd hk
      have g90 : a.tmps.getD 90 undef = undef := hd 24 (by decide) _ rfl
      rw [if_neg (by rw [wanted_undef (j := 24) (t := 90) rfl rfl rfl g90]; decide)]
      exact rfl
    · intro a w' hG hd hk
      have g90 : a.tmps.getD 90 undef = undef := hd 24 (by decide) _ rfl
      rw [if_neg (by rw [wanted_undef (j := 24) (t := 90) rfl rfl rfl g90]; decide)]
      exact rfl
    · intro a w' hG hd hk
      have g90 : a.tmps.getD 90 undef = undef := hd 24 (by decide) _ rfl
      rw [if_neg (by rw [wanted_undef (j := 24) (t := 90) rfl rfl rfl g90]; decide)]
      exact rfl
    · intro a w' hG hd hk
      have g90 : a.tmps.getD 90 undef = undef := hd 24 (by decide) _ rfl
      rw [if_neg (by rw [wanted_undef (j := 24) (t := 90) rfl rfl rfl g90]; decide)]
      exact rfl
    · intro a w' hG hd hk
      have g90 : a.tmps.getD 90 undef = undef := hd 24 (by decide) _ rfl
      rw [if_neg (by rw [wanted_undef (j := 24) (t := 90) rfl rfl rfl g90]; decide)]
      exact rfl
    · intro a w' hG hd hk
      have g86 : a.tmps.getD 86 undef = .bool false := hd 20 (by decide) _ rfl
      rw [if_neg (by rw [wanted_some (j := 20) (t := 86) rfl rfl rfl g86]; decide)]
      exact rfl
    · intro a w' hG hd hk
      have g83 : a.tmps.getD 83 undef = .bool false := hd 17 (by decide) _ rfl
      rw [if_pos (by rw [wanted_some (j := 17) (t := 83) rfl rfl rfl g83]; decide)]
      have e86 : a.tmps.getD 86 undef = .bool false := hd 20 (by decide) _ rfl
      exact Does.val (v := .bool false) (w' := w') (by simp [execOp, Act.eval, go_sem, e86]) ⟨Grows.refl _, rfl⟩
    · intro a w' hG hd hk
      rw [if_pos (wanted_none rfl)]
      have e83 : a.tmps.getD 83 undef = .bool false := hd 17 (by decide) _ rfl
      have e100 : a.tmps.getD 100 undef = .bool false := hd 34 (by decide) _ rfl
      exact Does.val (v := .bool false) (w' := w') (by simp [execOp, Act.eval, go_sem, e83, e100]) ⟨Grows.refl _, rfl⟩
  intro vs0 w5 B5_ hV0
  have B5 := Aside0.mk B5_; clear B5_
  obtain ⟨_, vs1, rfl, rfl, hV1⟩ := Vals.out hV0; clear hV0
  obtain ⟨_, vs2, rfl, rfl, hV2⟩ := Vals.out hV1; clear hV1
  obtain ⟨_, vs3, rfl, rfl, hV3⟩ := Vals.out hV2; clear hV2
  obtain ⟨_, vs4, rfl, rfl, hV4⟩ := Vals.out hV3; clear hV3
  obtain ⟨_, vs5, rfl, rfl, hV5⟩ := Vals.out hV4; clear hV4
  obtain ⟨_, vs6, rfl, rfl, hV6⟩ := Vals.out hV5; clear hV5
  obtain ⟨_, vs7, rfl, rfl, hV7⟩ := Vals.out hV6; clear hV6
  obtain ⟨_, vs8, rfl, rfl, hV8⟩ := Vals.out hV7; clear hV7
  obtain ⟨_, vs9, rfl, ⟨A74, c74, rfl, hc74, hC74⟩, hV9⟩ := Vals.out hV8; clear hV8
  obtain ⟨_, vs10, rfl, rfl, hV10⟩ := Vals.out hV9; clear hV9
  obtain ⟨_, vs11, rfl, rfl, hV11⟩ := Vals.out hV10; clear hV10
  obtain ⟨_, vs12, rfl, rfl, hV12⟩ := Vals.out hV11; clear hV11
  obtain ⟨_, vs13, rfl, ⟨A78, c78, rfl, hc78, hC78⟩, hV13⟩ := Vals.out hV12; clear hV12
  obtain ⟨_, vs14, rfl, rfl, hV14⟩ := Vals.out hV13; clear hV13
  obtain ⟨_, vs15, rfl, rfl, hV15⟩ := Vals.out hV14; clear hV14
  obtain ⟨_, vs16, rfl, rfl, hV16⟩ := Vals.out hV15; clear hV15
  obtain ⟨_, vs17, rfl, rfl, hV17⟩ := Vals.out hV16; clear hV16
  obtain ⟨_, vs18, rfl, rfl, hV18⟩ := Vals.out hV17; clear hV17
  obtain ⟨_, vs19, rfl, rfl, hV19⟩ := Vals.out hV18; clear hV18
  obtain ⟨_, vs20, rfl, rfl, hV20⟩ := Vals.out hV19; clear hV19
  obtain ⟨_, vs21, rfl, rfl, hV21⟩ := Vals.out hV20; clear hV20
  obtain ⟨_, vs22, rfl, rfl, hV22⟩ := Vals.out hV21; clear hV21
  obtain ⟨_, vs23, rfl, rfl, hV23⟩ := Vals.out hV22; clear hV22
  obtain ⟨_, vs24, rfl, rfl, hV24⟩ := Vals.out hV23; clear hV23
  obtain ⟨_, vs25, rfl, rfl, hV25⟩ := Vals.out hV24; clear hV24
  obtain ⟨_, vs26, rfl, rfl, hV26⟩ := Vals.out hV25; clear hV25
  obtain ⟨_, vs27, rfl, rfl, hV27⟩ := Vals.out hV26; clear hV26
  obtain ⟨_, vs28, rfl, rfl, hV28⟩ := Vals.out hV27; clear hV27
  obtain ⟨_, vs29, rfl, rfl, hV29⟩ := Vals.out hV28; clear hV28
  obtain ⟨_, vs30, rfl, rfl, hV30⟩ := Vals.out hV29; clear hV29
  obtain ⟨_, vs31, rfl, rfl, hV31⟩ := Vals.out hV30; clear hV30
  obtain ⟨_, vs32, rfl, rfl, hV32⟩ := Vals.out hV31; clear hV31
  obtain ⟨_, vs33, rfl, rfl, hV33⟩ := Vals.out hV32; clear hV32
  obtain ⟨_, vs34, rfl, rfl, hV34⟩ := Vals.out hV33; clear hV33
  obtain ⟨_, vs35, rfl, rfl, hV35⟩ := Vals.out hV34; clear hV34
  obtain ⟨_, vs36, rfl, rfl, hV36⟩ := Vals.out hV35; clear hV35
  obtain rfl := Vals.nil hV36; clear hV36
  simp only [puts, List.map_cons, List.map_nil, Act.put, List.setIfInBounds_toArray, List.set_cons_zero, List.set_cons_succ]
  have HD := Aside0.mk (Kd.C_below HC.out B5.out)
  obtain ⟨j, hj⟩ : ∃ j, t.length = j + 1 := ⟨t.length - 1, by omega⟩
  have hle := HLe.out
  have hl10 := HL.out
  obtain ⟨ad, rfl, hcell⟩ := Kd.at_int HD.out (j : Int) (by omega) (by omega)
  have hlast : rd l (j : Int) = lastB t := by
    rw [HE.out, rd_front (by omega)]
    unfold lastB
    rw [show ((t.length : Int) - 1) = (j : Int) by omega, rd_nat _ _ (by omega)]
  rw [hlast, Int.toNat_natCast] at hcell
  have hw0 : wrap64 ((t.length : Int) - 1) = (j : Int) := by rw [w64 (by omega) (by omega)]; omega
  have hjl : (j : Int) < (l.length : Int) := by omega
  have hLB := HW.out.last
  have hye : 1 < t.length → 0 ≤ rd t ((t.length - 2 : Nat) : Int) ∧ rd t ((t.length - 2 : Nat) : Int) < 256 := fun h => by
    rw [rd_nat _ _ (by omega)]; exact HW.out.bytes _ (List.getElem_mem _)
  have hcl := HCL.out
  have hcell2 : 1 < t.length → ∃ j2 : Nat, wrap64 ((t.length : Int) - 2) = (j2 : Int) ∧ (j2 : Int) < (l.length : Int) ∧ w5.cell? (ad.add j2) = some (.int .u8 (rd t ((t.length - 2 : Nat) : Int))) := by
    intro h1
    obtain ⟨ad2, e2, hc2⟩ := Kd.at_int HD.out ((t.length - 2 : Nat) : Int) (by omega) (by omega)
    injection e2 with e2
    subst e2
    refine ⟨t.length - 2, by rw [w64 (by omega) (by omega)]; omega, by omega, ?_⟩
    rw [Int.toNat_natCast] at hc2
    rw [hc2, HE.out, rd_front (by omega), rd_nat _ _ (by omega)]
  clear hle hl10 hlast HE HW HD HC HCL HU HS HSP HLe
  generalize hlx : lastB t = x at *
  generalize hry : rd t ((t.length - 2 : Nat) : Int) = y at *
  clear hlx hry
  rcases hcl with ⟨hcw, hcx, hcy⟩ | ⟨hcw, hcx, hcy⟩
  · have c1 : ((t.length : Int) == 1) = false := beq_eq_false_iff_ne.2 (by omega)
    have c1' : decide (1 < (t.length : Int)) = true := decide_eq_true (by omega)
    have c10 : decide ((t.length : Int) < 10) = true := decide_eq_true (by omega)
    obtain ⟨j2, hw2, hj2, hcl2⟩ := hcell2 (by omega)
    have hy := hye (by omega)
    have h64 := and64b hy
    rw [if_pos (by omega)] at h64
    clear hye hcell2
    clear hcw hcy hpos hj
    subst hcx
    go_wp2_with (fail)
    go_ret
    exact ⟨rfl, B5.out⟩
  · have c1 : ((t.length : Int) == 1) = false := beq_eq_false_iff_ne.2 (by omega)
    have c1' : decide (1 < (t.length : Int)) = true := decide_eq_true (by omega)
    have c10 : decide ((t.length : Int) < 10) = false := decide_eq_false (by omega)
    obtain ⟨j2, hw2, hj2, hcl2⟩ := hcell2 (by omega)
    have hy := hye (by omega)
    have h64 := and64b hy
    clear h64
    clear hye hcell2
    clear hcw hcy hpos hj
    subst hcx
    go_wp2_with (fail)
    go_ret
    exact ⟨rfl, B5.out⟩
set_option maxHeartbeats 8000000 in
set_option maxRecDepth 100000 in
theorem gets_none (A : Option Addr) (c : Nat) (l : List Int) (w : World) (hC : Kd.C (Kd.int .u8) w A l.length l) (hc : l.length ≤ c) (hm : l.length ≤ 140737488351232) (hb : Bs l) (h5 : l.length ≤ 500) (h1 : (spn l 0).1 = 0) (h2 : (spn l 0).2 = 2 ∨ (spn l 0).2 = 3) :
    Calls Try.prog 11 #[.slice A l.length c] w fun e w' => e = .returned (.bool true) ∧ Below w.heap.size w w' := by
  have HC := Aside0.mk hC
  have HB := Aside0.mk hb
  obtain ⟨e2, he2⟩ : ∃ e, (spn l 0).2 = e := ⟨_, rfl⟩
  rw [he2] at h2
  have h23 : ¬ e2 = 0 := by omega
  have h24 : (e2 == 0) = false := beq_eq_false_iff_ne.2 h23
  have h24n : (e2 != 0) = true := bne_iff_ne.2 h23
  have HU := Aside0.mk (getU_bad he2 h23)
  have HS := Aside0.mk (getS_bad he2 h23)
  have HSP := Aside0.mk (show spn l 0 = (0, e2) from Prod.ext h1 he2)
  have h5' : decide (500 < (l.length : Int)) = false := decide_eq_false (by omega)
  clear hC hb h1 h2 he2 h5
  go_enter Try.func11, Try.ntmps11
  go_wp2_with (fail)
  go_at_call 13; refine (awake_any _).mono ?_; rintro e w1 ⟨v, rfl, rfl, hb1⟩
  have B1 := Aside0.mk hb1; clear hb1
  go_wp2_with (fail)
  go_at_call 39; refine (GetU_any leb_U_any A c l _ (Kd.C_below HC.out B1.out) hc HB.out (by omega)).mono ?_; rintro e w2 ⟨rfl, hb2⟩
  rw [HU.out]
  have B2 := Aside0.mk (below_step B1.out hb2); clear hb2
  go_wp2_with (fail)
  go_at_call 40; refine (GetS_any leb_S_any A c l _ (Kd.C_below HC.out B2.out) hc HB.out (by omega)).mono ?_; rintro e w3 ⟨rfl, hb3⟩
  rw [HS.out]
  have B3 := Aside0.mk (below_step B2.out hb3); clear hb3
  go_wp2_with (fail)
  go_at_call 41; refine (refSpan_any A c l _ (Kd.C_below HC.out B3.out) hc HB.out (by omega)).mono ?_; rintro e w4 ⟨rfl, hb4⟩
  rw [HSP.out]
  have B4 := Aside0.mk (below_step B3.out hb4); clear hb4
  clear B1 B2 B3
  go_wp2_with (fail)
  go_ret
  exact ⟨by simp, B4.out⟩
set_option maxHeartbeats 8000000 in
set_option maxRecDepth 100000 in
theorem gets_long (A : Option Addr) (c : Nat) (l : List Int) (w : World) (hc : l.length ≤ c) (hm : l.length ≤ 140737488351232) (h5 : 500 < l.length) :
    Calls Try.prog 11 #[.slice A l.length c] w fun e w' => e = .returned (.bool true) ∧ Below w.heap.size w w' := by
  go_enter Try.func11, Try.ntmps11
  go_wp2_with (fail)
  go_at_call 13; refine (awake_any _).mono ?_; rintro e w1 ⟨v, rfl, rfl, hb1⟩
  have B1 := Aside0.mk hb1; clear hb1
  go_wp2_with (fail)
  go_at_call 13; refine (awake_any _).mono ?_; rintro e w2 ⟨v, rfl, rfl, hb2⟩
  have B2 := Aside0.mk (below_step B1.out hb2); clear hb2
  go_wp2_with (fail)
  go_ret
  exact ⟨rfl, B2.out⟩
theorem LebGets_walk (A : Option Addr) (c : Nat) (l : List Int) (w : World) (hC : Kd.C (Kd.int .u8) w A l.length l) (hc : l.length ≤ c) (hm : l.length ≤ 140737488351232) (hb : Bs l) :
    Calls Try.prog 11 #[.slice A l.length c] w fun e w' => e = .returned (.bool true) ∧ Below w.heap.size w w' := by
  by_cases h5 : 500 < l.length
  · exact gets_long A c l w hc hm h5
  · rcases spn_inv l 0 hb (by omega) with ⟨t, rest, he, hw, hl⟩ | ⟨h1, h2⟩
    · have hl10 : t.length ≤ 10 := by omega
      have hpos := hw.pos
      have hL := hw.last
      by_cases hu : (t.length = 1 ∨ lastB t ≠ 0) ∧ ¬ (t.length = 10 ∧ 1 < lastB t)
      · obtain ⟨u1, u2, u3⟩ := gU_ok rest hw hl10 hu.1 hu.2
        rw [← he] at u1
        by_cases hs : ¬ Red t ∧ ¬ (t.length = 10 ∧ lastB t ≠ 0 ∧ lastB t ≠ 127)
        · obtain ⟨s1, s2, s3⟩ := gS_ok rest hw hl10 hs.1 hs.2
          rw [← he] at s1
          refine gets_us A c l w hC hc hm hb (by omega) t rest he hw hl10 u1 s1 u2 u3 s2 s3 ?_
          rcases wf_ends hw with ⟨a1, a2⟩ | ⟨a1, y, y0, y1, ry, rd_⟩
          · exact .inl ⟨a1, trivial, trivial⟩
          · rw [ry]
            rw [rd_] at hs
            simp only [and_true]
            omega
        · have s1 := gS_no rest hw hl10 (by
            by_cases hr : Red t
            · exact .inl hr
            · right; exact Classical.not_not.1 fun h => hs ⟨hr, h⟩)
          rw [← he] at s1
          refine gets_un A c l w hC hc hm hb (by omega) t rest he hw hl10 u1 s1 u2 u3 ?_
          rcases wf_ends hw with ⟨a1, a2⟩ | ⟨a1, y, y0, y1, ry, rd_⟩
          · exact absurd ⟨a2, fun h => by omega⟩ hs
          · rw [ry]
            rw [rd_] at hs
            simp only [and_true]
            omega
      · have u1 := gU_no rest hw hl10 (by
          by_cases hr : t.length = 10 ∧ 1 < lastB t
          · exact .inr hr
          · exact .inl fun h => hu ⟨h, hr⟩)
        rw [← he] at u1
        by_cases hs : ¬ Red t ∧ ¬ (t.length = 10 ∧ lastB t ≠ 0 ∧ lastB t ≠ 127)
        · obtain ⟨s1, s2, s3⟩ := gS_ok rest hw hl10 hs.1 hs.2
          rw [← he] at s1
          refine gets_ns A c l w hC hc hm hb (by omega) t rest he hw hl10 u1 s1 s2 s3 ?_
          rcases wf_ends hw with ⟨a1, a2⟩ | ⟨a1, y, y0, y1, ry, rd_⟩
          · omega
          · rw [ry]
            rw [rd_] at hs
            omega
        · have s1 := gS_no rest hw hl10 (by
            by_cases hr : Red t
            · exact .inl hr
            · right; exact Classical.not_not.1 fun h => hs ⟨hr, h⟩)
          rw [← he] at s1
          refine gets_nn A c l w hC hc hm hb (by omega) t rest he hw hl10 u1 s1 ?_
          rcases wf_ends hw with ⟨a1, a2⟩ | ⟨a1, y, y0, y1, ry, rd_⟩
          · omega
          · rw [ry]
            rw [rd_] at hs
            simp only [and_true]
            omega
    · exact gets_none A c l w hC hc hm hb (by omega) h1 h2
theorem LebGets_any (a0 : Option Addr) (len0 cap0 : Nat) (z0 : List Int) (w : World) (w0 : (a0 = none ∧ len0 = 0 ∧ cap0 = 0 ∧ z0 = []) ∨ ∃ x, a0 = some x ∧ len0 ≤ cap0 ∧ cap0 ≤ maxLen ∧ z0.length = cap0 ∧ (∀ i, i < z0.length → w.cell? (x.add i) = some (.int .u8 (z0.getD i 0))) ∧ ∀ n ∈ z0, (Lit.int .u8 n).wf = true) (y0 : len0 * 1 ≤ 140737488351232) :
    Calls Try.prog 11 #[.slice a0 len0 cap0] w fun e w' => e = .returned (.bool true) ∧ Below w.heap.size w w' := by
  obtain ⟨l1, rfl, hr1, hm1, hw1, hc1⟩ := ReadsInt.ofRowC w0
  simp only [wf_u8] at hw1
  exact LebGets_walk a0 _ l1 w (Kd.C_of_reads (d := (0 : Int)) (h1 := fun _ => rfl) hr1) hc1 (by omega) hw1
end Go.Proofs.Ytphaccaanjmchaa.Own
