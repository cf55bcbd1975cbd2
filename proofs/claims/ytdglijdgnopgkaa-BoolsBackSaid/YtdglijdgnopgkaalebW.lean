/- The program's own number functions, walked: bytes put, and numbers read from the front of bytes. -/
import Derived.Test.YtdglijdgnopgkaaProg
import Derived.Below
import Derived.Deep.Draws
import Derived.Deep.AppendLies
import Derived.Maps.AppendAt
import Derived.OwnWalk
import Derived.Laws.BytesArg
import Derived.Laws.MakeOwn
import Derived.Laws.OwnMore
import Derived.Deep.OwnRows
import Derived.Tactics
import Derived.Lib.ConvBytes
import Derived.Laws.Slices
import Derived.WalkKit
import Derived.KernelRfl
import Derived.RowKit3
import Derived.Deep.LoopGhost
import Derived.Deep.QuietTactic
import Derived.BigQuiet
import Derived.WideLaws
import Derived.Deep.DeepCutAuto
import Derived.Deep.CutBlock
import Derived.Deep.RegionHeld3
import Derived.Laws.Rows
import Derived.Lib.AppendStr
import Derived.ArgAppend
import Derived.Laws.IdiomCopy
import Derived.OrdersHeld
import Derived.Laws.BitsLemmas
import Derived.RowKit
import Derived.Test.YtdglijdgnopgkaaWWords
import Derived.Test.YtdglijdgnopgkaaWLast
import Derived.Test.YtdglijdgnopgkaaWMore
import Derived.Test.YtdglijdgnopgkaaU
import Derived.Test.Ytdglijdgnopgkaalebget
import Derived.Test.YtdglijdgnopgkaaReg
namespace Go.Proofs.Ytdglijdgnopgkaa.Own
open Go.RowKit Go.Proofs.YtdglijdgnopgkaaW.PrintWords Go.Proofs.YtdglijdgnopgkaaW.PrintLast Go.Proofs.YtdglijdgnopgkaaW.PrintMore Go.Proofs.Ytdglijdgnopgkaa.U Go.Proofs.Ytdglijdgnopgkaa.Reg
set_option linter.unusedVariables false
set_option linter.unusedSimpArgs false
theorem info_u8 : (Try.prog.info? 5).map (fun i => (i.zero, i.size, i.bytes)) = some (some (.int .u8 0), 1, 1) := by kernel_rfl
set_option maxHeartbeats 4000000 in
set_option maxRecDepth 100000 in
/-- The front of some bytes is a number's: how many, and why not. -/
theorem span_any (A : Option Addr) (c : Nat) (l : List Int) (w : World) (hC : Kd.C (Kd.int .u8) w A l.length l) (hc : l.length ≤ c) (hb : Bs l) (hm : l.length ≤ 140737488355328) :
    Calls Try.prog 30 #[.slice A l.length c] w fun e w' => e = .returned (.tuple #[.int .i64 (spn l 0).1, .int .i64 (spn l 0).2]) ∧ Below w.heap.size w w' := by
  have HC := Aside0.mk hC
  have HB := Aside0.mk hb
  clear hC hb
  go_enter Try.func30, Try.ntmps30
  go_wp2_with (fail)
  go_loopg [8] l.length (fun kq v8 w' => ∃ i : Nat, v8 = .int .i64 i ∧ Aside0 (kq + i = l.length) ∧ Aside0 (i ≤ 9 ∨ i = l.length) ∧ Aside0 (spn (l.drop i) i = spn l 0) ∧ Aside0 (Below w.heap.size w w'))
  case atStart => exact ⟨0, rfl, ⟨rfl⟩, ⟨.inl (by omega)⟩, ⟨rfl⟩, ⟨Below.refl _ _⟩⟩
  case round =>
    obtain ⟨i, rfl, hki, hi9, hsp, B1⟩ := hrel
    by_cases hlt : i < l.length
    · obtain ⟨ad, rfl, hcell⟩ := Kd.at_int (Kd.C_below HC.out B1.out) (i : Int) (by omega) (by omega)
      have hx := HB.out l[i] (List.getElem_mem hlt)
      rw [Int.toNat_natCast, rd_nat l i hlt] at hcell
      have HS := hsp
      clear hsp
      have hdr : l.drop i = l[i] :: l.drop (i + 1) := List.drop_eq_getElem_cons hlt
      generalize hxi : l[i] = x at *
      have HD := Aside0.mk hdr
      clear hdr hxi
      by_cases h128 : x < 128
      · go_wp2_with (fail)
        have e : spn l 0 = ((i : Int) + 1, 0) := by rw [← HS.out, HD.out, spn, if_pos h128]
        rw [e]
        go_ret2
        exact ⟨rfl, B1.out⟩
      · by_cases h9 : i = 9
        · have h9' : ((i : Int) == 9) = true := by rw [h9]; rfl
          have H9 := Aside0.mk h9
          clear h9
          go_wp2_with (fail)
          have e : spn l 0 = (0, 3) := by rw [← HS.out, HD.out, spn, if_neg (by omega), if_pos H9.out]
          rw [e]
          go_ret2
          exact ⟨rfl, B1.out⟩
        · have h9' : ((i : Int) == 9) = false := beq_eq_false_iff_ne.2 (by omega)
          have H9 := Aside0.mk h9
          clear h9
          go_wp2_with (fail)
          go_roundg (gk - 1)
          case measure => have := hki.out; omega
          case rel => exact ⟨i + 1, by go_num, ⟨by have := hki.out; omega⟩, ⟨by have := hi9.out; have := H9.out; omega⟩, ⟨by rw [← HS.out, HD.out, spn, if_neg (by omega), if_neg H9.out]⟩, B1⟩
    · have hi : i = l.length := by have := hki.out; omega
      subst hi
      go_wp2_with (fail)
      have e : spn l 0 = (0, 2) := by rw [← hsp.out, List.drop_length]; rfl
      rw [e]
      go_ret2
      exact ⟨rfl, B1.out⟩
/-! Digits put together -/
theorem and127_u8 {x : Int} (h : 0 ≤ x ∧ x < 256) : Go.bits .and .u8 x 127 = x % 128 := and127 x h.1 h.2
theorem wraps_u64 (n : Int) (h₀ : 0 ≤ n) (h₁ : n < 2 ^ 64) : IntKind.u64.wrap n = n := by rw [u64w]; omega
theorem pow7 (i : Nat) : (2 : Int) ^ (7 * i) = ((128 ^ i : Nat) : Int) := by
  rw [Int.pow_mul]; simp
theorem pow7n (i : Nat) : (7 * (i : Int)).toNat = 7 * i := by omega
theorem or_digit {l : List Int} {i : Nat} (hi : i < l.length) (h9 : i ≤ 9) (hx : 0 ≤ l[i] ∧ l[i] < 256) :
    Go.bits .or .u64 ((lv (l.take i) % 18446744073709551616 : Nat) : Int) (IntKind.u64.wrap (l[i] % 128 * 2 ^ (7 * i))) = ((lv (l.take (i + 1)) % 18446744073709551616 : Nat) : Int) := by
  have hlt := lv_lt (l.take i)
  rw [List.length_take, Nat.min_eq_left (by omega)] at hlt
  have h9' : (128 : Nat) ^ i ≤ 128 ^ 9 := Nat.pow_le_pow_right (by decide) h9
  have e9 : (128 : Nat) ^ 9 = 9223372036854775808 := by decide
  have hp : 0 < 128 ^ i := Nat.pow_pos (by decide)
  rw [take_snoc l i hi, lv_snoc, List.length_take, Nat.min_eq_left (by omega), pow7, u64w]
  rw [Nat.mod_eq_of_lt (by omega : lv (l.take i) < 18446744073709551616)]
  have hmul : ∃ m : Nat, (l[i] % 128 * ((128 ^ i : Nat) : Int)) % 18446744073709551616 = ((m * 128 ^ i : Nat) : Int) ∧ m * 128 ^ i < 18446744073709551616 ∧ (m * 128 ^ i) % 18446744073709551616 = ((l[i] % 128).toNat * 128 ^ i) % 18446744073709551616 ∧ lv (l.take i) + m * 128 ^ i < 18446744073709551616 := by
    obtain ⟨d, hd⟩ : ∃ d : Nat, l[i] % 128 = (d : Int) := ⟨(l[i] % 128).toNat, by omega⟩
    have hd128 : d < 128 := by omega
    rw [hd, Int.toNat_natCast]
    by_cases e : i = 9
    · subst e
      rw [e9] at *
      refine ⟨d % 2, ?_, ?_, ?_, ?_⟩ <;> omega
    · have h8 : (128 : Nat) ^ i * 128 ≤ 128 ^ 9 := by rw [← Nat.pow_succ]; exact Nat.pow_le_pow_right (by decide) (by omega)
      have hdm : d * 128 ^ i ≤ 127 * 128 ^ i := Nat.mul_le_mul_right _ (by omega)
      refine ⟨d, ?_, by omega, rfl, by omega⟩
      rw [Int.emod_eq_of_lt (by rw [← Int.natCast_mul]; omega) (by rw [← Int.natCast_mul]; omega), Int.natCast_mul]
  obtain ⟨m, hm1, hm2, hm3, hm4⟩ := hmul
  rw [hm1]
  have hor : Go.bits .or .u64 ((m * 128 ^ i : Nat) : Int) ((lv (l.take i) : Nat) : Int) = ((m * 128 ^ i : Nat) : Int) + ((lv (l.take i) : Nat) : Int) :=
    bits_join .u64 64 (by decide) wraps_u64 (7 * i) _ _ (by omega) (by rw [pow7, Int.natCast_mul, Int.mul_emod_left]) (by omega) (by omega) (by rw [pow7]; omega) (by omega)
  have hcomm : Go.bits .or .u64 ((lv (l.take i) : Nat) : Int) ((m * 128 ^ i : Nat) : Int) = Go.bits .or .u64 ((m * 128 ^ i : Nat) : Int) ((lv (l.take i) : Nat) : Int) := by
    unfold Go.bits
    simp only [BitVec.or_comm]
  rw [hcomm, hor, Nat.add_mod, ← hm3, ← Nat.add_mod, Nat.mod_eq_of_lt (by omega)]
  omega
/-- What is put together of the first i digits. -/
def accU (t : List Int) (i : Nat) : Nat := lv (t.take i) % 18446744073709551616
theorem or_acc {l : List Int} {i : Nat} (hi : i < l.length) (h9 : i ≤ 9) (hx : 0 ≤ l[i] ∧ l[i] < 256) : Go.bits .or .u64 ((accU l i : Nat) : Int) (IntKind.u64.wrap (l[i] % 128 * 2 ^ (7 * i))) = ((accU l (i + 1) : Nat) : Int) := or_digit hi h9 hx
theorem i64_seven {i : Nat} (h : i ≤ 10) : IntKind.i64.wrap (7 * (i : Int)) = 7 * (i : Int) := by rw [i64_w, w64 (by omega) (by omega)]
theorem getU_ok {t : List Int} (rest : List Int) (h : Wf t) (hl : t.length ≤ 10) (h1 : (uB (lv t % 18446744073709551616)).length = t.length) (h2 : ¬ (t.length = 10 ∧ 1 < lastB t)) : getU (t ++ rest) = (((lv t % 18446744073709551616 : Nat) : Int), (t.length : Int), 0) := by
  rw [getU_wf rest h hl, if_pos ⟨h1, h2⟩]
theorem getU_no {t : List Int} (rest : List Int) (h : Wf t) (hl : t.length ≤ 10) (h1 : (uB (lv t % 18446744073709551616)).length ≠ t.length ∨ (t.length = 10 ∧ 1 < lastB t)) : getU (t ++ rest) = (0, 0, 3) := by
  rw [getU_wf rest h hl, if_neg]
  rintro ⟨a, b⟩
  rcases h1 with h1 | h1
  · exact h1 a
  · exact b h1
theorem getU_bad {l : List Int} {e : Int} (h1 : (spn l 0).2 = e) (h : e ≠ 0) : getU l = (0, 0, e) := by
  unfold getU
  rw [if_pos (by omega), h1]
theorem rd_front {t rest : List Int} {i : Nat} (h : i < t.length) : rd (t ++ rest) (i : Int) = t[i] := by
  rw [rd_nat _ _ (by simp; omega)]
  exact List.getElem_append_left h
set_option maxHeartbeats 4000000 in
set_option maxRecDepth 100000 in
/-- The number without a sign at the front of some bytes. -/
theorem GetU_any (U_any : ∀ (n : Nat) (_ : n < 18446744073709551616) (w : World), Calls Try.prog 28 #[.int .u64 n] w (Ret (Sl (uB n)) w))
    (A : Option Addr) (c : Nat) (l : List Int) (w : World) (hC : Kd.C (Kd.int .u8) w A l.length l) (hc : l.length ≤ c) (hb : Bs l) (hm : l.length ≤ 140737488355328) :
    Calls Try.prog 27 #[.slice A l.length c] w fun e w' => e = .returned (.tuple #[.int .u64 (getU l).1, .int .i64 (getU l).2.1, .int .i64 (getU l).2.2]) ∧ Below w.heap.size w w' := by
  rcases spn_inv l 0 hb (by omega) with ⟨t, rest, hlt, hw, hl⟩ | ⟨h1, h2⟩
  · have HC := Aside0.mk hC
    have HB := Aside0.mk hb
    have HW := Aside0.mk hw
    have HM := Aside0.mk hm
    have HE := Aside0.mk hlt
    have hs := spn_of t rest 0 hw (by omega)
    rw [← hlt, Int.natCast_zero, Int.zero_add] at hs
    have HS := Aside0.mk hs
    have hl10 : t.length ≤ 10 := by omega
    have HL := Aside0.mk hl10
    have hpos := hw.pos
    have HLe := Aside0.mk (show t.length ≤ l.length by rw [hlt]; simp)
    clear hC hb hw hs hl hl10 hm hlt
    go_enter Try.func27, Try.ntmps27
    go_wp2_with (fail)
    go_at_call 30; refine (span_any A c l _ HC.out hc HB.out HM.out).mono ?_; rintro e w1 ⟨rfl, hb1⟩
    have B1 := Aside0.mk hb1; clear hb1
    rw [HS.out]
    obtain ⟨i0, hi0, _, _, _⟩ := info_parts info_u8
    have hcut := cut_to (P := Try.prog) 24 5 .i64 Try.underlying24 hi0 A l.length c (t.length : Int) (Int.natCast_nonneg _) (Int.ofNat_le.2 HLe.out) hc
    rw [Int.toNat_natCast] at hcut
    clear hi0
    go_wp2_with (fail)
    go_loopg [7, 22] t.length (fun kq v7 v22 w' => ∃ i : Nat, v22 = .int .i64 i ∧ v7 = .int .u64 ((accU t i : Nat) : Int) ∧ Aside0 (kq + i = t.length) ∧ Aside0 (Below w.heap.size w w'))
    case atStart => exact ⟨0, rfl, rfl, ⟨rfl⟩, B1⟩
    case round =>
      obtain ⟨i, rfl, rfl, hki, B2⟩ := hrel
      clear B1
      by_cases hlt : i < t.length
      · have hle := HLe.out
        obtain ⟨ad, rfl, hcell⟩ := Kd.at_int (Kd.C_below HC.out B2.out) (i : Int) (by omega) (by omega)
        clear hle
        have hx := HW.out.bytes t[i] (List.getElem_mem hlt)
        rw [Int.toNat_natCast, HE.out, rd_front hlt] at hcell
        have HD := Aside0.mk (or_acc hlt (by have := HL.out; omega) hx)
        have ha := and127_u8 hx
        have h7 := i64_seven (i := i) (by have := HL.out; omega)
        have h70 : (0 : Int) ≤ 7 * (i : Int) := by omega
        have h71 : 7 * (i : Int) ≤ 64 := by have := HL.out; omega
        generalize hxi : t[i] = x at *
        clear hxi
        go_wp2_with (fail)
        go_roundg (gk - 1)
        case measure => have := hki.out; omega
        case rel => exact ⟨i + 1, by go_num, by rw [← HD.out], ⟨by have := hki.out; omega⟩, B2⟩
      · have hi : i = t.length := by have := hki.out; omega
        subst hi
        obtain ⟨n, hn⟩ : ∃ n : Nat, accU t t.length = n := ⟨_, rfl⟩
        rw [hn]
        rw [accU, List.take_length] at hn
        have hn64 : n < 18446744073709551616 := by omega
        have HN := Aside0.mk hn
        have HN64 := Aside0.mk hn64
        clear hn hn64
        by_cases h10 : t.length = 10
        · have h10' : ((t.length : Int) == 10) = true := by rw [h10]; rfl
          have H10 := Aside0.mk h10
          have hle := HLe.out
          obtain ⟨j, hj⟩ : ∃ j, t.length = j + 1 := ⟨t.length - 1, by omega⟩
          obtain ⟨ad, rfl, hcell⟩ := Kd.at_int (Kd.C_below HC.out B2.out) (j : Int) (by omega) (by omega)
          have hlast : rd l (j : Int) = lastB t := by
            rw [HE.out, rd_front (by omega)]
            unfold lastB
            rw [show ((t.length : Int) - 1) = (j : Int) by omega, rd_nat _ _ (by omega)]
          rw [hlast, Int.toNat_natCast] at hcell
          have hw0 : wrap64 ((t.length : Int) - 1) = (j : Int) := by rw [w64 (by omega) (by omega)]; omega
          have hjl : (j : Int) < (l.length : Int) := by omega
          have hLB := HW.out.last
          generalize hlx : lastB t = x at *
          have HX := Aside0.mk hlx
          clear h10 hle hlx hlast hj
          by_cases hul : (uB n).length = t.length
          · have hu2 : ((uB n).length : Int) = (t.length : Int) := by rw [hul]
            have HU := Aside0.mk hul
            clear hul
            by_cases hx1 : x ≤ 1
            · have hd : decide (1 < x) = false := decide_eq_false (by omega)
              go_wp2_with (fail)
              go_at_call 28; refine (U_any n HN64.out _).mono ?_; rintro e w2 ⟨v, rfl, ⟨A2, c2, rfl, hc2, hC2⟩, hb2⟩
              have B3 := Aside0.mk (below_step B2.out hb2)
              have hcell2 := pw_cell_below hb2 hcell
              clear hcell hb2
              go_wp2_with (fail)
              have e : getU l = ((n : Int), (t.length : Int), 0) := by
                rw [HE.out, getU_ok rest HW.out HL.out (by rw [HN.out]; exact HU.out) (by rw [HX.out]; omega), HN.out]
              rw [e]
              go_ret3
              exact ⟨rfl, B3.out⟩
            · have hd : decide (1 < x) = true := decide_eq_true (by omega)
              go_wp2_with (fail)
              go_at_call 28; refine (U_any n HN64.out _).mono ?_; rintro e w2 ⟨v, rfl, ⟨A2, c2, rfl, hc2, hC2⟩, hb2⟩
              have B3 := Aside0.mk (below_step B2.out hb2)
              have hcell2 := pw_cell_below hb2 hcell
              clear hcell hb2
              go_wp2_with (fail)
              have e : getU l = (0, 0, 3) := by
                rw [HE.out, getU_no rest HW.out HL.out (.inr ⟨H10.out, by rw [HX.out]; omega⟩)]
              rw [e]
              go_ret3
              exact ⟨rfl, B3.out⟩
          · have hu1 : (((uB n).length : Int) == (t.length : Int)) = false := beq_eq_false_iff_ne.2 (by omega)
            have hu2 : ¬ ((uB n).length : Int) = (t.length : Int) := by omega
            have HU := Aside0.mk hul
            clear hul
            go_wp2_with (fail)
            go_at_call 28; refine (U_any n HN64.out _).mono ?_; rintro e w2 ⟨v, rfl, ⟨A2, c2, rfl, hc2, hC2⟩, hb2⟩
            have B3 := Aside0.mk (below_step B2.out hb2); clear hb2
            go_wp2_with (fail)
            have e : getU l = (0, 0, 3) := by
              rw [HE.out, getU_no rest HW.out HL.out (.inl (by rw [HN.out]; exact HU.out))]
            rw [e]
            go_ret3
            exact ⟨rfl, B3.out⟩
        · have h10' : ((t.length : Int) == 10) = false := beq_eq_false_iff_ne.2 (by omega)
          have H10 := Aside0.mk h10
          clear h10
          by_cases hul : (uB n).length = t.length
          · have hu2 : ((uB n).length : Int) = (t.length : Int) := by rw [hul]
            have HU := Aside0.mk hul
            clear hul
            go_wp2_with (fail)
            go_at_call 28; refine (U_any n HN64.out _).mono ?_; rintro e w2 ⟨v, rfl, ⟨A2, c2, rfl, hc2, hC2⟩, hb2⟩
            have B3 := Aside0.mk (below_step B2.out hb2); clear hb2
            go_wp2_with (fail)
            have e : getU l = ((n : Int), (t.length : Int), 0) := by
              rw [HE.out, getU_ok rest HW.out HL.out (by rw [HN.out]; exact HU.out) (fun h => H10.out h.1), HN.out]
            rw [e]
            go_ret3
            exact ⟨rfl, B3.out⟩
          · have hu1 : (((uB n).length : Int) == (t.length : Int)) = false := beq_eq_false_iff_ne.2 (by omega)
            have hu2 : ¬ ((uB n).length : Int) = (t.length : Int) := by omega
            have HU := Aside0.mk hul
            clear hul
            go_wp2_with (fail)
            go_at_call 28; refine (U_any n HN64.out _).mono ?_; rintro e w2 ⟨v, rfl, ⟨A2, c2, rfl, hc2, hC2⟩, hb2⟩
            have B3 := Aside0.mk (below_step B2.out hb2); clear hb2
            go_wp2_with (fail)
            have e : getU l = (0, 0, 3) := by
              rw [HE.out, getU_no rest HW.out HL.out (.inl (by rw [HN.out]; exact HU.out))]
            rw [e]
            go_ret3
            exact ⟨rfl, B3.out⟩
  · have HC := Aside0.mk hC
    have HB := Aside0.mk hb
    have HM := Aside0.mk hm
    obtain ⟨e2, he2⟩ : ∃ e, (spn l 0).2 = e := ⟨_, rfl⟩
    rw [he2] at h2
    have h23 : ¬ e2 = 0 := by omega
    have h24 : (e2 == 0) = false := beq_eq_false_iff_ne.2 h23
    have HG := Aside0.mk (getU_bad he2 h23)
    have HS := Aside0.mk (show spn l 0 = (0, e2) from Prod.ext h1 he2)
    clear hC hb h1 h2 he2 hm
    go_enter Try.func27, Try.ntmps27
    go_wp2_with (fail)
    go_at_call 30; refine (span_any A c l _ HC.out hc HB.out HM.out).mono ?_; rintro e w1 ⟨rfl, hb1⟩
    have B1 := Aside0.mk hb1; clear hb1
    rw [HS.out]
    go_wp2_with (fail)
    rw [HG.out]
    go_ret3
    exact ⟨rfl, B1.out⟩
end Go.Proofs.Ytdglijdgnopgkaa.Own
