/- 'LebBack': the walk of the statement's own function, along the way on which it answers true. -/
import Derived.Test.YtphaccaanjmchaalebK
import Derived.Test.YtphaccaanjmchaalebW
namespace Go.Proofs.Ytphaccaanjmchaa.Own
open Go.RowKit Go.Proofs.Ytphaccaanjmchaa.PLebPuts Go.Proofs.YtphaccaanjmchaaW.PrintWords Go.Proofs.YtphaccaanjmchaaW.PrintLast Go.Proofs.YtphaccaanjmchaaW.PrintMore Go.Proofs.Ytphaccaanjmchaa.U Go.Proofs.Ytphaccaanjmchaa.Reg
set_option linter.unusedVariables false
set_option linter.unusedSimpArgs false
/-- Each front of a number's bytes is too short. -/
theorem spn_front : ∀ (t : List Int) (j i : Nat), Wf t → j < t.length → i + j ≤ 9 → spn (t.take j) i = (0, 2)
  | [], _, _, h, _, _ => h.elim
  | _ :: _, 0, _, _, _, _ => rfl
  | [x], j + 1, _, _, hj, _ => by simp at hj
  | x :: y :: r, j + 1, i, h, hj, hi => by
    rw [List.take_succ_cons, spn, if_neg (by have := h.1; omega), if_neg (by omega)]
    exact spn_front (y :: r) j (i + 1) h.2.2 (by simpa using hj) (by omega)
theorem take_len {t : List Int} {j : Nat} (h : j < t.length) : (t.take j).length = j := by rw [List.length_take]; omega
theorem cast_calls {P : Program} {f : FuncId} {A : Option Addr} {n m c : Nat} {w : World} {Q : Ending → World → Prop} (h : n = m) (hc : Calls P f #[.slice A n c] w Q) : Calls P f #[.slice A m c] w Q := h ▸ hc
theorem getU_front {t : List Int} {j : Nat} (h : Wf t) (hj : j < t.length) (hl : t.length ≤ 10) : getU (t.take j) = (0, 0, 2) := getU_bad (by rw [spn_front t j 0 h hj (by omega)]) (by decide)
theorem getS_front {t : List Int} {j : Nat} (h : Wf t) (hj : j < t.length) (hl : t.length ≤ 10) : getS (t.take j) = (0, 0, 2) := getS_bad (by rw [spn_front t j 0 h hj (by omega)]) (by decide)
set_option maxHeartbeats 8000000 in
set_option maxRecDepth 100000 in
theorem LebBack_walk (n : Nat) (hn : n < 18446744073709551616) (A1 : Option Addr) (c1 : Nat) (l : List Int) (w : World) (hC : Kd.C (Kd.int .u8) w A1 l.length l) (hc : l.length ≤ c1) (hm : l.length ≤ 140737488351232) (hb : Bs l) (k : Nat) (hk : k < 256) :
    Calls Try.prog 12 #[.int .u64 n, .slice A1 l.length c1, .int .u8 k] w fun e w' => e = .returned (.bool true) ∧ Below w.heap.size w w' := by
  have HN := Aside0.mk hn
  have HC := Aside0.mk hC
  have HB := Aside0.mk hb
  have WN := Aside0.mk (show -9223372036854775808 ≤ wrap64 (n : Int) ∧ wrap64 (n : Int) < 9223372036854775808 by unfold wrap64; omega)
  clear hn hC hb
  by_cases h5 : 500 < l.length
  · go_enter Try.func12, Try.ntmps12
    go_wp2_with (fail)
    go_at_call 13; refine (awake_any _).mono ?_; rintro e w1 ⟨v, rfl, rfl, hb1⟩
    have B1 := Aside0.mk hb1; clear hb1
    go_wp2_with (fail)
    go_at_call 13; refine (awake_any _).mono ?_; rintro e w2 ⟨v, rfl, rfl, hb2⟩
    have B2 := Aside0.mk (below_step B1.out hb2); clear hb2
    go_wp2_with (fail)
    go_ret
    exact ⟨rfl, B2.out⟩
  · have H5 := Aside0.mk h5
    have h5' : decide (500 < (l.length : Int)) = false := decide_eq_false (by omega)
    clear h5
    have hpU := uB_pos n
    have hpS := sB_pos (wrap64 n)
    have hlU := uB_len10 HN.out
    have hlS := sB_len10 WN.out.1 WN.out.2
    obtain ⟨ju, hju⟩ : ∃ j : Nat, k % (uB n).length = j := ⟨_, rfl⟩
    obtain ⟨js, hjs⟩ : ∃ j : Nat, k % (sB (wrap64 n)).length = j := ⟨_, rfl⟩
    have hju2 : ju < (uB n).length := by rw [← hju]; exact Nat.mod_lt _ hpU
    have hjs2 : js < (sB (wrap64 n)).length := by rw [← hjs]; exact Nat.mod_lt _ hpS
    have hju3 : (k : Int) % ((uB n).length : Int) = (ju : Int) := emod_cast hju
    have hjs3 : (k : Int) % ((sB (wrap64 n)).length : Int) = (js : Int) := emod_cast hjs
    have GU := Aside0.mk (getU_uB HN.out l)
    have GS := Aside0.mk (getS_sB WN.out.1 WN.out.2 l)
    have FU := Aside0.mk (getU_front (uB_wf n) hju2 hlU)
    have FS := Aside0.mk (getS_front (sB_wf (wrap64 n)) hjs2 hlS)
    have JU := Aside0.mk hju2
    have JS := Aside0.mk hjs2
    have LU := Aside0.mk hlU
    have LS := Aside0.mk hlS
    clear hju hjs
    generalize huB : uB n = u at *
    generalize hsB : sB (wrap64 n) = s at *
    have HU := Aside0.mk huB
    have HS := Aside0.mk hsB
    have BU := Aside0.mk (show Bs u by rw [← huB]; exact uB_bytes n)
    have BS := Aside0.mk (show Bs s by rw [← hsB]; exact sB_bytes _)
    clear huB hsB
    go_enter Try.func12, Try.ntmps12
    go_wp2_with (fail)
    go_at_call 13; refine (awake_any _).mono ?_; rintro e w1 ⟨v, rfl, rfl, hb1⟩
    have B1 := Aside0.mk hb1; clear hb1
    go_wp2_with (fail)
    go_at_call 14; refine (leb_U_any n HN.out _).mono ?_; rw [HU.out]; rintro e w2 ⟨v, rfl, ⟨A2, c2, rfl, hc2, hC2⟩, hb2⟩
    have B2 := Aside0.mk (below_step B1.out hb2); clear hb2
    go_wp2_with (fail)
    go_at_call 15; refine (leb_S_any _ WN.out _).mono ?_; rw [HS.out]; rintro e w3 ⟨v, rfl, ⟨A3, c3, rfl, hc3, hC3⟩, hb3⟩
    have B3 := Aside0.mk (below_step B2.out hb3)
    have C2 := Aside0.mk (Kd.C_below hC2 hb3)
    have C3 := Aside0.mk hC3
    clear hb3 hC2 hC3 B1 B2
    have E3 := Aside0.mk (OwnB.empty (e := 5) (Below.refl w3.heap.size w3))
    obtain ⟨ul, hul⟩ : ∃ x, x = u ++ l := ⟨_, rfl⟩
    obtain ⟨sl, hsl⟩ : ∃ x, x = s ++ l := ⟨_, rfl⟩
    have UL := Aside0.mk hul
    have SL := Aside0.mk hsl
    have LL := Aside0.mk (show ul.length ≤ 140737488355328 ∧ sl.length ≤ 140737488355328 by have := LU.out; have := LS.out; have := H5.out; rw [hul, hsl]; simp only [List.length_append]; omega)
    clear hul hsl
    go_wp2_with (first
      | ((with_reducible refine gate_builtin (b := .append) (xs := #[.tmp 35, .tmp 36]) rfl ?_); at_builtin; refine app_bytes (w0 := w3) rfl (.tmp 35) (.tmp 36) 24 5 rfl Try.underlying24 info_u8 _ [] u A2 _ c2 rfl rfl E3.out (Kd.C_below C2.out (below_alloc (Below.refl _ _) _)) (by have := LU.out; simp only [List.length_nil]; omega) ?_; intro v4 w4 ho; rw [List.nil_append] at ho; have O4 := Aside0.mk ho; clear ho)
      | ((with_reducible refine gate_builtin (b := .append) (xs := #[.tmp 37, .tmp 38]) rfl ?_); at_builtin; refine app_bytes (w0 := w3) rfl (.tmp 37) (.tmp 38) 24 5 rfl Try.underlying24 info_u8 _ u l A1 _ c1 rfl rfl O4.out (Kd.C_below HC.out (below_step B3.out O4.out.2)) (by have := LU.out; have := H5.out; omega) ?_; intro v5 w5 ho; rw [← UL.out] at ho; have O5 := Aside0.mk ho; clear ho; obtain ⟨A5, c5, rfl, hc5, hC5⟩ := O5.out.reads))
    go_at_call 39; refine (GetU_any leb_U_any A5 c5 ul _ hC5 hc5 (by rw [UL.out]; exact BU.out.append HB.out) LL.out.1).mono ?_
    rintro e w6 ⟨rfl, hb6⟩
    rw [show getU ul = ((n : Int), (u.length : Int), 0) from UL.out ▸ GU.out]
    have W6 := Aside0.mk (below_step O5.out.2 hb6)
    have B6 := Aside0.mk (below_step B3.out W6.out)
    clear hC5 hc5 hb6 O4 O5 E3
    have E6 := Aside0.mk (OwnB.empty (e := 5) (Below.refl w6.heap.size w6))
    go_wp2_with (first
      | ((with_reducible refine gate_builtin (b := .append) (xs := #[.tmp 45, .tmp 46]) rfl ?_); at_builtin; refine app_bytes (w0 := w6) rfl (.tmp 45) (.tmp 46) 24 5 rfl Try.underlying24 info_u8 _ [] s A3 _ c3 rfl rfl E6.out (Kd.C_below (Kd.C_below C3.out W6.out) (below_alloc (Below.refl _ _) _)) (by have := LS.out; simp only [List.length_nil]; omega) ?_; intro v7 w7 ho; rw [List.nil_append] at ho; have O7 := Aside0.mk ho; clear ho)
      | ((with_reducible refine gate_builtin (b := .append) (xs := #[.tmp 47, .tmp 48]) rfl ?_); at_builtin; refine app_bytes (w0 := w6) rfl (.tmp 47) (.tmp 48) 24 5 rfl Try.underlying24 info_u8 _ s l A1 _ c1 rfl rfl O7.out (Kd.C_below HC.out (below_step B6.out O7.out.2)) (by have := LS.out; have := H5.out; omega) ?_; intro v8 w8 ho; rw [← SL.out] at ho; have O8 := Aside0.mk ho; clear ho; obtain ⟨A8, c8, rfl, hc8, hC8⟩ := O8.out.reads))
    go_at_call 40; refine (GetS_any leb_S_any A8 c8 sl _ hC8 hc8 (by rw [SL.out]; exact BS.out.append HB.out) LL.out.2).mono ?_
    rintro e w9 ⟨rfl, hb9⟩
    rw [show getS sl = (wrap64 n, (s.length : Int), 0) from SL.out ▸ GS.out]
    have W9 := Aside0.mk (below_step O8.out.2 hb9)
    have B9 := Aside0.mk (below_step B6.out W9.out)
    have D2 := Aside0.mk (Kd.C_below C2.out (below_step W6.out W9.out))
    have D3 := Aside0.mk (Kd.C_below C3.out (below_step W6.out W9.out))
    clear hC8 hc8 hb9 O7 O8 E6
    obtain ⟨i0, hi0, _, _, _⟩ := info_parts info_u8
    have hcu := cut_to (P := Try.prog) 24 5 .i64 Try.underlying24 hi0 A2 u.length c2 (ju : Int) (Int.natCast_nonneg _) (Int.ofNat_le.2 (Nat.le_of_lt JU.out)) hc2
    have hcs := cut_to (P := Try.prog) 24 5 .i64 Try.underlying24 hi0 A3 s.length c3 (js : Int) (Int.natCast_nonneg _) (Int.ofNat_le.2 (Nat.le_of_lt JS.out)) hc3
    rw [Int.toNat_natCast] at hcu hcs
    clear hi0
    go_wp2_with (fail)
    go_at_call 39; refine (cast_calls (take_len JU.out) (GetU_any leb_U_any A2 c2 (u.take ju) _ (Kd.C_take D2.out (Nat.le_of_lt JU.out)) (by rw [List.length_take]; have := JU.out; omega) (BU.out.take _) (by rw [List.length_take]; have := JU.out; have := LU.out; omega))).mono ?_
    rintro e w10 ⟨rfl, hb10⟩
    rw [FU.out]
    have B10 := Aside0.mk (below_step B9.out hb10)
    have D3' := Aside0.mk (Kd.C_below D3.out hb10)
    clear hb10
    go_wp2_with (fail)
    go_at_call 40; refine (cast_calls (take_len JS.out) (GetS_any leb_S_any A3 c3 (s.take js) _ (Kd.C_take D3'.out (Nat.le_of_lt JS.out)) (by rw [List.length_take]; have := JS.out; omega) (BS.out.take _) (by rw [List.length_take]; have := JS.out; have := LS.out; omega))).mono ?_
    rintro e w11 ⟨rfl, hb11⟩
    rw [FS.out]
    have B11 := Aside0.mk (below_step B10.out hb11)
    clear hb11
    have lu := LU.out
    have ls := LS.out
    go_wp2_with (fail)
    go_ret
    exact ⟨by simp; omega, B11.out⟩
theorem LebBack_any (a0 : Int) (a1 : Option Addr) (len1 cap1 : Nat) (z1 : List Int) (a2 : Int) (w : World) (w0 : (Lit.int .u64 a0).wf = true) (w1 : (a1 = none ∧ len1 = 0 ∧ cap1 = 0 ∧ z1 = []) ∨ ∃ x, a1 = some x ∧ len1 ≤ cap1 ∧ cap1 ≤ maxLen ∧ z1.length = cap1 ∧ (∀ i, i < z1.length → w.cell? (x.add i) = some (.int .u8 (z1.getD i 0))) ∧ ∀ n ∈ z1, (Lit.int .u8 n).wf = true) (y1 : len1 * 1 ≤ 140737488351232) (w2 : (Lit.int .u8 a2).wf = true) :
    Calls Try.prog 12 #[.int .u64 a0, .slice a1 len1 cap1, .int .u8 a2] w fun e w' => e = .returned (.bool true) ∧ Below w.heap.size w w' := by
  obtain ⟨l1, rfl, hr1, hm1, hw1, hc1⟩ := ReadsInt.ofRowC w1
  rw [wf_u64] at w0
  rw [wf_u8] at w2
  simp only [wf_u8] at hw1
  obtain ⟨n, rfl⟩ := Int.eq_ofNat_of_zero_le w0.1
  obtain ⟨k, rfl⟩ := Int.eq_ofNat_of_zero_le w2.1
  exact LebBack_walk n (by omega) a1 _ l1 w (Kd.C_of_reads (d := (0 : Int)) (h1 := fun _ => rfl) hr1) hc1 (by omega) hw1 k (by omega)
end Go.Proofs.Ytphaccaanjmchaa.Own
