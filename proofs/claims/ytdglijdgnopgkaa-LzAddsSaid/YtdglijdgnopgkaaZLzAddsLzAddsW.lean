/- Walks. -/
import Derived.Test.YtdglijdgnopgkaaZLzAddsLzA
import Derived.Test.YtdglijdgnopgkaaZLzAddsLzO
namespace Go.Proofs.Ytdglijdgnopgkaa.Lz
open Go.RowKit Go.Proofs.Ytdglijdgnopgkaa.Sl
set_option linter.unusedVariables false
set_option linter.unusedSimpArgs false
set_option maxRecDepth 100000 in
set_option maxHeartbeats 2000000 in
theorem LzAdds_law {w : World} {f : Fm} {lv : Value} {l : List Tok} (H0 : Holds w f []) (hl : Rd tTok f.hp lv l) :
  Calls Try.prog 9 #[lv] w (Rt fun r w' => r = .bool true ∧ Holds w' f []) := by
 have hbl := hl.max
 refine c_enter Try.func9 rfl Try.ntmps9 (show (1 : Nat) ≤ 89 by decide) fun ac0 F0 => ?_
 replace F0 := F0.re [(0, lv)] ⟨F0.get rfl, trivial⟩
 refine wp_seq ?_
 refine wp_region_lit ?_
 refine go_val (v := .bool false) F0 (wanted_none rfl) rfl (by decide) (x_assign rfl rfl) fun ac1 F1 => ?_
 clear F0
 refine wpList_nil ?_
 refine then_n ?_
 refine wp_seq ?_
 refine wp_seq ?_
 refine wp_region_lit ?_
 obtain ⟨fk1, lek1, Hck1, hok1, hbk1⟩ := Holds.split [] [] H0
 refine go_any F1 (wanted_none rfl) (fun t ht => by cases ht; decide) (d_call (args := #[]) rfl rfl (map0) Try.call14 (awake_spec Hck1 )) ?_
 rintro _ w1 ac2 ⟨rfl, H1⟩ F2
 replace H1 : Holds w1 f [] := hbk1 _ [] H1
 clear hbk1 hok1 Hck1 lek1
 clear F1 H0
 refine go_val (v := .bool false) F2 (wanted_none rfl) rfl (by decide) (x_not (b := true) rfl (F2.ev rfl)) fun ac3 F3 => ?_
 clear F2
 refine go_val (v := .bool false) F3 (wanted_none rfl) rfl (by decide) (x_move rfl (F3.ev rfl)) fun ac4 F4 => ?_
 clear F3
 refine go_val (v := lv) F4 (wanted_some (j := 2) (t := 12) (b := false) (c := false) rfl rfl rfl (F4.get rfl)) rfl (by decide) (x_move rfl (F4.ev rfl)) fun ac5 F5 => ?_
 clear F4
 refine go_val (v := .int .i64 (l.length : Int)) F5 (wanted_some (j := 2) (t := 12) (b := false) (c := false) rfl rfl rfl (F5.get rfl)) rfl (by decide) (x_len (H1.rd hl) rfl (F5.ev rfl) Try.underlying27) fun ac6 F6 => ?_
 clear F5
 refine go_val (v := .bool (decide (300 < (l.length : Int)))) F6 (wanted_some (j := 2) (t := 12) (b := false) (c := false) rfl rfl rfl (F6.get rfl)) rfl (by decide) (x_gtr rfl Try.underlying3 (F6.ev rfl) rfl) fun ac7 F7 => ?_
 clear F6
 refine go_val (v := .bool (decide (300 < (l.length : Int)))) F7 (wanted_none rfl) rfl (by decide) (x_pickF rfl (F7.ev rfl) (F7.ev rfl)) fun ac8 F8 => ?_
 clear F7
 refine wpList_nil ?_
 refine then_n ?_
 refine b_split ((decide (300 < (l.length : Int)))) (fun hb16 => ?_) (fun hb16 => ?_)
 ·
  have h16 : 300 < (l.length : Int) := of_decide_eq_true hb16
  replace F8 := F8.say 15 (.bool true) ((F8.get rfl).trans (congrArg Value.bool hb16))
  replace F8 := F8.say 16 (.bool true) ((F8.get rfl).trans (congrArg Value.bool hb16))
  refine wp_cond_true (F8.ev rfl) ?_
  refine wp_seq ?_
  refine wp_region_lit ?_
  obtain ⟨fk2, lek2, Hck2, hok2, hbk2⟩ := Holds.split [] [] H1
  refine go_any F8 (wanted_none rfl) (fun t ht => by cases ht; decide) (d_call (args := #[]) rfl rfl (map0) Try.call14 (awake_spec Hck2 )) ?_
  rintro _ w2 ac9 ⟨rfl, H2⟩ F9
  replace H2 : Holds w2 f [] := hbk2 _ [] H2
  clear hbk2 hok2 Hck2 lek2
  clear F8 H1
  refine go_val (v := .bool true) F9 (wanted_none rfl) rfl (by decide) (x_assign rfl (F9.ev rfl)) fun ac10 F10 => ?_
  clear F9
  refine wpList_nil ?_
  refine then_n ?_
  refine wp_ret ?_
  refine then_r ?_
  refine c_ret (v := .bool true) F10 (res1 Try.results9 (F10.get rfl)) ?_
  exact ⟨rfl, H2.pick [] List.nodup_nil⟩
 ·
  have h16 : ¬ (300 < (l.length : Int)) := of_decide_eq_false hb16
  replace F8 := F8.say 15 (.bool false) ((F8.get rfl).trans (congrArg Value.bool hb16))
  replace F8 := F8.say 16 (.bool false) ((F8.get rfl).trans (congrArg Value.bool hb16))
  refine wp_cond_false (F8.ev rfl) ?_
  refine wp_skip ?_
  refine then_n ?_
  refine wp_seq ?_
  refine wp_region_lit ?_
  refine go_val (v := (.slice none 0 0)) F8 (wanted_none rfl) rfl (by decide) (x_assign rfl rfl) fun ac11 F11 => ?_
  clear F8
  refine wpList_nil ?_
  refine then_n ?_
  refine wp_seq ?_
  refine wp_seq ?_
  refine wp_region_lit ?_
  refine go_val (v := .int .i64 0) F11 (wanted_none rfl) rfl (by decide) (x_assign rfl rfl) fun ac12 F12 => ?_
  clear F11
  refine wpList_nil ?_
  refine then_n ?_
  refine wp_block ?_
  have H3 := H1.nilOwn (tI .u8) 5
  have H4 := H3
  refine c_loop (fun mm ac w => ∃ i : Nat, ∃ v : Value, ∃ out : List Int, Fr ac 89 [(0, lv), (3, v), (4, .int .i64 (i : Int))] ∧ Holds w f [Own (tI .u8) 5 v out] ∧ (i ≤ l.length) ∧ (out.length ≤ 258 * i) ∧ (opn 1048576 (l.drop i) out = (opn 1048576 l [])) ∧ mm = (l.length - (i))) (l.length - (0)) ⟨0, (.slice none 0 0), ([]), F12.re _ ⟨F12.get rfl, F12.get rfl, F12.get rfl, trivial⟩, H4, by omega, by first | exact Nat.zero_le _ | omega, by first | rfl | (rw [← opn_more (by omega) hgood (by omega)]; exact hp2_0), rfl⟩ ?_
  clear F12 H3 H4
  rintro mm ac13 w5 ⟨i, v, out, F13, H5, hp0_0, hp1_0, hp2_0, rfl⟩
  refine wp_seq ?_
  refine wp_seq ?_
  refine wp_region_lit ?_
  refine go_val (v := .int .i64 (i : Int)) F13 (wanted_none rfl) rfl (by decide) (x_move rfl (F13.ev rfl)) fun ac14 F14 => ?_
  clear F13
  refine go_val (v := lv) F14 (wanted_none rfl) rfl (by decide) (x_move rfl (F14.ev rfl)) fun ac15 F15 => ?_
  clear F14
  refine go_val (v := .int .i64 (l.length : Int)) F15 (wanted_none rfl) rfl (by decide) (x_len (H5.rd hl) rfl (F15.ev rfl) Try.underlying27) fun ac16 F16 => ?_
  clear F15
  refine go_val (v := .bool (decide ((i : Int) < (l.length : Int)))) F16 (wanted_none rfl) rfl (by decide) (x_lss rfl Try.underlying3 (F16.ev rfl) (F16.ev rfl)) fun ac17 F17 => ?_
  clear F16
  refine wpList_nil ?_
  refine then_n ?_
  refine b_split ((decide ((i : Int) < (l.length : Int)))) (fun hb21 => ?_) (fun hb21 => ?_)
  ·
   have h21 : (i : Int) < (l.length : Int) := of_decide_eq_true hb21
   replace F17 := F17.say 21 (.bool true) ((F17.get rfl).trans (congrArg Value.bool hb21))
   refine wp_cond_true (F17.ev rfl) ?_
   refine wp_skip ?_
   refine then_n ?_
   refine wp_seq ?_
   refine wp_block ?_
   refine wp_seq ?_
   refine wp_seq ?_
   refine wp_region_lit ?_
   refine go_val (v := lv) F17 (wanted_none rfl) rfl (by decide) (x_move rfl (F17.ev rfl)) fun ac18 F18 => ?_
   clear F17
   refine go_val (v := .int .i64 (i : Int)) F18 (wanted_none rfl) rfl (by decide) (x_move rfl (F18.ev rfl)) fun ac19 F19 => ?_
   clear F18
   refine go_val (v := .pointer (some (elp lv (i * 3)))) F19 (wanted_none rfl) rfl (by decide) (x_ixa (i := i) (H5.rd hl) rfl Try.underlying27 Try.sizeOf30 (F19.ev rfl) (F19.ev rfl) (by omega) (by omega)) fun ac20 F20 => ?_
   clear F19
   refine go_val (v := .agg #[.int .u8 ((l.getD i Tok.z).by'), .int .i64 ((l.getD i Tok.z).len), .int .i64 ((l.getD i Tok.z).dist)]) F20 (wanted_none rfl) rfl (by decide) (x_ldA (cs := [.int .u8 ((l.getD i Tok.z).by'), .int .i64 ((l.getD i Tok.z).len), .int .i64 ((l.getD i Tok.z).dist)]) rfl Try.isAgg30 Try.sizeOf30 (F20.ev rfl) ((H5.rd hl).cws (i := i) (getD_get Tok.z (by omega)))) fun ac21 F21 => ?_
   clear F20
   refine go_val (v := v) F21 (wanted_none rfl) rfl (by decide) (x_move rfl (F21.ev rfl)) fun ac22 F22 => ?_
   clear F21
   refine go_val (v := .int .i64 (out.length : Int)) F22 (wanted_none rfl) rfl (by decide) (x_len (H5.own (i := 0) rfl) rfl (F22.ev rfl) Try.underlying24) fun ac23 F23 => ?_
   clear F22
   obtain ⟨fk3, lek3, Hck3, hok3, hbk3⟩ := Holds.split [] [Own (tI .u8) 5 v out] H5
   refine go_any F23 (wanted_none rfl) (fun t ht => by cases ht; decide) (d_call (args := #[.agg #[.int .u8 ((l.getD i Tok.z).by'), .int .i64 ((l.getD i Tok.z).len), .int .i64 ((l.getD i Tok.z).dist)], .int .i64 (out.length : Int)]) rfl rfl (map2 (F23.ev rfl) (F23.ev rfl)) Try.call17 (Right_spec (t := ⟨((l.getD i Tok.z).by'), ((l.getD i Tok.z).len), ((l.getD i Tok.z).dist)⟩) Hck3 )) ?_
   rintro _ w6 ac24 ⟨rfl, H6⟩ F24
   replace H6 : Holds w6 f [Own (tI .u8) 5 v out] := hbk3 _ [] H6
   clear hbk3 hok3 Hck3 lek3
   clear F23 H5
   refine go_val (v := .bool (!(decide (RP ⟨((l.getD i Tok.z).by'), ((l.getD i Tok.z).len), ((l.getD i Tok.z).dist)⟩ (out.length : Int))))) F24 (wanted_none rfl) rfl (by decide) (x_not rfl (F24.ev rfl)) fun ac25 F25 => ?_
   clear F24
   refine wpList_nil ?_
   refine then_n ?_
   refine b_split ((!(decide (RP ⟨((l.getD i Tok.z).by'), ((l.getD i Tok.z).len), ((l.getD i Tok.z).dist)⟩ (out.length : Int))))) (fun hb31 => ?_) (fun hb31 => ?_)
   ·
    have h31 : ¬ (RP ⟨((l.getD i Tok.z).by'), ((l.getD i Tok.z).len), ((l.getD i Tok.z).dist)⟩ (out.length : Int)) := fun hp => by rw [decide_eq_true hp] at hb31; cases hb31
    replace F25 := F25.say 31 (.bool true) ((F25.get rfl).trans (congrArg Value.bool hb31))
    refine wp_cond_true (F25.ev rfl) ?_
    refine wp_seq ?_
    refine wp_region_lit ?_
    have he : (opn 1048576 l []) = ([], 3) := by rw [← hp2_0]; exact opn_bad (by omega) (by simpa using h31)
    refine go_val (v := lv) F25 (wanted_none rfl) rfl (by decide) (x_move rfl (F25.ev rfl)) fun ac26 F26 => ?_
    clear F25
    obtain ⟨fk4, lek4, Hck4, hok4, hbk4⟩ := Holds.split [] [Own (tI .u8) 5 v out] H6
    refine go_any F26 (wanted_none rfl) (fun t ht => by cases ht; decide) (d_call (args := #[.int .i64 1048576, lv]) rfl rfl (map2 rfl (F26.ev rfl)) Try.call18 (Open_spec Hck4 (hl.mono lek4.hp) (by first | assumption | omega))) ?_
    rintro _ w7 ac27 ⟨v5, rfl, H7⟩ F27
    replace H7 : Holds w7 f [Own (tI .u8) 5 v5 ((opn 1048576 l []).1), Own (tI .u8) 5 v out] := hbk4 _ [Own (tI .u8) 5 v5 ((opn 1048576 l []).1)] H7
    clear hbk4 hok4 Hck4 lek4
    clear F26 H6
    refine go_val (v := .tuple #[v5, .int .i64 ((opn 1048576 l []).2)]) F27 (wanted_none rfl) rfl (by decide) (x_move rfl (F27.ev rfl)) fun ac28 F28 => ?_
    clear F27
    refine go_val (v := v5) F28 (wanted_none rfl) rfl (by decide) (x_ext rfl (F28.ev rfl) rfl) fun ac29 F29 => ?_
    clear F28
    refine go_val (v := .int .i64 ((opn 1048576 l []).2)) F29 (wanted_none rfl) rfl (by decide) (x_ext rfl (F29.ev rfl) rfl) fun ac30 F30 => ?_
    clear F29
    refine go_val (v := v5) F30 (wanted_none rfl) rfl (by decide) (x_assign rfl (F30.ev rfl)) fun ac31 F31 => ?_
    clear F30
    refine go_val (v := .int .i64 ((opn 1048576 l []).2)) F31 (wanted_none rfl) rfl (by decide) (x_assign rfl (F31.ev rfl)) fun ac32 F32 => ?_
    clear F31
    refine wpList_nil ?_
    refine then_n ?_
    refine wp_seq ?_
    refine wp_region_lit ?_
    refine go_val (v := .int .i64 ((opn 1048576 l []).2)) F32 (wanted_none rfl) rfl (by decide) (x_move rfl (F32.ev rfl)) fun ac33 F33 => ?_
    clear F32
    refine go_val (v := .bool (decide (((opn 1048576 l []).2) = 3))) F33 (wanted_none rfl) rfl (by decide) (x_eql rfl Try.underlying35 (F33.ev rfl) rfl) fun ac34 F34 => ?_
    clear F33
    refine go_val (v := .bool (decide (((opn 1048576 l []).2) = 3))) F34 (wanted_none rfl) rfl (by decide) (x_move rfl (F34.ev rfl)) fun ac35 F35 => ?_
    clear F34
    have h39 : ((opn 1048576 l []).2) = 3 := by rw [he]
    replace F35 := F35.say 38 (.bool true) ((F35.get rfl).trans (congrArg Value.bool (decide_eq_true h39)))
    replace F35 := F35.say 39 (.bool true) ((F35.get rfl).trans (congrArg Value.bool (decide_eq_true h39)))
    refine go_val (v := v5) F35 (wanted_some (j := 2) (t := 39) (b := true) (c := true) rfl rfl rfl (F35.get rfl)) rfl (by decide) (x_move rfl (F35.ev rfl)) fun ac36 F36 => ?_
    clear F35
    refine go_val (v := .int .i64 ((((opn 1048576 l []).1).length : Nat) : Int)) F36 (wanted_some (j := 2) (t := 39) (b := true) (c := true) rfl rfl rfl (F36.get rfl)) rfl (by decide) (x_len (H7.own (i := 0) rfl) rfl (F36.ev rfl) Try.underlying24) fun ac37 F37 => ?_
    clear F36
    refine go_val (v := .bool (decide (((((opn 1048576 l []).1).length : Nat) : Int) = 0))) F37 (wanted_some (j := 2) (t := 39) (b := true) (c := true) rfl rfl rfl (F37.get rfl)) rfl (by decide) (x_eql rfl Try.underlying3 (F37.ev rfl) rfl) fun ac38 F38 => ?_
    clear F37
    refine go_val (v := .bool (decide (((((opn 1048576 l []).1).length : Nat) : Int) = 0))) F38 (wanted_none rfl) rfl (by decide) (x_pickT rfl (F38.ev rfl) (F38.ev rfl)) fun ac39 F39 => ?_
    clear F38
    refine go_val (v := .bool (decide (((((opn 1048576 l []).1).length : Nat) : Int) = 0))) F39 (wanted_none rfl) rfl (by decide) (x_assign rfl (F39.ev rfl)) fun ac40 F40 => ?_
    clear F39
    refine wpList_nil ?_
    refine then_n ?_
    refine wp_ret ?_
    refine then_r ?_
    refine inb_r ?_
    refine then_r ?_
    refine then_r ?_
    refine inb_r ?_
    refine then_r ?_
    refine c_ret (v := .bool (decide (((((opn 1048576 l []).1).length : Nat) : Int) = 0))) F40 (res1 Try.results9 (F40.get rfl)) ?_
    refine ⟨congrArg Value.bool (decide_eq_true ?_), H7.pick [] List.nodup_nil⟩
    rw [he]; first | rfl | done
   ·
    have h31 : RP ⟨((l.getD i Tok.z).by'), ((l.getD i Tok.z).len), ((l.getD i Tok.z).dist)⟩ (out.length : Int) := Decidable.byContradiction fun hp => by rw [decide_eq_false hp] at hb31; cases hb31
    replace F25 := F25.say 31 (.bool false) ((F25.get rfl).trans (congrArg Value.bool hb31))
    refine wp_cond_false (F25.ev rfl) ?_
    refine wp_skip ?_
    refine then_n ?_
    refine wp_seq ?_
    refine wp_region_lit ?_
    have hgood : RP (l.getD i Tok.z) (out.length : Int) := by simpa using h31
    have hg := hgood
    unfold RP at hg
    have hal : ((add out ⟨(l.getD i Tok.z).by', (l.getD i Tok.z).len, (l.getD i Tok.z).dist⟩).length : Int) = out.length + max (l.getD i Tok.z).len 1 ∧ (add out ⟨(l.getD i Tok.z).by', (l.getD i Tok.z).len, (l.getD i Tok.z).dist⟩).length ≤ out.length + 258 := add_len (b := out) hgood
    have hal2 : (add out (l.getD i Tok.z)).length ≤ out.length + 258 := hal.2
    have hbs : (bs out).size = out.length := size_bs out
    refine go_val (v := v) F25 (wanted_none rfl) rfl (by decide) (x_move rfl (F25.ev rfl)) fun ac41 F41 => ?_
    clear F25
    refine go_val (v := .string (bs out)) F41 (wanted_none rfl) rfl (by decide) (x_bs (H6.own (i := 0) rfl) rfl Try.underlying24 Try.underlying5 Try.underlying9 (F41.ev rfl)) fun ac42 F42 => ?_
    clear F41
    refine go_val (v := .string (bs out)) F42 (wanted_none rfl) rfl (by decide) (x_assign rfl (F42.ev rfl)) fun ac43 F43 => ?_
    clear F42
    refine wpList_nil ?_
    refine then_n ?_
    refine wp_seq ?_
    refine r_any [fun zz => True, fun zz => zz = v, fun zz => True, fun zz => zz = lv, fun zz => zz = .int .i64 (i : Int), fun zz => zz = .pointer (some (elp lv (i * 3))), fun zz => zz = .agg #[.int .u8 ((l.getD i Tok.z).by'), .int .i64 ((l.getD i Tok.z).len), .int .i64 ((l.getD i Tok.z).dist)], fun zz => True, fun zz => True] (fun done1 val1 w => Holds w f [Own (tI .u8) 5 v out, (cond (done1 7) (Res.emp) ((cond (done1 2) (Own (tI .u8) 5 (val1 2) out) ((cond (done1 0) (Own (tI .u8) 5 (val1 0) ([] : List Int)) (Res.emp)))))), (cond (done1 7) (Own (tI .u8) 5 (val1 7) (add out ⟨((l.getD i Tok.z).by'), ((l.getD i Tok.z).len), ((l.getD i Tok.z).dist)⟩)) (Res.emp))] ∧ (done1 8 = true → val1 8 = (val1 7))) [[], [], [0, 1], [], [], [3, 4], [3, 4, 5], [0, 1, 2, 3, 4, 5, 6], [0, 1, 2, 3, 4, 5, 6, 7]] F43 rfl (by kernel_rfl) (⟨(((H6.drew).nob Res.emp (fun _ h => h) trivial).nob Res.emp (fun _ h => h) trivial).pick [2, 0, 1] (by decide), (fun h => by cases h)⟩) ?_ ?_
    ·
     refine ⟨?_, ?_, ?_, ?_, ?_, ?_, ?_, ?_, ?_, trivial⟩
     ·
      intro done1 val1 ac w hJ hi hA hD hP FD
      obtain ⟨hJ, eq8⟩ := hJ
      have d2 : done1 2 = false := hD 2 (by decide)
      have d7 : done1 7 = false := hD 7 (by decide)
      rw [if_pos (wanted_none rfl)]
      have HD : Holds w f [Own (tI .u8) 5 v out, Res.emp, Res.emp] := by simpa only [hi, d2, d7, cond_true, cond_false] using hJ
      replace HD : Holds w f [Own (tI .u8) 5 v out] := HD.pick [0] (by decide)
      refine (d_bs (n := 0) (cs := #[]) (z0 := .int .u8 0) (tI .u8) ([] : List Int) HD rfl Try.underlying24 Try.type5 rfl rfl rfl (by decide) (by kernel_rfl) rfl).mono ?_
      rintro v10 w12 H12
      refine ⟨trivial, ?_, (fun h => absurd (show done1 8 = true from h) (by rw [hD 8 (by decide)]; decide))⟩
      have HE := ((H12.nob Res.emp (fun _ h => h) trivial)).pick [2, 1, 0] (by decide)
      simp only [upd_same, upd_ne (i := 0) (k := 2) done1 (by decide), upd_ne (i := 0) (k := 7) done1 (by decide), updv_same, updv_ne (i := 0) (k := 2) _ val1 (by decide), updv_ne (i := 0) (k := 7) _ val1 (by decide), d2, d7, cond_true, cond_false]
      exact HE
     ·
      intro done1 val1 ac w hJ hi hA hD hP FD
      obtain ⟨hJ, eq8⟩ := hJ
      have d2 : done1 2 = false := hD 2 (by decide)
      have d7 : done1 7 = false := hD 7 (by decide)
      rw [if_pos (wanted_none rfl)]
      exact Does.of (v := v) (w' := w) (x_move rfl (FD.ev rfl)) ⟨rfl, hJ, (fun h => absurd (show done1 8 = true from h) (by rw [hD 8 (by decide)]; decide))⟩
     ·
      intro done1 val1 ac w hJ hi hA hD hP FD
      obtain ⟨hJ, eq8⟩ := hJ
      have q47 : val1 1 = v := hP 1 (by decide) _ rfl
      have d0 : done1 0 = true := hA 0 (by decide)
      have d7 : done1 7 = false := hD 7 (by decide)
      rw [if_pos (wanted_none rfl)]
      have HD : Holds w f [Own (tI .u8) 5 v out, Own (tI .u8) 5 (val1 0) ([] : List Int), Res.emp] := by simpa only [d0, hi, d7, cond_true, cond_false] using hJ
      replace HD : Holds w f [Own (tI .u8) 5 v out, Own (tI .u8) 5 (val1 0) ([] : List Int)] := HD.pick [0, 1] (by decide)
      refine (d_app (zb := 1) (u := v) (ys := out) HD (i := 1) rfl (HD.own (i := 0) rfl) rfl (FD.ev rfl) ((FD.ev rfl).trans q47) Try.underlying24 Try.type5 rfl rfl rfl rfl (by simp; omega) (by decide)).mono ?_
      rintro v11 w13 H13
      replace H13 : Holds w13 f [Own (tI .u8) 5 v out, Own (tI .u8) 5 v11 out] := H13
      refine ⟨trivial, ?_, (fun h => absurd (show done1 8 = true from h) (by rw [hD 8 (by decide)]; decide))⟩
      have HE := ((H13.nob Res.emp (fun _ h => h) trivial)).pick [1, 2, 0] (by decide)
      simp only [upd_same, upd_ne (i := 2) (k := 0) done1 (by decide), upd_ne (i := 2) (k := 7) done1 (by decide), updv_same, updv_ne (i := 2) (k := 0) _ val1 (by decide), updv_ne (i := 2) (k := 7) _ val1 (by decide), d0, d7, cond_true, cond_false]
      exact HE
     ·
      intro done1 val1 ac w hJ hi hA hD hP FD
      obtain ⟨hJ, eq8⟩ := hJ
      have d7 : done1 7 = false := hD 7 (by decide)
      rw [if_pos (wanted_none rfl)]
      exact Does.of (v := lv) (w' := w) (x_move rfl (FD.ev rfl)) ⟨rfl, hJ, (fun h => absurd (show done1 8 = true from h) (by rw [hD 8 (by decide)]; decide))⟩
     ·
      intro done1 val1 ac w hJ hi hA hD hP FD
      obtain ⟨hJ, eq8⟩ := hJ
      have d7 : done1 7 = false := hD 7 (by decide)
      rw [if_pos (wanted_none rfl)]
      exact Does.of (v := .int .i64 (i : Int)) (w' := w) (x_move rfl (FD.ev rfl)) ⟨rfl, hJ, (fun h => absurd (show done1 8 = true from h) (by rw [hD 8 (by decide)]; decide))⟩
     ·
      intro done1 val1 ac w hJ hi hA hD hP FD
      obtain ⟨hJ, eq8⟩ := hJ
      have q49 : val1 3 = lv := hP 3 (by decide) _ rfl
      have q50 : val1 4 = .int .i64 (i : Int) := hP 4 (by decide) _ rfl
      have d7 : done1 7 = false := hD 7 (by decide)
      rw [if_pos (wanted_none rfl)]
      have HD : Holds w f [Own (tI .u8) 5 v out, (cond (done1 2) (Own (tI .u8) 5 (val1 2) out) ((cond (done1 0) (Own (tI .u8) 5 (val1 0) ([] : List Int)) (Res.emp)))), Res.emp] := by simpa only [d7, cond_true, cond_false] using hJ
      replace HD : Holds w f [Own (tI .u8) 5 v out, (cond (done1 2) (Own (tI .u8) 5 (val1 2) out) ((cond (done1 0) (Own (tI .u8) 5 (val1 0) ([] : List Int)) (Res.emp))))] := HD.pick [0, 1] (by decide)
      exact Does.of (v := .pointer (some (elp lv (i * 3)))) (w' := w) (x_ixa (i := i) (HD.rd hl) rfl Try.underlying27 Try.sizeOf30 ((FD.ev rfl).trans q49) ((FD.ev rfl).trans q50) (by omega) (by omega)) ⟨rfl, hJ, (fun h => absurd (show done1 8 = true from h) (by rw [hD 8 (by decide)]; decide))⟩
     ·
      intro done1 val1 ac w hJ hi hA hD hP FD
      obtain ⟨hJ, eq8⟩ := hJ
      have q51 : val1 5 = .pointer (some (elp lv (i * 3))) := hP 5 (by decide) _ rfl
      have d7 : done1 7 = false := hD 7 (by decide)
      rw [if_pos (wanted_none rfl)]
      have HD : Holds w f [Own (tI .u8) 5 v out, (cond (done1 2) (Own (tI .u8) 5 (val1 2) out) ((cond (done1 0) (Own (tI .u8) 5 (val1 0) ([] : List Int)) (Res.emp)))), Res.emp] := by simpa only [d7, cond_true, cond_false] using hJ
      replace HD : Holds w f [Own (tI .u8) 5 v out, (cond (done1 2) (Own (tI .u8) 5 (val1 2) out) ((cond (done1 0) (Own (tI .u8) 5 (val1 0) ([] : List Int)) (Res.emp))))] := HD.pick [0, 1] (by decide)
      exact Does.of (v := .agg #[.int .u8 ((l.getD i Tok.z).by'), .int .i64 ((l.getD i Tok.z).len), .int .i64 ((l.getD i Tok.z).dist)]) (w' := w) (x_ldA (cs := [.int .u8 ((l.getD i Tok.z).by'), .int .i64 ((l.getD i Tok.z).len), .int .i64 ((l.getD i Tok.z).dist)]) rfl Try.isAgg30 Try.sizeOf30 ((FD.ev rfl).trans q51) ((HD.rd hl).cws (i := i) (getD_get Tok.z (by omega)))) ⟨rfl, hJ, (fun h => absurd (show done1 8 = true from h) (by rw [hD 8 (by decide)]; decide))⟩
     ·
      intro done1 val1 ac w hJ hi hA hD hP FD
      obtain ⟨hJ, eq8⟩ := hJ
      have q52 : val1 6 = .agg #[.int .u8 ((l.getD i Tok.z).by'), .int .i64 ((l.getD i Tok.z).len), .int .i64 ((l.getD i Tok.z).dist)] := hP 6 (by decide) _ rfl
      have d0 : done1 0 = true := hA 0 (by decide)
      have d2 : done1 2 = true := hA 2 (by decide)
      rw [if_pos (wanted_none rfl)]
      have HD : Holds w f [Own (tI .u8) 5 v out, Own (tI .u8) 5 (val1 2) out, Res.emp] := by simpa only [d0, d2, hi, cond_true, cond_false] using hJ
      replace HD : Holds w f [Own (tI .u8) 5 v out, Own (tI .u8) 5 (val1 2) out] := HD.pick [0, 1] (by decide)
      have H14 : Holds w f [Own (tI .u8) 5 (val1 2) out, Own (tI .u8) 5 v out] := HD.pick [1, 0] (by decide)
      clear HD
      obtain ⟨fk12, lek12, Hck12, hok12, hbk12⟩ := Holds.split [Own (tI .u8) 5 (val1 2) out] [Own (tI .u8) 5 v out] H14
      refine (d_call (args := #[(val1 2), .agg #[.int .u8 ((l.getD i Tok.z).by'), .int .i64 ((l.getD i Tok.z).len), .int .i64 ((l.getD i Tok.z).dist)]]) rfl rfl (map2 (FD.ev rfl) ((FD.ev rfl).trans q52)) Try.call21 (Add_spec (t := ⟨((l.getD i Tok.z).by'), ((l.getD i Tok.z).len), ((l.getD i Tok.z).dist)⟩) Hck12 (by first | assumption | omega) (by first | assumption | omega))).mono ?_
      rintro v13 w15 H15
      replace H15 : Holds w15 f [Own (tI .u8) 5 v13 (add out ⟨((l.getD i Tok.z).by'), ((l.getD i Tok.z).len), ((l.getD i Tok.z).dist)⟩), Own (tI .u8) 5 v out] := hbk12 _ [Own (tI .u8) 5 v13 (add out ⟨((l.getD i Tok.z).by'), ((l.getD i Tok.z).len), ((l.getD i Tok.z).dist)⟩)] H15
      clear hbk12 hok12 Hck12 lek12
      refine ⟨trivial, ?_, (fun h => absurd (show done1 8 = true from h) (by rw [hD 8 (by decide)]; decide))⟩
      have HE := ((H15.nob Res.emp (fun _ h => h) trivial)).pick [2, 0, 1] (by decide)
      simp only [upd_same, upd_ne (i := 7) (k := 0) done1 (by decide), upd_ne (i := 7) (k := 2) done1 (by decide), updv_same, updv_ne (i := 7) (k := 0) _ val1 (by decide), updv_ne (i := 7) (k := 2) _ val1 (by decide), d0, d2, cond_true, cond_false]
      exact HE
     ·
      intro done1 val1 ac w hJ hi hA hD hP FD
      obtain ⟨hJ, eq8⟩ := hJ
      have d0 : done1 0 = true := hA 0 (by decide)
      have d2 : done1 2 = true := hA 2 (by decide)
      have d7 : done1 7 = true := hA 7 (by decide)
      rw [if_pos (wanted_none rfl)]
      exact Does.of (v := (val1 7)) (w' := w) (x_assign rfl (FD.ev rfl)) ⟨trivial, hJ, (fun _ => rfl)⟩
    intro done1 val1 ac44 w16 hd1 H16 hp1 F44
    obtain ⟨H16, eq8⟩ := H16
    have q3 : val1 8 = (val1 7) := eq8 (hd1 8 (by decide))
    replace H16 : Holds w16 f [Own (tI .u8) 5 v out, Res.emp, Own (tI .u8) 5 (val1 7) (add out ⟨((l.getD i Tok.z).by'), ((l.getD i Tok.z).len), ((l.getD i Tok.z).dist)⟩)] := by simpa only [hd1 0 (by decide), hd1 2 (by decide), hd1 7 (by decide), cond_true, cond_false] using H16
    replace F44 := F44.re [(0, lv), (4, .int .i64 (i : Int)), (18, .int .i64 (i : Int)), (19, lv), (20, .int .i64 (l.length : Int)), (21, .bool true), (24, lv), (25, .int .i64 (i : Int)), (26, .pointer (some (elp lv (i * 3)))), (27, .agg #[.int .u8 ((l.getD i Tok.z).by'), .int .i64 ((l.getD i Tok.z).len), .int .i64 ((l.getD i Tok.z).dist)]), (28, v), (29, .int .i64 (out.length : Int)), (30, .bool (decide (RP ⟨((l.getD i Tok.z).by'), ((l.getD i Tok.z).len), ((l.getD i Tok.z).dist)⟩ (out.length : Int)))), (31, .bool false), (44, v), (45, .string (bs out)), (7, .string (bs out)), (3, (val1 7))] ⟨F44.get rfl, F44.get rfl, F44.get rfl, F44.get rfl, F44.get rfl, F44.get rfl, F44.get rfl, F44.get rfl, F44.get rfl, F44.get rfl, F44.get rfl, F44.get rfl, F44.get rfl, F44.get rfl, F44.get rfl, F44.get rfl, F44.get rfl, (F44.get rfl).trans q3, trivial⟩
    clear F43 H6 hp1
    have H17 : Holds w16 f [Own (tI .u8) 5 v out, Own (tI .u8) 5 (val1 7) (add out ⟨((l.getD i Tok.z).by'), ((l.getD i Tok.z).len), ((l.getD i Tok.z).dist)⟩)] := H16.pick [0, 2] (by decide)
    refine then_n ?_
    refine wp_seq ?_
    refine wp_region_lit ?_
    refine go_val (v := (val1 7)) F44 (wanted_none rfl) rfl (by decide) (x_move rfl (F44.ev rfl)) fun ac45 F45 => ?_
    clear F44
    refine go_val (v := .int .i64 (((add out ⟨((l.getD i Tok.z).by'), ((l.getD i Tok.z).len), ((l.getD i Tok.z).dist)⟩).length : Nat) : Int)) F45 (wanted_none rfl) rfl (by decide) (x_len (H17.own (i := 1) rfl) rfl (F45.ev rfl) Try.underlying24) fun ac46 F46 => ?_
    clear F45
    refine go_val (v := .string (bs out)) F46 (wanted_none rfl) rfl (by decide) (x_move rfl (F46.ev rfl)) fun ac47 F47 => ?_
    clear F46
    refine go_val (v := .int .i64 (((bs out).size : Nat) : Int)) F47 (wanted_none rfl) rfl (by decide) (x_lenS rfl (F47.ev rfl) Try.underlying9) fun ac48 F48 => ?_
    clear F47
    refine go_val (v := lv) F48 (wanted_none rfl) rfl (by decide) (x_move rfl (F48.ev rfl)) fun ac49 F49 => ?_
    clear F48
    refine go_val (v := .int .i64 (i : Int)) F49 (wanted_none rfl) rfl (by decide) (x_move rfl (F49.ev rfl)) fun ac50 F50 => ?_
    clear F49
    refine go_val (v := .pointer (some (elp lv (i * 3)))) F50 (wanted_none rfl) rfl (by decide) (x_ixa (i := i) (H17.rd hl) rfl Try.underlying27 Try.sizeOf30 (F50.ev rfl) (F50.ev rfl) (by omega) (by omega)) fun ac51 F51 => ?_
    clear F50
    refine go_val (v := .pointer (some (elp lv (i * 3 + 1)))) F51 (wanted_none rfl) rfl (by decide) (x_fae rfl Try.underlying30 rfl Try.sizeOf3 (F51.ev rfl) rfl) fun ac52 F52 => ?_
    clear F51
    refine go_val (v := .int .i64 ((l.getD i Tok.z).len)) F52 (wanted_none rfl) rfl (by decide) (x_ld rfl Try.isAgg3 (F52.ev rfl) ((H17.rd hl).cw (i := i) (j := 1) (getD_get Tok.z (by omega)) rfl)) fun ac53 F53 => ?_
    clear F52
    refine go_val (v := .int .i64 (max ((l.getD i Tok.z).len) 1)) F53 (wanted_none rfl) rfl (by decide) (x_max rfl Try.underlying3 (F53.ev rfl) rfl) fun ac54 F54 => ?_
    clear F53
    refine go_val (v := .int .i64 ((((bs out).size : Nat) : Int) + (max ((l.getD i Tok.z).len) 1))) F54 (wanted_none rfl) rfl (by decide) (x_add (Z := ((((bs out).size : Nat) : Int) + (max ((l.getD i Tok.z).len) 1))) rfl Try.underlying3 (F54.ev rfl) (F54.ev rfl) (wr_i64 (by omega))) fun ac55 F55 => ?_
    clear F54
    refine go_val (v := .bool (decide ((((add out ⟨((l.getD i Tok.z).by'), ((l.getD i Tok.z).len), ((l.getD i Tok.z).dist)⟩).length : Nat) : Int) ≠ ((((bs out).size : Nat) : Int) + (max ((l.getD i Tok.z).len) 1))))) F55 (wanted_none rfl) rfl (by decide) (x_neq rfl Try.underlying3 (F55.ev rfl) (F55.ev rfl)) fun ac56 F56 => ?_
    clear F55
    refine go_val (v := .bool (decide ((((add out ⟨((l.getD i Tok.z).by'), ((l.getD i Tok.z).len), ((l.getD i Tok.z).dist)⟩).length : Nat) : Int) ≠ ((((bs out).size : Nat) : Int) + (max ((l.getD i Tok.z).len) 1))))) F56 (wanted_none rfl) rfl (by decide) (x_move rfl (F56.ev rfl)) fun ac57 F57 => ?_
    clear F56
    have h66 : ¬ ((((add out ⟨((l.getD i Tok.z).by'), ((l.getD i Tok.z).len), ((l.getD i Tok.z).dist)⟩).length : Nat) : Int) ≠ ((((bs out).size : Nat) : Int) + (max ((l.getD i Tok.z).len) 1))) := by omega
    replace F57 := F57.say 65 (.bool false) ((F57.get rfl).trans (congrArg Value.bool (decide_eq_false h66)))
    replace F57 := F57.say 66 (.bool false) ((F57.get rfl).trans (congrArg Value.bool (decide_eq_false h66)))
    refine go_val (v := (val1 7)) F57 (wanted_some (j := 12) (t := 66) (b := false) (c := false) rfl rfl rfl (F57.get rfl)) rfl (by decide) (x_move rfl (F57.ev rfl)) fun ac58 F58 => ?_
    clear F57
    refine go_val (v := .string (bs out)) F58 (wanted_some (j := 12) (t := 66) (b := false) (c := false) rfl rfl rfl (F58.get rfl)) rfl (by decide) (x_move rfl (F58.ev rfl)) fun ac59 F59 => ?_
    clear F58
    refine go_val (v := .int .i64 (((bs out).size : Nat) : Int)) F59 (wanted_some (j := 12) (t := 66) (b := false) (c := false) rfl rfl rfl (F59.get rfl)) rfl (by decide) (x_lenS rfl (F59.ev rfl) Try.underlying9) fun ac60 F60 => ?_
    clear F59
    refine go_val (v := (sl (val1 7) 0 ((bs out).size) 1)) F60 (wanted_some (j := 12) (t := 66) (b := false) (c := false) rfl rfl rfl (F60.get rfl)) rfl (by decide) (x_slH (hi := ((bs out).size)) (H17.own (i := 1) rfl) rfl Try.underlying24 Try.sizeOf5 (F60.ev rfl) ((F60.ev rfl).trans (ieq (by omega))) (by omega)) fun ac61 F61 => ?_
    clear F60
    refine go_val (v := .string (bs ((add out ⟨((l.getD i Tok.z).by'), ((l.getD i Tok.z).len), ((l.getD i Tok.z).dist)⟩).take ((bs out).size)))) F61 (wanted_some (j := 12) (t := 66) (b := false) (c := false) rfl rfl rfl (F61.get rfl)) rfl (by decide) (x_bs ((H17.own (i := 1) rfl).take (hi := ((bs out).size)) (by omega)) rfl Try.underlying24 Try.underlying5 Try.underlying9 (F61.ev rfl)) fun ac62 F62 => ?_
    clear F61
    refine go_val (v := .string (bs out)) F62 (wanted_some (j := 12) (t := 66) (b := false) (c := false) rfl rfl rfl (F62.get rfl)) rfl (by decide) (x_move rfl (F62.ev rfl)) fun ac63 F63 => ?_
    clear F62
    refine go_val (v := .bool (decide ((bs ((add out ⟨((l.getD i Tok.z).by'), ((l.getD i Tok.z).len), ((l.getD i Tok.z).dist)⟩).take ((bs out).size))) ≠ (bs out)))) F63 (wanted_some (j := 12) (t := 66) (b := false) (c := false) rfl rfl rfl (F63.get rfl)) rfl (by decide) (x_neqS rfl Try.underlying9 (F63.ev rfl) (F63.ev rfl)) fun ac64 F64 => ?_
    clear F63
    refine go_val (v := .bool (decide ((bs ((add out ⟨((l.getD i Tok.z).by'), ((l.getD i Tok.z).len), ((l.getD i Tok.z).dist)⟩).take ((bs out).size))) ≠ (bs out)))) F64 (wanted_none rfl) rfl (by decide) (x_pickF rfl (F64.ev rfl) (F64.ev rfl)) fun ac65 F65 => ?_
    clear F64
    refine wpList_nil ?_
    refine then_n ?_
    have h74 : ¬ ((bs ((add out ⟨((l.getD i Tok.z).by'), ((l.getD i Tok.z).len), ((l.getD i Tok.z).dist)⟩).take ((bs out).size))) ≠ (bs out)) := by exact fun e => e (by rw [hbs, add_take])
    replace F65 := F65.say 73 (.bool false) ((F65.get rfl).trans (congrArg Value.bool (decide_eq_false h74)))
    replace F65 := F65.say 74 (.bool false) ((F65.get rfl).trans (congrArg Value.bool (decide_eq_false h74)))
    refine wp_cond_false (F65.ev rfl) ?_
    refine wp_skip ?_
    refine inb_n ?_
    refine then_n ?_
    refine wp_region_lit ?_
    refine go_val (v := .int .i64 (i : Int)) F65 (wanted_none rfl) rfl (by decide) (x_move rfl (F65.ev rfl)) fun ac66 F66 => ?_
    clear F65
    refine go_val (v := .int .i64 ((i : Int) + 1)) F66 (wanted_none rfl) rfl (by decide) (x_add (Z := ((i : Int) + 1)) rfl Try.underlying3 (F66.ev rfl) rfl (wr_i64 (by omega))) fun ac67 F67 => ?_
    clear F66
    refine go_val (v := .int .i64 ((i : Int) + 1)) F67 (wanted_none rfl) rfl (by decide) (x_assign rfl (F67.ev rfl)) fun ac68 F68 => ?_
    clear F67
    refine wpList_nil ?_
    refine then_n ?_
    have H18 : Holds w16 f [Own (tI .u8) 5 (val1 7) (add out ⟨((l.getD i Tok.z).by'), ((l.getD i Tok.z).len), ((l.getD i Tok.z).dist)⟩)] := H17.pick [1] (by decide)
    clear H17
    have H19 := H18
    have H20 : Holds w16 f [Own (tI .u8) 5 (val1 7) (add out (l.getD i Tok.z))] := by exact H19
    exact ⟨(l.length - ((i + 1))), by omega, (i + 1), (val1 7), (add out (l.getD i Tok.z)), F68.re _ ⟨F68.get rfl, F68.get rfl, (F68.get rfl).trans (ieq (by omega)), trivial⟩, H20, by omega, by first | exact Nat.zero_le _ | omega, by first | rfl | (rw [← opn_more (by omega) hgood (by omega)]; exact hp2_0), rfl⟩
  ·
   have h21 : ¬ ((i : Int) < (l.length : Int)) := of_decide_eq_false hb21
   replace F17 := F17.say 21 (.bool false) ((F17.get rfl).trans (congrArg Value.bool hb21))
   refine wp_cond_false (F17.ev rfl) ?_
   refine wp_exit ?_
   refine then_e ?_
   refine then_e ?_
   refine inb_hit ?_
   refine then_n ?_
   refine wp_seq ?_
   refine wp_region_lit ?_
   have he : (opn 1048576 l []) = (out, 0) := by rw [← hp2_0]; exact opn_end (by omega)
   refine go_val (v := lv) F17 (wanted_none rfl) rfl (by decide) (x_move rfl (F17.ev rfl)) fun ac69 F69 => ?_
   clear F17
   obtain ⟨fk14, lek14, Hck14, hok14, hbk14⟩ := Holds.split [] [Own (tI .u8) 5 v out] H5
   refine go_any F69 (wanted_none rfl) (fun t ht => by cases ht; decide) (d_call (args := #[.int .i64 1048576, lv]) rfl rfl (map2 rfl (F69.ev rfl)) Try.call18 (Open_spec Hck14 (hl.mono lek14.hp) (by first | assumption | omega))) ?_
   rintro _ w21 ac70 ⟨v15, rfl, H21⟩ F70
   replace H21 : Holds w21 f [Own (tI .u8) 5 v15 ((opn 1048576 l []).1), Own (tI .u8) 5 v out] := hbk14 _ [Own (tI .u8) 5 v15 ((opn 1048576 l []).1)] H21
   clear hbk14 hok14 Hck14 lek14
   clear F69 H5
   refine go_val (v := .tuple #[v15, .int .i64 ((opn 1048576 l []).2)]) F70 (wanted_none rfl) rfl (by decide) (x_move rfl (F70.ev rfl)) fun ac71 F71 => ?_
   clear F70
   refine go_val (v := v15) F71 (wanted_none rfl) rfl (by decide) (x_ext rfl (F71.ev rfl) rfl) fun ac72 F72 => ?_
   clear F71
   refine go_val (v := .int .i64 ((opn 1048576 l []).2)) F72 (wanted_none rfl) rfl (by decide) (x_ext rfl (F72.ev rfl) rfl) fun ac73 F73 => ?_
   clear F72
   refine go_val (v := v15) F73 (wanted_none rfl) rfl (by decide) (x_assign rfl (F73.ev rfl)) fun ac74 F74 => ?_
   clear F73
   refine go_val (v := .int .i64 ((opn 1048576 l []).2)) F74 (wanted_none rfl) rfl (by decide) (x_assign rfl (F74.ev rfl)) fun ac75 F75 => ?_
   clear F74
   refine wpList_nil ?_
   refine then_n ?_
   refine wp_seq ?_
   refine wp_region_lit ?_
   refine go_val (v := .int .i64 ((opn 1048576 l []).2)) F75 (wanted_none rfl) rfl (by decide) (x_move rfl (F75.ev rfl)) fun ac76 F76 => ?_
   clear F75
   refine go_val (v := .bool (decide (((opn 1048576 l []).2) = 0))) F76 (wanted_none rfl) rfl (by decide) (x_eql rfl Try.underlying35 (F76.ev rfl) rfl) fun ac77 F77 => ?_
   clear F76
   refine go_val (v := .bool (decide (((opn 1048576 l []).2) = 0))) F77 (wanted_none rfl) rfl (by decide) (x_move rfl (F77.ev rfl)) fun ac78 F78 => ?_
   clear F77
   have h82 : ((opn 1048576 l []).2) = 0 := by rw [he]
   replace F78 := F78.say 81 (.bool true) ((F78.get rfl).trans (congrArg Value.bool (decide_eq_true h82)))
   replace F78 := F78.say 82 (.bool true) ((F78.get rfl).trans (congrArg Value.bool (decide_eq_true h82)))
   refine go_val (v := v15) F78 (wanted_some (j := 2) (t := 82) (b := true) (c := true) rfl rfl rfl (F78.get rfl)) rfl (by decide) (x_move rfl (F78.ev rfl)) fun ac79 F79 => ?_
   clear F78
   refine go_val (v := .string (bs ((opn 1048576 l []).1))) F79 (wanted_some (j := 2) (t := 82) (b := true) (c := true) rfl rfl rfl (F79.get rfl)) rfl (by decide) (x_bs (H21.own (i := 0) rfl) rfl Try.underlying24 Try.underlying5 Try.underlying9 (F79.ev rfl)) fun ac80 F80 => ?_
   clear F79
   refine go_val (v := v) F80 (wanted_some (j := 2) (t := 82) (b := true) (c := true) rfl rfl rfl (F80.get rfl)) rfl (by decide) (x_move rfl (F80.ev rfl)) fun ac81 F81 => ?_
   clear F80
   refine go_val (v := .string (bs out)) F81 (wanted_some (j := 2) (t := 82) (b := true) (c := true) rfl rfl rfl (F81.get rfl)) rfl (by decide) (x_bs (H21.own (i := 1) rfl) rfl Try.underlying24 Try.underlying5 Try.underlying9 (F81.ev rfl)) fun ac82 F82 => ?_
   clear F81
   refine go_val (v := .bool (decide ((bs ((opn 1048576 l []).1)) = (bs out)))) F82 (wanted_some (j := 2) (t := 82) (b := true) (c := true) rfl rfl rfl (F82.get rfl)) rfl (by decide) (x_eqlS rfl Try.underlying9 (F82.ev rfl) (F82.ev rfl)) fun ac83 F83 => ?_
   clear F82
   refine go_val (v := .bool (decide ((bs ((opn 1048576 l []).1)) = (bs out)))) F83 (wanted_none rfl) rfl (by decide) (x_pickT rfl (F83.ev rfl) (F83.ev rfl)) fun ac84 F84 => ?_
   clear F83
   refine go_val (v := .bool (decide ((bs ((opn 1048576 l []).1)) = (bs out)))) F84 (wanted_none rfl) rfl (by decide) (x_assign rfl (F84.ev rfl)) fun ac85 F85 => ?_
   clear F84
   refine wpList_nil ?_
   refine then_n ?_
   refine wp_ret ?_
   refine c_ret (v := .bool (decide ((bs ((opn 1048576 l []).1)) = (bs out)))) F85 (res1 Try.results9 (F85.get rfl)) ?_
   refine ⟨congrArg Value.bool (decide_eq_true ?_), H21.pick [] List.nodup_nil⟩
   rw [he]; first | rfl | done
end Go.Proofs.Ytdglijdgnopgkaa.Lz
