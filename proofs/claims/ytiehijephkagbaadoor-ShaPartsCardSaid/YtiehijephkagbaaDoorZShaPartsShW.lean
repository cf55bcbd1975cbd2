/- Walks. -/
import Derived.Test.YtiehijephkagbaaDoorZShaPartsShK
import Derived.Test.YtiehijephkagbaaDoorZShaPartsPbs
namespace Go.Proofs.YtiehijephkagbaaDoor.Sha
open Go.RowKit Go.Proofs.YtiehijephkagbaaDoor.Sl
set_option linter.unusedVariables false
set_option linter.unusedSimpArgs false
set_option maxRecDepth 100000 in
theorem Len_spec {w : World} {f : Fm} {p n : Nat} {xs : List Int} {c0 c1 : Value} {hl : xs.length = 8} (H0 : Holds w f [Pt p 42 (ar .u32 xs ++ [c0, c1, .int .u64 (n : Int)])])  :
  Calls Tryd.prog 14 #[.pointer (some ⟨p, 0, none⟩)] w (Rt fun r w' => r = .int .u64 (n : Int) ∧ Holds w' f [Pt p 42 (ar .u32 xs ++ [c0, c1, .int .u64 (n : Int)])]) := by
 refine c_enter Tryd.func14 rfl Tryd.ntmps14 (show (1 : Nat) ≤ 7 by decide) fun ac0 F0 => ?_
 replace F0 := F0.re [(0, .pointer (some ⟨p, 0, none⟩))] ⟨F0.get rfl, trivial⟩
 refine wp_seq ?_
 refine wp_region_lit ?_
 refine go_val (v := .int .u64 0) F0 (wanted_none rfl) rfl (by decide) (x_assign rfl rfl) fun ac1 F1 => ?_
 clear F0
 refine wpList_nil ?_
 refine then_n ?_
 refine wp_seq ?_
 refine wp_region_lit ?_
 refine go_val (v := .pointer (some ⟨p, 0, none⟩)) F1 (wanted_none rfl) rfl (by decide) (x_move rfl (F1.ev rfl)) fun ac2 F2 => ?_
 clear F1
 refine go_val (v := .pointer (some ⟨p, 0, none⟩)) F2 (wanted_none rfl) rfl (by decide) (x_nil rfl (F2.ev rfl)) fun ac3 F3 => ?_
 clear F2
 refine go_val (v := .pointer (some ⟨p, 10, none⟩)) F3 (wanted_none rfl) rfl (by decide) (x_fa rfl Tryd.underlying42 rfl Tryd.sizeOf40 (F3.ev rfl) rfl) fun ac4 F4 => ?_
 clear F3
 refine go_val (v := .int .u64 (n : Int)) F4 (wanted_none rfl) rfl (by decide) (x_ld rfl Tryd.isAgg40 (F4.ev rfl) (H0.ptCell (i := 0) rfl (ar_tl (j := 2) (by (try simp only [List.length_set]); omega) rfl))) fun ac5 F5 => ?_
 clear F4
 refine go_val (v := .int .u64 (n : Int)) F5 (wanted_none rfl) rfl (by decide) (x_assign rfl (F5.ev rfl)) fun ac6 F6 => ?_
 clear F5
 refine wpList_nil ?_
 refine then_n ?_
 refine wp_ret ?_
 refine c_ret (v := .int .u64 (n : Int)) F6 (res1 Tryd.results14 (F6.get rfl)) ?_
 exact ⟨rfl, H0⟩
set_option maxRecDepth 100000 in
set_option maxHeartbeats 2000000 in
theorem Write_spec {w : World} {f : Fm} {p : Nat} {xs : List Int} {r0 : Bool} {v90 : Value} {A X : List Int} {pv : Value} {cs : List Pb} (H0 : Holds w f [Pt p 42 (ar .u32 xs ++ [.bool r0, v90, .int .u64 (A.length : Int)]), Own (tI .u8) 5 v90 (hr A)]) (hG : GL f.hp) (hp : Rd tPb f.hp pv cs) (hin : ∀ c ∈ cs, Rd (tI .u8) f.hp c.s.v c.b) (hBc : ∀ c ∈ cs, By c.b) (hX : jn cs = X) (hBA : By A) (hl : xs.length = 8) (hx : (if r0 then xs else beginL) = hw A) (hn : A.length + X.length ≤ 200000) :
  Calls Tryd.prog 13 #[.pointer (some ⟨p, 0, none⟩), pv] w (Rt fun r w' => ∃ v, r = .tuple #[] ∧ Holds w' f [Pt p 42 (ar .u32 (hw (A ++ X)) ++ [.bool true, v, .int .u64 (((A ++ X).length : Nat) : Int)]), Own (tI .u8) 5 v (hr (A ++ X))]) := by
 subst hX
 have hmx := hp.max
 refine c_enter Tryd.func13 rfl Tryd.ntmps13 (show (2 : Nat) ≤ 58 by decide) fun ac0 F0 => ?_
 replace F0 := F0.re [(0, .pointer (some ⟨p, 0, none⟩)), (1, pv)] ⟨F0.get rfl, F0.get rfl, trivial⟩
 refine wp_seq ?_
 refine wp_region_lit ?_
 refine go_val (v := .pointer (some ⟨p, 0, none⟩)) F0 (wanted_none rfl) rfl (by decide) (x_move rfl (F0.ev rfl)) fun ac1 F1 => ?_
 clear F0
 refine go_val (v := .pointer (some ⟨p, 0, none⟩)) F1 (wanted_none rfl) rfl (by decide) (x_nil rfl (F1.ev rfl)) fun ac2 F2 => ?_
 clear F1
 refine go_val (v := .pointer (some ⟨p, 0, none⟩)) F2 (wanted_none rfl) rfl (by decide) (x_fa rfl Tryd.underlying42 rfl Tryd.sizeOf39 (F2.ev rfl) rfl) fun ac3 F3 => ?_
 clear F2
 obtain ⟨fk1, lek1, Hck1, hok1, hbk1⟩ := Holds.split [Pt p 42 (ar .u32 xs ++ [.bool r0, v90, .int .u64 (A.length : Int)])] [Own (tI .u8) 5 v90 (hr A)] H0
 refine go_any F3 (wanted_none rfl) (fun t ht => by cases ht; decide) (d_call (args := #[.pointer (some ⟨p, 0, none⟩)]) rfl rfl (map1 (F3.ev rfl)) Tryd.call19 (Start_spec Hck1 (hG.mono lek1.hp) (by first | rfl | exact hl | exact hw_len _))) ?_
 rintro _ w1 ac4 ⟨rfl, H1⟩ F4
 replace H1 : Holds w1 f [Pt p 42 (ar .u32 (if r0 then xs else beginL) ++ [.bool true, v90, .int .u64 (A.length : Int)]), Own (tI .u8) 5 v90 (hr A)] := hbk1 _ [Pt p 42 (ar .u32 (if r0 then xs else beginL) ++ [.bool true, v90, .int .u64 (A.length : Int)])] H1
 clear hbk1 hok1 Hck1 lek1
 clear F3 H0
 refine wpList_nil ?_
 refine then_n ?_
 refine wp_seq ?_
 refine wp_region_lit ?_
 refine go_val (v := pv) F4 (wanted_none rfl) rfl (by decide) (x_move rfl (F4.ev rfl)) fun ac5 F5 => ?_
 clear F4
 refine go_val (v := .int .i64 (cs.length : Int)) F5 (wanted_none rfl) rfl (by decide) (x_len (H1.rd hp) rfl (F5.ev rfl) Tryd.underlying31) fun ac6 F6 => ?_
 clear F5
 refine go_val (v := .int .i64 0) F6 (wanted_none rfl) rfl (by decide) (x_move rfl rfl) fun ac7 F7 => ?_
 clear F6
 refine wpList_nil ?_
 refine then_n ?_
 refine wp_block ?_
 have H2 := H1
 have H3 : Holds w1 f [Pt p 42 (ar .u32 (hw A) ++ [.bool true, v90, .int .u64 (A.length : Int)]), Own (tI .u8) 5 v90 (hr A)] := by rw [← hx]; exact H2
 refine c_loop (fun mm ac w => ∃ i : Nat, ∃ v : Value, ∃ B : List Int, Fr ac 58 [(0, .pointer (some ⟨p, 0, none⟩)), (10, pv), (11, .int .i64 (cs.length : Int)), (12, .int .i64 (i : Int))] ∧ Holds w f [Pt p 42 (ar .u32 (hw B) ++ [.bool true, v, .int .u64 (B.length : Int)]), Own (tI .u8) 5 v (hr B)] ∧ (i ≤ cs.length) ∧ (B = A ++ jn (cs.take i)) ∧ (By B) ∧ mm = (cs.length - (i))) (cs.length - (0)) ⟨0, v90, A, F7.re _ ⟨F7.get rfl, F7.get rfl, F7.get rfl, F7.get rfl, trivial⟩, H3, by omega, by first | (rw [List.take_zero, jn_nil, List.append_nil]; done) | (rw [jn_take (by omega), ← List.append_assoc, ← hp1_0]), by first | exact hBA | exact hp2_0.app (hBc _ (mem_getD (by omega))), rfl⟩ ?_
 clear F7 H1 H3
 rintro mm ac8 w4 ⟨i, v, B, F8, H4, hp0_0, hp1_0, hp2_0, rfl⟩
 have hrl := hr_len B
 have hwl := hw_len B
 have hle : i < cs.length → (jn (cs.take i)).length + (cs.getD i Pb.z).b.length ≤ (jn cs).length := fun h => jn_le h
 have hBl : B.length = A.length + (jn (cs.take i)).length := by rw [hp1_0, List.length_append]
 refine wp_seq ?_
 refine wp_region_lit ?_
 refine go_val (v := .bool (decide ((i : Int) < (cs.length : Int)))) F8 (wanted_none rfl) rfl (by decide) (x_lss rfl Tryd.underlying3 (F8.ev rfl) (F8.ev rfl)) fun ac9 F9 => ?_
 clear F8
 refine wpList_nil ?_
 refine then_n ?_
 refine wp_seq ?_
 refine b_split ((decide ((i : Int) < (cs.length : Int)))) (fun hb13 => ?_) (fun hb13 => ?_)
 ·
  have h13 : (i : Int) < (cs.length : Int) := of_decide_eq_true hb13
  replace F9 := F9.say 13 (.bool true) ((F9.get rfl).trans (congrArg Value.bool hb13))
  refine wp_cond_true (F9.ev rfl) ?_
  refine wp_skip ?_
  refine then_n ?_
  refine wp_seq ?_
  refine wp_block ?_
  refine wp_seq ?_
  refine wp_region_lit ?_
  refine go_val (v := .pointer (some (elp pv (i * 1)))) F9 (wanted_none rfl) rfl (by decide) (x_ixa (i := i) (H4.rd hp) rfl Tryd.underlying31 Tryd.sizeOf22 (F9.ev rfl) (F9.ev rfl) (by omega) (by omega)) fun ac10 F10 => ?_
  clear F9
  refine go_val (v := ((cs.getD i Pb.z).s.v)) F10 (wanted_none rfl) rfl (by decide) (x_ld rfl Tryd.isAgg22 (F10.ev rfl) ((H4.rd hp).cw (i := i) (j := 0) (getD_get Pb.z (by omega)) rfl)) fun ac11 F11 => ?_
  clear F10
  refine go_val (v := ((cs.getD i Pb.z).s.v)) F11 (wanted_none rfl) rfl (by decide) (x_assign rfl (F11.ev rfl)) fun ac12 F12 => ?_
  clear F11
  refine wpList_nil ?_
  refine then_n ?_
  refine wp_seq ?_
  refine wp_region_lit ?_
  refine go_val (v := .pointer (some ⟨p, 0, none⟩)) F12 (wanted_none rfl) rfl (by decide) (x_move rfl (F12.ev rfl)) fun ac13 F13 => ?_
  clear F12
  refine go_val (v := .pointer (some ⟨p, 0, none⟩)) F13 (wanted_none rfl) rfl (by decide) (x_nil rfl (F13.ev rfl)) fun ac14 F14 => ?_
  clear F13
  refine go_val (v := .pointer (some ⟨p, 10, none⟩)) F14 (wanted_none rfl) rfl (by decide) (x_fa rfl Tryd.underlying42 rfl Tryd.sizeOf40 (F14.ev rfl) rfl) fun ac15 F15 => ?_
  clear F14
  refine go_val (v := .int .u64 (B.length : Int)) F15 (wanted_none rfl) rfl (by decide) (x_ld rfl Tryd.isAgg40 (F15.ev rfl) (H4.ptCell (i := 0) rfl (ar_tl (j := 2) (by (try simp only [List.length_set]); omega) rfl))) fun ac16 F16 => ?_
  clear F15
  refine go_val (v := ((cs.getD i Pb.z).s.v)) F16 (wanted_none rfl) rfl (by decide) (x_move rfl (F16.ev rfl)) fun ac17 F17 => ?_
  clear F16
  refine go_val (v := .int .i64 ((((cs.getD i Pb.z).b).length : Nat) : Int)) F17 (wanted_none rfl) rfl (by decide) (x_len (H4.rd (hin _ (mem_getD (by omega)))) rfl (F17.ev rfl) Tryd.underlying22) fun ac18 F18 => ?_
  clear F17
  refine go_val (v := .int .u64 ((((cs.getD i Pb.z).b).length : Nat) : Int)) F18 (wanted_none rfl) rfl (by decide) (x_cvI (Z := ((((cs.getD i Pb.z).b).length : Nat) : Int)) rfl Tryd.underlying3 Tryd.underlying40 (F18.ev rfl) (wr_u64 (by omega))) fun ac19 F19 => ?_
  clear F18
  refine go_val (v := .int .u64 ((B.length : Int) + ((((cs.getD i Pb.z).b).length : Nat) : Int))) F19 (wanted_none rfl) rfl (by decide) (x_add (Z := ((B.length : Int) + ((((cs.getD i Pb.z).b).length : Nat) : Int))) rfl Tryd.underlying40 (F19.ev rfl) (F19.ev rfl) (wr_u64 (by omega))) fun ac20 F20 => ?_
  clear F19
  refine go_val (v := .pointer (some ⟨p, 0, none⟩)) F20 (wanted_none rfl) rfl (by decide) (x_nil rfl (F20.ev rfl)) fun ac21 F21 => ?_
  clear F20
  refine go_val (v := .pointer (some ⟨p, 10, none⟩)) F21 (wanted_none rfl) rfl (by decide) (x_fa rfl Tryd.underlying42 rfl Tryd.sizeOf40 (F21.ev rfl) rfl) fun ac22 F22 => ?_
  clear F21
  refine go_any F22 (wanted_none rfl) (fun t ht => by cases ht) (d_stTl (v := .int .u64 ((B.length : Int) + ((((cs.getD i Pb.z).b).length : Nat) : Int))) (j := 2) H4 (i := 0) rfl rfl Tryd.sizeOf40 (F22.ev rfl) (F22.ev rfl) rfl (by first | ((try simp only [List.length_set, List.length_replicate]); omega) | (simp; done)) (show (2 : Nat) < 3 by decide)) ?_
  rintro _ w5 ac23 ⟨rfl, H5⟩ F23
  replace H5 : Holds w5 f [Pt p 42 (ar .u32 (hw B) ++ [.bool true, v, .int .u64 ((B.length : Int) + ((((cs.getD i Pb.z).b).length : Nat) : Int))]), Own (tI .u8) 5 v (hr B)] := H5
  clear F22 H4
  refine wpList_nil ?_
  refine then_n ?_
  refine wp_seq ?_
  refine wp_region_lit ?_
  refine go_val (v := .pointer (some ⟨p, 0, none⟩)) F23 (wanted_none rfl) rfl (by decide) (x_move rfl (F23.ev rfl)) fun ac24 F24 => ?_
  clear F23
  refine go_val (v := .pointer (some ⟨p, 0, none⟩)) F24 (wanted_none rfl) rfl (by decide) (x_move rfl (F24.ev rfl)) fun ac25 F25 => ?_
  clear F24
  refine go_val (v := .pointer (some ⟨p, 0, none⟩)) F25 (wanted_none rfl) rfl (by decide) (x_nil rfl (F25.ev rfl)) fun ac26 F26 => ?_
  clear F25
  refine go_val (v := .pointer (some ⟨p, 9, none⟩)) F26 (wanted_none rfl) rfl (by decide) (x_fa rfl Tryd.underlying42 rfl Tryd.sizeOf22 (F26.ev rfl) rfl) fun ac27 F27 => ?_
  clear F26
  refine go_val (v := v) F27 (wanted_none rfl) rfl (by decide) (x_ld rfl Tryd.isAgg22 (F27.ev rfl) (H5.ptCell (i := 0) rfl (ar_tl (j := 1) (by (try simp only [List.length_set]); omega) rfl))) fun ac28 F28 => ?_
  clear F27
  refine go_val (v := ((cs.getD i Pb.z).s.v)) F28 (wanted_none rfl) rfl (by decide) (x_move rfl (F28.ev rfl)) fun ac29 F29 => ?_
  clear F28
  refine go_any F29 (wanted_none rfl) (fun t ht => by cases ht; decide) (d_app (zb := 1) (u := ((cs.getD i Pb.z).s.v)) (ys := ((cs.getD i Pb.z).b)) H5 (i := 1) rfl (H5.rd (hin _ (mem_getD (by omega)))) rfl (F29.ev rfl) (F29.ev rfl) Tryd.underlying22 Tryd.type5 rfl rfl rfl rfl (by first | omega | (simp only [List.length_cons, List.length_nil]; omega) | (simp; omega)) (by decide)) ?_
  rintro v2 w6 ac30 H6 F30
  replace H6 : Holds w6 f [Pt p 42 (ar .u32 (hw B) ++ [.bool true, v, .int .u64 ((B.length : Int) + ((((cs.getD i Pb.z).b).length : Nat) : Int))]), Own (tI .u8) 5 v2 ((hr B) ++ ((cs.getD i Pb.z).b))] := H6
  clear F29 H5
  refine go_val (v := .pointer (some ⟨p, 0, none⟩)) F30 (wanted_none rfl) rfl (by decide) (x_nil rfl (F30.ev rfl)) fun ac31 F31 => ?_
  clear F30
  refine go_val (v := .pointer (some ⟨p, 9, none⟩)) F31 (wanted_none rfl) rfl (by decide) (x_fa rfl Tryd.underlying42 rfl Tryd.sizeOf22 (F31.ev rfl) rfl) fun ac32 F32 => ?_
  clear F31
  refine go_any F32 (wanted_none rfl) (fun t ht => by cases ht) (d_stTl (v := v2) (j := 1) H6 (i := 0) rfl rfl Tryd.sizeOf22 (F32.ev rfl) (F32.ev rfl) (H6.own (i := 1) rfl).one (by first | ((try simp only [List.length_set, List.length_replicate]); omega) | (simp; done)) (show (1 : Nat) < 3 by decide)) ?_
  rintro _ w7 ac33 ⟨rfl, H7⟩ F33
  replace H7 : Holds w7 f [Pt p 42 (ar .u32 (hw B) ++ [.bool true, v2, .int .u64 ((B.length : Int) + ((((cs.getD i Pb.z).b).length : Nat) : Int))]), Own (tI .u8) 5 v2 ((hr B) ++ ((cs.getD i Pb.z).b))] := H7
  clear F32 H6
  refine wpList_nil ?_
  refine then_n ?_
  refine wp_block ?_
  have hlc := hle (by omega)
  have H8 := H7
  have H9 : Holds w7 f [Pt p 42 (ar .u32 (blks keysL (B ++ (cs.getD i Pb.z).b) beginL (B.length / 64)) ++ [.bool true, v2, .int .u64 (((B ++ (cs.getD i Pb.z).b).length : Nat) : Int)]), Own (tI .u8) 5 v2 ((B ++ (cs.getD i Pb.z).b).drop (64 * (B.length / 64)))] := by rw [← hw_more, ← hr_more, show (((B ++ (cs.getD i Pb.z).b).length : Nat) : Int) = (B.length : Int) + ((cs.getD i Pb.z).b.length : Int) by rw [List.length_append]; omega]; exact H8
  refine c_loop (fun mm ac w => ∃ k : Nat, ∃ v2 : Value, Fr ac 58 [(0, .pointer (some ⟨p, 0, none⟩)), (10, pv), (11, .int .i64 (cs.length : Int)), (12, .int .i64 (i : Int))] ∧ Holds w f [Pt p 42 (ar .u32 (blks keysL (B ++ (cs.getD i Pb.z).b) beginL k) ++ [.bool true, v2, .int .u64 (((B ++ (cs.getD i Pb.z).b).length : Nat) : Int)]), Own (tI .u8) 5 v2 ((B ++ (cs.getD i Pb.z).b).drop (64 * k))] ∧ (64 * k ≤ (B ++ (cs.getD i Pb.z).b).length) ∧ mm = ((B ++ (cs.getD i Pb.z).b).length - 64 * (k))) ((B ++ (cs.getD i Pb.z).b).length - 64 * ((B.length / 64))) ⟨(B.length / 64), v2, F33.re _ ⟨F33.get rfl, F33.get rfl, F33.get rfl, F33.get rfl, trivial⟩, H9, by first | omega | (rw [List.length_append]; omega), rfl⟩ ?_
  clear F33 H7 H9
  rintro mm ac34 w10 ⟨k, v2, F34, H10, hp0_2, rfl⟩
  have hbl := blks_len (ks := keysL) (l := (B ++ (cs.getD i Pb.z).b)) (s := beginL) rfl k
  have hlA : (B ++ (cs.getD i Pb.z).b).length = B.length + (cs.getD i Pb.z).b.length := List.length_append
  have hdl : ((B ++ (cs.getD i Pb.z).b).drop (64 * k)).length = (B ++ (cs.getD i Pb.z).b).length - 64 * k := List.length_drop
  have hBk : By ((B ++ (cs.getD i Pb.z).b).drop (64 * k)) := (hp2_0.app (hBc _ (mem_getD (by omega)))).drop _
  have hl8 : (blks keysL (B ++ (cs.getD i Pb.z).b) beginL k).length = 8 := blks_len rfl k
  have hw8 : ∀ x ∈ blks keysL (B ++ (cs.getD i Pb.z).b) beginL k, W32 x := blks_w begin_w k
  refine wp_seq ?_
  refine wp_seq ?_
  refine wp_region_lit ?_
  refine go_val (v := .pointer (some ⟨p, 0, none⟩)) F34 (wanted_none rfl) rfl (by decide) (x_move rfl (F34.ev rfl)) fun ac35 F35 => ?_
  clear F34
  refine go_val (v := .pointer (some ⟨p, 0, none⟩)) F35 (wanted_none rfl) rfl (by decide) (x_nil rfl (F35.ev rfl)) fun ac36 F36 => ?_
  clear F35
  refine go_val (v := .pointer (some ⟨p, 9, none⟩)) F36 (wanted_none rfl) rfl (by decide) (x_fa rfl Tryd.underlying42 rfl Tryd.sizeOf22 (F36.ev rfl) rfl) fun ac37 F37 => ?_
  clear F36
  refine go_val (v := v2) F37 (wanted_none rfl) rfl (by decide) (x_ld rfl Tryd.isAgg22 (F37.ev rfl) (H10.ptCell (i := 0) rfl (ar_tl (j := 1) (by (try simp only [List.length_set]); omega) rfl))) fun ac38 F38 => ?_
  clear F37
  refine go_val (v := .int .i64 ((((B ++ (cs.getD i Pb.z).b).drop (64 * k)).length : Nat) : Int)) F38 (wanted_none rfl) rfl (by decide) (x_len (H10.own (i := 1) rfl) rfl (F38.ev rfl) Tryd.underlying22) fun ac39 F39 => ?_
  clear F38
  refine go_val (v := .bool (decide (64 ≤ ((((B ++ (cs.getD i Pb.z).b).drop (64 * k)).length : Nat) : Int)))) F39 (wanted_none rfl) rfl (by decide) (x_geq rfl Tryd.underlying3 (F39.ev rfl) rfl) fun ac40 F40 => ?_
  clear F39
  refine wpList_nil ?_
  refine then_n ?_
  refine b_split ((decide (64 ≤ ((((B ++ (cs.getD i Pb.z).b).drop (64 * k)).length : Nat) : Int)))) (fun hb40 => ?_) (fun hb40 => ?_)
  ·
   have h40 : 64 ≤ ((((B ++ (cs.getD i Pb.z).b).drop (64 * k)).length : Nat) : Int) := of_decide_eq_true hb40
   replace F40 := F40.say 40 (.bool true) ((F40.get rfl).trans (congrArg Value.bool hb40))
   refine wp_cond_true (F40.ev rfl) ?_
   refine wp_skip ?_
   refine then_n ?_
   refine wp_block ?_
   refine wp_seq ?_
   refine r_any [fun zz => zz = .pointer (some ⟨p, 0, none⟩), fun zz => zz = .pointer (some ⟨p, 0, none⟩), fun zz => zz = .pointer (some ⟨p, 0, none⟩), fun zz => zz = .pointer (some ⟨p, 0, none⟩), fun zz => zz = .pointer (some ⟨p, 0, none⟩), fun zz => zz = .pointer (some ⟨p, 9, none⟩), fun zz => zz = v2, fun zz => zz = .tuple #[]] (fun done1 val1 w => Holds w f [(cond (done1 7) (Pt p 42 (ar .u32 (blk keysL ((B ++ (cs.getD i Pb.z).b).drop (64 * k)) (blks keysL (B ++ (cs.getD i Pb.z).b) beginL k) 0) ++ [.bool true, v2, .int .u64 (((B ++ (cs.getD i Pb.z).b).length : Nat) : Int)])) (Pt p 42 (ar .u32 (blks keysL (B ++ (cs.getD i Pb.z).b) beginL k) ++ [.bool true, v2, .int .u64 (((B ++ (cs.getD i Pb.z).b).length : Nat) : Int)]))), Own (tI .u8) 5 v2 ((B ++ (cs.getD i Pb.z).b).drop (64 * k))]) [[], [0], [0, 1], [], [3], [3, 4], [3, 4, 5], [0, 1, 2, 3, 4, 5, 6]] F40 rfl (by kernel_rfl) (H10.drew) ?_ ?_
   ·
    refine ⟨?_, ?_, ?_, ?_, ?_, ?_, ?_, ?_, trivial⟩
    ·
     intro done1 val1 ac w hJ hi hA hD hP FD
     have d7 : done1 7 = false := hD 7 (by decide)
     rw [if_pos (wanted_none rfl)]
     exact Does.of (v := .pointer (some ⟨p, 0, none⟩)) (w' := w) (x_move rfl (FD.ev rfl)) ⟨rfl, hJ⟩
    ·
     intro done1 val1 ac w hJ hi hA hD hP FD
     have q41 : val1 0 = .pointer (some ⟨p, 0, none⟩) := hP 0 (by decide) _ rfl
     have d7 : done1 7 = false := hD 7 (by decide)
     rw [if_pos (wanted_none rfl)]
     exact Does.of (v := .pointer (some ⟨p, 0, none⟩)) (w' := w) (x_nil rfl ((FD.ev rfl).trans q41)) ⟨rfl, hJ⟩
    ·
     intro done1 val1 ac w hJ hi hA hD hP FD
     have q42 : val1 1 = .pointer (some ⟨p, 0, none⟩) := hP 1 (by decide) _ rfl
     have d7 : done1 7 = false := hD 7 (by decide)
     rw [if_pos (wanted_none rfl)]
     exact Does.of (v := .pointer (some ⟨p, 0, none⟩)) (w' := w) (x_fa rfl Tryd.underlying42 rfl Tryd.sizeOf39 ((FD.ev rfl).trans q42) rfl) ⟨rfl, hJ⟩
    ·
     intro done1 val1 ac w hJ hi hA hD hP FD
     have d7 : done1 7 = false := hD 7 (by decide)
     rw [if_pos (wanted_none rfl)]
     exact Does.of (v := .pointer (some ⟨p, 0, none⟩)) (w' := w) (x_move rfl (FD.ev rfl)) ⟨rfl, hJ⟩
    ·
     intro done1 val1 ac w hJ hi hA hD hP FD
     have q44 : val1 3 = .pointer (some ⟨p, 0, none⟩) := hP 3 (by decide) _ rfl
     have d7 : done1 7 = false := hD 7 (by decide)
     rw [if_pos (wanted_none rfl)]
     exact Does.of (v := .pointer (some ⟨p, 0, none⟩)) (w' := w) (x_nil rfl ((FD.ev rfl).trans q44)) ⟨rfl, hJ⟩
    ·
     intro done1 val1 ac w hJ hi hA hD hP FD
     have q45 : val1 4 = .pointer (some ⟨p, 0, none⟩) := hP 4 (by decide) _ rfl
     have d7 : done1 7 = false := hD 7 (by decide)
     rw [if_pos (wanted_none rfl)]
     exact Does.of (v := .pointer (some ⟨p, 9, none⟩)) (w' := w) (x_fa rfl Tryd.underlying42 rfl Tryd.sizeOf22 ((FD.ev rfl).trans q45) rfl) ⟨rfl, hJ⟩
    ·
     intro done1 val1 ac w hJ hi hA hD hP FD
     have q46 : val1 5 = .pointer (some ⟨p, 9, none⟩) := hP 5 (by decide) _ rfl
     have d7 : done1 7 = false := hD 7 (by decide)
     rw [if_pos (wanted_none rfl)]
     have HD : Holds w f [Pt p 42 (ar .u32 (blks keysL (B ++ (cs.getD i Pb.z).b) beginL k) ++ [.bool true, v2, .int .u64 (((B ++ (cs.getD i Pb.z).b).length : Nat) : Int)]), Own (tI .u8) 5 v2 ((B ++ (cs.getD i Pb.z).b).drop (64 * k))] := by simpa only [d7, cond_true, cond_false] using hJ
     exact Does.of (v := v2) (w' := w) (x_ld rfl Tryd.isAgg22 ((FD.ev rfl).trans q46) (HD.ptCell (i := 0) rfl (ar_tl (j := 1) (by (try simp only [List.length_set]); omega) rfl))) ⟨rfl, hJ⟩
    ·
     intro done1 val1 ac w hJ hi hA hD hP FD
     have q43 : val1 2 = .pointer (some ⟨p, 0, none⟩) := hP 2 (by decide) _ rfl
     have q47 : val1 6 = v2 := hP 6 (by decide) _ rfl
     rw [if_pos (wanted_none rfl)]
     have HD : Holds w f [Pt p 42 (ar .u32 (blks keysL (B ++ (cs.getD i Pb.z).b) beginL k) ++ [.bool true, v2, .int .u64 (((B ++ (cs.getD i Pb.z).b).length : Nat) : Int)]), Own (tI .u8) 5 v2 ((B ++ (cs.getD i Pb.z).b).drop (64 * k))] := by simpa only [hi, cond_true, cond_false] using hJ
     obtain ⟨fk3, lek3, Hck3, hok3, hbk3⟩ := Holds.split [Pt p 42 (ar .u32 (blks keysL (B ++ (cs.getD i Pb.z).b) beginL k) ++ [.bool true, v2, .int .u64 (((B ++ (cs.getD i Pb.z).b).length : Nat) : Int)])] [Own (tI .u8) 5 v2 ((B ++ (cs.getD i Pb.z).b).drop (64 * k))] HD
     refine (d_call (args := #[.pointer (some ⟨p, 0, none⟩), v2]) rfl rfl (map2 ((FD.ev rfl).trans q43) ((FD.ev rfl).trans q47)) Tryd.call20 (Block_spec Hck3 (Own.rd (hok3 _ (mem_get (i := 0) rfl))) (hG.mono lek3.hp) hBk hl8 hw8 (by omega))).mono ?_
     rintro _ w11 ⟨rfl, H11⟩
     replace H11 : Holds w11 f [Pt p 42 (ar .u32 (blk keysL ((B ++ (cs.getD i Pb.z).b).drop (64 * k)) (blks keysL (B ++ (cs.getD i Pb.z).b) beginL k) 0) ++ [.bool true, v2, .int .u64 (((B ++ (cs.getD i Pb.z).b).length : Nat) : Int)]), Own (tI .u8) 5 v2 ((B ++ (cs.getD i Pb.z).b).drop (64 * k))] := hbk3 _ [Pt p 42 (ar .u32 (blk keysL ((B ++ (cs.getD i Pb.z).b).drop (64 * k)) (blks keysL (B ++ (cs.getD i Pb.z).b) beginL k) 0) ++ [.bool true, v2, .int .u64 (((B ++ (cs.getD i Pb.z).b).length : Nat) : Int)])] H11
     clear hbk3 hok3 Hck3 lek3
     refine ⟨rfl, ?_⟩
     have HE := (H11).pick [0, 1] (by decide)
     simp only [upd_same, updv_same, cond_true, cond_false]
     exact HE
   intro done1 val1 ac41 w12 hd1 H12 hp1 F41
   replace H12 : Holds w12 f [Pt p 42 (ar .u32 (blk keysL ((B ++ (cs.getD i Pb.z).b).drop (64 * k)) (blks keysL (B ++ (cs.getD i Pb.z).b) beginL k) 0) ++ [.bool true, v2, .int .u64 (((B ++ (cs.getD i Pb.z).b).length : Nat) : Int)]), Own (tI .u8) 5 v2 ((B ++ (cs.getD i Pb.z).b).drop (64 * k))] := by simpa only [hd1 7 (by decide), cond_true, cond_false] using H12
   replace F41 := F41.re [(0, .pointer (some ⟨p, 0, none⟩)), (10, pv), (11, .int .i64 (cs.length : Int)), (12, .int .i64 (i : Int)), (35, .pointer (some ⟨p, 0, none⟩)), (36, .pointer (some ⟨p, 0, none⟩)), (37, .pointer (some ⟨p, 9, none⟩)), (38, v2), (39, .int .i64 ((((B ++ (cs.getD i Pb.z).b).drop (64 * k)).length : Nat) : Int)), (40, .bool true)] ⟨F41.get rfl, F41.get rfl, F41.get rfl, F41.get rfl, F41.get rfl, F41.get rfl, F41.get rfl, F41.get rfl, F41.get rfl, F41.get rfl, trivial⟩
   clear F40 H10 hp1
   refine then_n ?_
   refine wp_region_lit ?_
   have hbk : (blk keysL ((B ++ (cs.getD i Pb.z).b).drop (64 * k)) (blks keysL (B ++ (cs.getD i Pb.z).b) beginL k) 0).length = 8 := rfl
   refine go_val (v := .pointer (some ⟨p, 0, none⟩)) F41 (wanted_none rfl) rfl (by decide) (x_move rfl (F41.ev rfl)) fun ac42 F42 => ?_
   clear F41
   refine go_val (v := .pointer (some ⟨p, 0, none⟩)) F42 (wanted_none rfl) rfl (by decide) (x_move rfl (F42.ev rfl)) fun ac43 F43 => ?_
   clear F42
   refine go_val (v := .pointer (some ⟨p, 0, none⟩)) F43 (wanted_none rfl) rfl (by decide) (x_nil rfl (F43.ev rfl)) fun ac44 F44 => ?_
   clear F43
   refine go_val (v := .pointer (some ⟨p, 9, none⟩)) F44 (wanted_none rfl) rfl (by decide) (x_fa rfl Tryd.underlying42 rfl Tryd.sizeOf22 (F44.ev rfl) rfl) fun ac45 F45 => ?_
   clear F44
   refine go_val (v := v2) F45 (wanted_none rfl) rfl (by decide) (x_ld rfl Tryd.isAgg22 (F45.ev rfl) (H12.ptCell (i := 0) rfl (ar_tl (j := 1) (by (try simp only [List.length_set]); omega) rfl))) fun ac46 F46 => ?_
   clear F45
   refine go_val (v := (sl v2 64 ((B ++ (cs.getD i Pb.z).b).drop (64 * k)).length 1)) F46 (wanted_none rfl) rfl (by decide) (x_slL (lo := 64) (H12.own (i := 1) rfl) rfl Tryd.underlying22 Tryd.sizeOf5 (F46.ev rfl) rfl (by omega)) fun ac47 F47 => ?_
   clear F46
   refine go_val (v := .pointer (some ⟨p, 0, none⟩)) F47 (wanted_none rfl) rfl (by decide) (x_nil rfl (F47.ev rfl)) fun ac48 F48 => ?_
   clear F47
   refine go_val (v := .pointer (some ⟨p, 9, none⟩)) F48 (wanted_none rfl) rfl (by decide) (x_fa rfl Tryd.underlying42 rfl Tryd.sizeOf22 (F48.ev rfl) rfl) fun ac49 F49 => ?_
   clear F48
   refine go_any F49 (wanted_none rfl) (fun t ht => by cases ht) (d_stTl (v := (sl v2 64 ((B ++ (cs.getD i Pb.z).b).drop (64 * k)).length 1)) (j := 1) H12 (i := 0) rfl rfl Tryd.sizeOf22 (F49.ev rfl) (F49.ev rfl) ((H12.own (i := 1) rfl).drop (lo := 64) (by omega)).one (by first | ((try simp only [List.length_set, List.length_replicate]); omega) | (simp; done)) (show (1 : Nat) < 3 by decide)) ?_
   rintro _ w13 ac50 ⟨rfl, H13⟩ F50
   replace H13 : Holds w13 f [Pt p 42 (ar .u32 (blk keysL ((B ++ (cs.getD i Pb.z).b).drop (64 * k)) (blks keysL (B ++ (cs.getD i Pb.z).b) beginL k) 0) ++ [.bool true, (sl v2 64 ((B ++ (cs.getD i Pb.z).b).drop (64 * k)).length 1), .int .u64 (((B ++ (cs.getD i Pb.z).b).length : Nat) : Int)]), Own (tI .u8) 5 v2 ((B ++ (cs.getD i Pb.z).b).drop (64 * k))] := H13
   clear F49 H12
   refine wpList_nil ?_
   refine inb_n ?_
   refine then_n ?_
   have H14 : Holds w13 f [Pt p 42 (ar .u32 (blk keysL ((B ++ (cs.getD i Pb.z).b).drop (64 * k)) (blks keysL (B ++ (cs.getD i Pb.z).b) beginL k) 0) ++ [.bool true, (sl v2 64 ((B ++ (cs.getD i Pb.z).b).drop (64 * k)).length 1), .int .u64 (((B ++ (cs.getD i Pb.z).b).length : Nat) : Int)]), Own (tI .u8) 5 (sl v2 64 ((B ++ (cs.getD i Pb.z).b).drop (64 * k)).length 1) (((B ++ (cs.getD i Pb.z).b).drop (64 * k)).drop 64)] := H13.later (i := 1) (lo := 64) rfl (by omega)
   clear H13
   have H15 := H14
   have H16 : Holds w13 f [Pt p 42 (ar .u32 (blks keysL (B ++ (cs.getD i Pb.z).b) beginL (k + 1)) ++ [.bool true, (sl v2 64 ((B ++ (cs.getD i Pb.z).b).drop (64 * k)).length 1), .int .u64 (((B ++ (cs.getD i Pb.z).b).length : Nat) : Int)]), Own (tI .u8) 5 (sl v2 64 ((B ++ (cs.getD i Pb.z).b).drop (64 * k)).length 1) ((B ++ (cs.getD i Pb.z).b).drop (64 * (k + 1)))] := by rw [← blks_step, show (B ++ (cs.getD i Pb.z).b).drop (64 * (k + 1)) = ((B ++ (cs.getD i Pb.z).b).drop (64 * k)).drop 64 by rw [List.drop_drop]; rfl]; exact H15
   exact ⟨((B ++ (cs.getD i Pb.z).b).length - 64 * ((k + 1))), by omega, (k + 1), (sl v2 64 ((B ++ (cs.getD i Pb.z).b).drop (64 * k)).length 1), F50.re _ ⟨F50.get rfl, F50.get rfl, F50.get rfl, F50.get rfl, trivial⟩, H16, by first | omega | (rw [List.length_append]; omega), rfl⟩
  ·
   have h40 : ¬ (64 ≤ ((((B ++ (cs.getD i Pb.z).b).drop (64 * k)).length : Nat) : Int)) := of_decide_eq_false hb40
   replace F40 := F40.say 40 (.bool false) ((F40.get rfl).trans (congrArg Value.bool hb40))
   refine wp_cond_false (F40.ev rfl) ?_
   refine wp_exit ?_
   refine then_e ?_
   refine then_e ?_
   refine inb_hit ?_
   refine inb_n ?_
   refine then_n ?_
   refine wp_region_lit ?_
   refine go_val (v := .int .i64 ((i : Int) + 1)) F40 (wanted_none rfl) rfl (by decide) (x_add (Z := ((i : Int) + 1)) rfl Tryd.underlying3 (F40.ev rfl) rfl (wr_i64 (by omega))) fun ac51 F51 => ?_
   clear F40
   refine go_val (v := .int .i64 ((i : Int) + 1)) F51 (wanted_none rfl) rfl (by decide) (x_move rfl (F51.ev rfl)) fun ac52 F52 => ?_
   clear F51
   refine wpList_nil ?_
   refine then_n ?_
   have H17 := H10
   have H18 : Holds w10 f [Pt p 42 (ar .u32 (hw (B ++ (cs.getD i Pb.z).b)) ++ [.bool true, v2, .int .u64 (((B ++ (cs.getD i Pb.z).b).length : Nat) : Int)]), Own (tI .u8) 5 v2 (hr (B ++ (cs.getD i Pb.z).b))] := by obtain ⟨e1, e2⟩ := hw_end (B := (B ++ (cs.getD i Pb.z).b)) (k := k) (by omega) (by omega); rw [← e1, ← e2]; exact H17
   exact ⟨(cs.length - ((i + 1))), by omega, (i + 1), v2, (B ++ (cs.getD i Pb.z).b), F52.re _ ⟨F52.get rfl, F52.get rfl, F52.get rfl, (F52.get rfl).trans (ieq (by omega)), trivial⟩, H18, by omega, by first | (rw [List.take_zero, jn_nil, List.append_nil]; done) | (rw [jn_take (by omega), ← List.append_assoc, ← hp1_0]), by first | exact hBA | exact hp2_0.app (hBc _ (mem_getD (by omega))), rfl⟩
 ·
  have h13 : ¬ ((i : Int) < (cs.length : Int)) := of_decide_eq_false hb13
  replace F9 := F9.say 13 (.bool false) ((F9.get rfl).trans (congrArg Value.bool hb13))
  refine wp_cond_false (F9.ev rfl) ?_
  refine wp_exit ?_
  refine then_e ?_
  refine then_e ?_
  refine inb_hit ?_
  refine c_end (v := .tuple #[]) F9 (res0 Tryd.results13) ?_
  have e : B = A ++ jn cs := by rw [hp1_0, jn_all (by omega)]
  subst e
  exact ⟨_, rfl, H4⟩
end Go.Proofs.YtiehijephkagbaaDoor.Sha
