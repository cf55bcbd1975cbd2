/- Walks. -/
import Derived.Test.YtiehijephkagbaaDoorZShaPartsShA
import Derived.Test.YtiehijephkagbaaDoorZShaPartsEqa
import Derived.Test.YtiehijephkagbaaDoorZShaPartsShO
import Derived.Test.YtiehijephkagbaaDoorZShaPartsShB
import Derived.Test.YtiehijephkagbaaDoorZShaPartsShL
namespace Go.Proofs.YtiehijephkagbaaDoor.Sha
open Go.RowKit Go.Proofs.YtiehijephkagbaaDoor.Sl
set_option linter.unusedVariables false
set_option linter.unusedSimpArgs false
theorem eqg25 : Tryd.prog.eqGuardType Tryd.prog.depth 25 = false := by kernel_rfl
set_option maxRecDepth 100000 in
set_option maxHeartbeats 4000000 in
theorem ShaParts_law {w : World} {f : Fm} {pv : Value} {l : List Pb} (H0 : Holds w f []) (hG : GL f.hp) (hl : Rd tPb f.hp pv l) (hin : ∀ c ∈ l, Rd (tI .u8) f.hp c.s.v c.b) (hBc : ∀ c ∈ l, By c.b) :
  Calls Tryd.prog 6 #[pv] w (Rt fun r w' => r = .bool true ∧ Holds w' f []) := by
 have hmx := hl.max
 have hBj := jn_by hBc
 have hs8 : beginL.length = 8 := rfl
 have hsw : ∀ x ∈ beginL, W32 x := begin_w
 have hk64 : keysL.length = 64 := rfl
 have hol0 : (hashL keysL beginL (jn l)).length = 32 := outs_len _ _
 refine c_enter Tryd.func6 rfl Tryd.ntmps6 (show (1 : Nat) ≤ 69 by decide) fun ac0 F0 => ?_
 replace F0 := F0.re [(0, pv)] ⟨F0.get rfl, trivial⟩
 refine wp_seq ?_
 refine wp_region_lit ?_
 refine go_val (v := .bool false) F0 (wanted_none rfl) rfl (by decide) (x_assign rfl rfl) fun ac1 F1 => ?_
 clear F0
 refine wpList_nil ?_
 refine then_n ?_
 refine wp_seq ?_
 refine wp_seq ?_
 refine wp_region_lit ?_
 obtain ⟨fk1, lek1, Hck1, hok1, hbk1⟩ := Holds.split [] [] H0
 refine go_any F1 (wanted_none rfl) (fun t ht => by cases ht; decide) (d_call (args := #[]) rfl rfl (map0) Tryd.call8 (Awake_spec Hck1 (hG.mono lek1.hp))) ?_
 rintro _ w1 ac2 ⟨rfl, H1⟩ F2
 replace H1 : Holds w1 f [] := hbk1 _ [] H1
 clear hbk1 hok1 Hck1 lek1
 clear F1 H0
 refine go_val (v := .bool false) F2 (wanted_none rfl) rfl (by decide) (x_not (b := true) rfl (F2.ev rfl)) fun ac3 F3 => ?_
 clear F2
 refine go_val (v := .bool false) F3 (wanted_none rfl) rfl (by decide) (x_move rfl (F3.ev rfl)) fun ac4 F4 => ?_
 clear F3
 refine go_val (v := pv) F4 (wanted_some (j := 2) (t := 10) (b := false) (c := false) rfl rfl rfl (F4.get rfl)) rfl (by decide) (x_move rfl (F4.ev rfl)) fun ac5 F5 => ?_
 clear F4
 obtain ⟨fk2, lek2, Hck2, hok2, hbk2⟩ := Holds.split [] [] H1
 refine go_any F5 (wanted_some (j := 2) (t := 10) (b := false) (c := false) rfl rfl rfl (F5.get rfl)) (fun t ht => by cases ht; decide) (d_call (args := #[pv]) rfl rfl (map1 (F5.ev rfl)) Tryd.call11 (Long_spec Hck2 (hl.mono lek2.hp) (fun c hc => (hin c hc).mono lek2.hp))) ?_
 rintro _ w2 ac6 ⟨b3, rfl, H2, hlgk2⟩ F6
 replace H2 : Holds w2 f [] := hbk2 _ [] H2
 clear hbk2 hok2 Hck2 lek2
 clear F5 H1
 refine go_val (v := .bool b3) F6 (wanted_none rfl) rfl (by decide) (x_pickF rfl (F6.ev rfl) (F6.ev rfl)) fun ac7 F7 => ?_
 clear F6
 refine wpList_nil ?_
 refine then_n ?_
 refine b_split (b3) (fun hb13 => ?_) (fun hb13 => ?_)
 ·
  have h13 := hb13
  replace F7 := F7.say 12 (.bool true) ((F7.get rfl).trans (congrArg Value.bool hb13))
  replace F7 := F7.say 13 (.bool true) ((F7.get rfl).trans (congrArg Value.bool hb13))
  refine wp_cond_true (F7.ev rfl) ?_
  refine wp_seq ?_
  refine wp_region_lit ?_
  obtain ⟨fk4, lek4, Hck4, hok4, hbk4⟩ := Holds.split [] [] H2
  refine go_any F7 (wanted_none rfl) (fun t ht => by cases ht; decide) (d_call (args := #[]) rfl rfl (map0) Tryd.call8 (Awake_spec Hck4 (hG.mono lek4.hp))) ?_
  rintro _ w3 ac8 ⟨rfl, H3⟩ F8
  replace H3 : Holds w3 f [] := hbk4 _ [] H3
  clear hbk4 hok4 Hck4 lek4
  clear F7 H2
  refine go_val (v := .bool true) F8 (wanted_none rfl) rfl (by decide) (x_assign rfl (F8.ev rfl)) fun ac9 F9 => ?_
  clear F8
  refine wpList_nil ?_
  refine then_n ?_
  refine wp_ret ?_
  refine then_r ?_
  refine c_ret (v := .bool true) F9 (res1 Tryd.results6 (F9.get rfl)) ?_
  exact ⟨rfl, H3.pick [] List.nodup_nil⟩
 ·
  have h13 := hb13
  replace F7 := F7.say 12 (.bool false) ((F7.get rfl).trans (congrArg Value.bool hb13))
  replace F7 := F7.say 13 (.bool false) ((F7.get rfl).trans (congrArg Value.bool hb13))
  refine wp_cond_false (F7.ev rfl) ?_
  refine wp_skip ?_
  refine then_n ?_
  refine wp_seq ?_
  refine wp_region_lit ?_
  obtain ⟨fk5, lek5, Hck5, hok5, hbk5⟩ := Holds.split [] [] H2
  refine go_any F7 (wanted_none rfl) (fun t ht => by cases ht; decide) (d_call (args := #[]) rfl rfl (map0) Tryd.call12 (Tables_spec Hck5 )) ?_
  rintro _ w4 ac10 ⟨v6, u7, rfl, H4⟩ F10
  replace H4 : Holds w4 f [Own (tI .u32) 36 v6 beginL, Own (tI .u32) 36 u7 keysL] := hbk5 _ [Own (tI .u32) 36 v6 beginL, Own (tI .u32) 36 u7 keysL] H4
  clear hbk5 hok5 Hck5 lek5
  clear F7 H2
  refine go_val (v := .tuple #[v6, u7]) F10 (wanted_none rfl) rfl (by decide) (x_move rfl (F10.ev rfl)) fun ac11 F11 => ?_
  clear F10
  refine go_val (v := v6) F11 (wanted_none rfl) rfl (by decide) (x_ext rfl (F11.ev rfl) rfl) fun ac12 F12 => ?_
  clear F11
  refine go_val (v := u7) F12 (wanted_none rfl) rfl (by decide) (x_ext rfl (F12.ev rfl) rfl) fun ac13 F13 => ?_
  clear F12
  refine go_val (v := v6) F13 (wanted_none rfl) rfl (by decide) (x_assign rfl (F13.ev rfl)) fun ac14 F14 => ?_
  clear F13
  refine go_val (v := u7) F14 (wanted_none rfl) rfl (by decide) (x_assign rfl (F14.ev rfl)) fun ac15 F15 => ?_
  clear F14
  refine wpList_nil ?_
  refine then_n ?_
  refine wp_seq ?_
  refine wp_region_lit ?_
  refine go_any F15 (wanted_none rfl) (fun t ht => by cases ht; decide) (d_alloc H4 rfl Tryd.zeroValue42) ?_
  rintro _ w5 ac16 ⟨p8, rfl, H5⟩ F16
  replace H5 : Holds w5 f [Pt p8 42 (ar .u32 (List.replicate 8 0) ++ [.bool false, (.slice none 0 0), .int .u64 0]), Own (tI .u32) 36 v6 beginL, Own (tI .u32) 36 u7 keysL] := H5
  clear F15 H4
  refine wpList_nil ?_
  refine then_n ?_
  refine wp_seq ?_
  refine wp_region_lit ?_
  refine go_val (v := (.slice none 0 0)) F16 (wanted_none rfl) rfl (by decide) (x_assign rfl rfl) fun ac17 F17 => ?_
  clear F16
  refine wpList_nil ?_
  refine then_n ?_
  refine wp_seq ?_
  refine wp_seq ?_
  refine wp_region_lit ?_
  refine go_val (v := .int .i64 0) F17 (wanted_none rfl) rfl (by decide) (x_assign rfl rfl) fun ac18 F18 => ?_
  clear F17
  refine wpList_nil ?_
  refine then_n ?_
  refine wp_block ?_
  have hlong := hlgk2 (by first | exact h13 | simpa using h13)
  have H6 := H5.nilOwn (tI .u8) 5
  have H7 := H6.nilOwn (tI .u8) 5
  have H8 : Holds w5 f [Pt p8 42 (ar .u32 (List.replicate 8 0) ++ [.bool false, (.slice none 0 0), .int .u64 0]), Own (tI .u32) 36 v6 beginL, Own (tI .u32) 36 u7 keysL, Own (tI .u8) 5 (.slice none 0 0) ([]), Own (tI .u8) 5 (.slice none 0 0) ([])] := H7.pick [2, 3, 4, 1, 0] (by decide)
  have H9 : Holds w5 f [Pt p8 42 (ar .u32 (List.replicate 8 0) ++ [.bool false, (.slice none 0 0), .int .u64 (((jn (l.take 0)).length : Nat) : Int)]), Own (tI .u32) 36 v6 beginL, Own (tI .u32) 36 u7 keysL, Own (tI .u8) 5 (.slice none 0 0) (hr (jn (l.take 0))), Own (tI .u8) 5 (.slice none 0 0) (jn (l.take 0))] := by rw [List.take_zero, jn_nil]; exact H8
  refine c_loop (fun mm ac w => ∃ i : Nat, ∃ v80 : Value, ∃ v : Value, ∃ r0 : Bool, ∃ xs : List Int, Fr ac 69 [(0, pv), (3, v6), (4, u7), (5, .pointer (some ⟨p8, 0, none⟩)), (6, v80), (7, .int .i64 (i : Int))] ∧ Holds w f [Pt p8 42 (ar .u32 xs ++ [.bool r0, v, .int .u64 (((jn (l.take i)).length : Nat) : Int)]), Own (tI .u32) 36 v6 beginL, Own (tI .u32) 36 u7 keysL, Own (tI .u8) 5 v (hr (jn (l.take i))), Own (tI .u8) 5 v80 (jn (l.take i))] ∧ (i ≤ l.length) ∧ ((if r0 then xs else beginL) = hw (jn (l.take i))) ∧ (xs.length = 8) ∧ (By (jn (l.take i))) ∧ mm = (l.length - (i))) (l.length - (0)) ⟨0, (.slice none 0 0), (.slice none 0 0), false, (List.replicate 8 0), F18.re _ ⟨F18.get rfl, F18.get rfl, F18.get rfl, F18.get rfl, F18.get rfl, F18.get rfl, trivial⟩, H9, by omega, by first | (rw [List.take_zero]; exact hw_nil.symm) | (rw [jn_take (by omega)]; rfl), by first | rfl | exact hw_len _, by first | (rw [List.take_zero]; exact By.nil) | (rw [jn_take (by omega)]; exact hBA.app (hBc _ (mem_getD (by omega)))), rfl⟩ ?_
  clear F18 H7 H9
  rintro mm ac19 w10 ⟨i, v80, v, r0, xs, F19, H10, hp0_0, hp1_0, hp2_0, hp3_0, rfl⟩
  have hxA := hp1_0
  have hlx := hp2_0
  have hBA := hp3_0
  have hle : i < l.length → (jn (l.take i)).length + ((l.getD i Pb.z).b).length ≤ (jn l).length := fun h => jn_le h
  have hBi : i < l.length → By ((l.getD i Pb.z).b) := fun h => hBc _ (mem_getD h)
  refine wp_seq ?_
  refine wp_seq ?_
  refine wp_region_lit ?_
  refine go_val (v := .int .i64 (i : Int)) F19 (wanted_none rfl) rfl (by decide) (x_move rfl (F19.ev rfl)) fun ac20 F20 => ?_
  clear F19
  refine go_val (v := pv) F20 (wanted_none rfl) rfl (by decide) (x_move rfl (F20.ev rfl)) fun ac21 F21 => ?_
  clear F20
  refine go_val (v := .int .i64 (l.length : Int)) F21 (wanted_none rfl) rfl (by decide) (x_len (H10.rd hl) rfl (F21.ev rfl) Tryd.underlying31) fun ac22 F22 => ?_
  clear F21
  refine go_val (v := .bool (decide ((i : Int) < (l.length : Int)))) F22 (wanted_none rfl) rfl (by decide) (x_lss rfl Tryd.underlying3 (F22.ev rfl) (F22.ev rfl)) fun ac23 F23 => ?_
  clear F22
  refine wpList_nil ?_
  refine then_n ?_
  refine b_split ((decide ((i : Int) < (l.length : Int)))) (fun hb22 => ?_) (fun hb22 => ?_)
  ·
   have h22 : (i : Int) < (l.length : Int) := of_decide_eq_true hb22
   replace F23 := F23.say 22 (.bool true) ((F23.get rfl).trans (congrArg Value.bool hb22))
   refine wp_cond_true (F23.ev rfl) ?_
   refine wp_skip ?_
   refine then_n ?_
   refine wp_seq ?_
   refine wp_block ?_
   refine wp_seq ?_
   refine wp_region_lit ?_
   have hlei := hle (by omega)
   have hBx := hBi (by omega)
   have hBax := hBA.app hBx
   have hlax : (jn (l.take i) ++ (l.getD i Pb.z).b).length = (jn (l.take i)).length + ((l.getD i Pb.z).b).length := List.length_append
   have hol0 : (hashL keysL beginL (jn (l.take i) ++ (l.getD i Pb.z).b)).length = 32 := outs_len _ _
   refine go_val (v := pv) F23 (wanted_none rfl) rfl (by decide) (x_move rfl (F23.ev rfl)) fun ac24 F24 => ?_
   clear F23
   refine go_val (v := .int .i64 (i : Int)) F24 (wanted_none rfl) rfl (by decide) (x_move rfl (F24.ev rfl)) fun ac25 F25 => ?_
   clear F24
   refine go_val (v := .pointer (some (elp pv (i * 1)))) F25 (wanted_none rfl) rfl (by decide) (x_ixa (i := i) (H10.rd hl) rfl Tryd.underlying31 Tryd.sizeOf22 (F25.ev rfl) (F25.ev rfl) (by omega) (by omega)) fun ac26 F26 => ?_
   clear F25
   refine go_val (v := ((l.getD i Pb.z).s.v)) F26 (wanted_none rfl) rfl (by decide) (x_ld rfl Tryd.isAgg22 (F26.ev rfl) ((H10.rd hl).cw (i := i) (j := 0) (getD_get Pb.z (by omega)) rfl)) fun ac27 F27 => ?_
   clear F26
   refine go_any F27 (wanted_none rfl) (fun t ht => by cases ht; decide) (d_bs (n := 1) (cs := #[((l.getD i Pb.z).s.v)]) (z0 := (.slice none 0 0)) tPb ([⟨(l.getD i Pb.z).s, ((l.getD i Pb.z).b)⟩] : List Pb) H10 rfl Tryd.underlying31 Tryd.type22 rfl rfl rfl (by decide) (by simp only [List.map_cons, List.map_nil, show Act.eval ac27 (.tmp 28) = ((l.getD i Pb.z).s.v) from (F27.ev rfl)]; kernel_rfl) rfl) ?_
   rintro v9 w11 ac28 H11 F28
   clear F27 H10
   have H12 : Holds w11 f [Pt p8 42 (ar .u32 xs ++ [.bool r0, v, .int .u64 (((jn (l.take i)).length : Nat) : Int)]), Own (tI .u8) 5 v (hr (jn (l.take i))), Own tPb 22 v9 ([⟨(l.getD i Pb.z).s, ((l.getD i Pb.z).b)⟩] : List Pb), Own (tI .u32) 36 v6 beginL, Own (tI .u32) 36 u7 keysL, Own (tI .u8) 5 v80 (jn (l.take i))] := H11.pick [1, 4, 0, 2, 3, 5] (by decide)
   clear H11
   obtain ⟨fk10, lek10, Hck10, hok10, hbk10⟩ := Holds.split [Pt p8 42 (ar .u32 xs ++ [.bool r0, v, .int .u64 (((jn (l.take i)).length : Nat) : Int)]), Own (tI .u8) 5 v (hr (jn (l.take i)))] [Own tPb 22 v9 ([⟨(l.getD i Pb.z).s, ((l.getD i Pb.z).b)⟩] : List Pb), Own (tI .u32) 36 v6 beginL, Own (tI .u32) 36 u7 keysL, Own (tI .u8) 5 v80 (jn (l.take i))] H12
   refine go_any F28 (wanted_none rfl) (fun t ht => by cases ht; decide) (d_call (args := #[.pointer (some ⟨p8, 0, none⟩), v9]) rfl rfl (map2 (F28.ev rfl) (F28.ev rfl)) Tryd.call13 (Write_spec (A := (jn (l.take i))) (X := ((l.getD i Pb.z).b)) Hck10 (hG.mono lek10.hp) (Own.rd (hok10 _ (mem_get (i := 0) rfl))) (by intro c hc; simp only [List.mem_cons, List.not_mem_nil, or_false] at hc; first | (subst hc <;> first | exact ((hin _ (mem_getD (by omega))).mono lek10.hp)) | (rcases hc with rfl | rfl <;> first | exact ((hin _ (mem_getD (by omega))).mono lek10.hp)) | (rcases hc with rfl | rfl | rfl <;> first | exact ((hin _ (mem_getD (by omega))).mono lek10.hp))) (by intro c hc; simp only [List.mem_cons, List.not_mem_nil, or_false] at hc; rcases hc with rfl <;> first | assumption | exact By.nil) (by simp [jn]) (by first | assumption | exact By.nil) (by first | exact hw_len _ | exact hl | exact hlx | rfl) hxA (by first | omega | (simp only [List.length_append, List.length_nil]; omega)))) ?_
   rintro _ w13 ac29 ⟨v11, rfl, H13⟩ F29
   replace H13 : Holds w13 f [Pt p8 42 (ar .u32 (hw ((jn (l.take i)) ++ ((l.getD i Pb.z).b))) ++ [.bool true, v11, .int .u64 ((((jn (l.take i)) ++ ((l.getD i Pb.z).b)).length : Nat) : Int)]), Own (tI .u8) 5 v11 (hr ((jn (l.take i)) ++ ((l.getD i Pb.z).b))), Own tPb 22 v9 ([⟨(l.getD i Pb.z).s, ((l.getD i Pb.z).b)⟩] : List Pb), Own (tI .u32) 36 v6 beginL, Own (tI .u32) 36 u7 keysL, Own (tI .u8) 5 v80 (jn (l.take i))] := hbk10 _ [Pt p8 42 (ar .u32 (hw ((jn (l.take i)) ++ ((l.getD i Pb.z).b))) ++ [.bool true, v11, .int .u64 ((((jn (l.take i)) ++ ((l.getD i Pb.z).b)).length : Nat) : Int)]), Own (tI .u8) 5 v11 (hr ((jn (l.take i)) ++ ((l.getD i Pb.z).b)))] H13
   clear hbk10 hok10 Hck10 lek10
   have HE13 := H13
   replace H13 : Holds w13 f [Pt p8 42 (ar .u32 (hw ((jn (l.take i)) ++ ((l.getD i Pb.z).b))) ++ [.bool true, v11, .int .u64 ((((jn (l.take i)) ++ ((l.getD i Pb.z).b)).length : Nat) : Int)]), Own (tI .u8) 5 v11 (hr ((jn (l.take i)) ++ ((l.getD i Pb.z).b))), Own tPb 22 v9 ([⟨(l.getD i Pb.z).s, ((l.getD i Pb.z).b)⟩] : List Pb), Own (tI .u32) 36 v6 beginL, Own (tI .u32) 36 u7 keysL, Own (tI .u8) 5 v80 (jn (l.take i))] := by first | exact HE13 | simpa only [List.nil_append, List.append_nil] using HE13
   clear HE13
   clear F28 H12
   refine wpList_nil ?_
   refine then_n ?_
   refine wp_seq ?_
   refine wp_region_lit ?_
   refine go_val (v := v80) F29 (wanted_none rfl) rfl (by decide) (x_move rfl (F29.ev rfl)) fun ac30 F30 => ?_
   clear F29
   refine go_val (v := pv) F30 (wanted_none rfl) rfl (by decide) (x_move rfl (F30.ev rfl)) fun ac31 F31 => ?_
   clear F30
   refine go_val (v := .int .i64 (i : Int)) F31 (wanted_none rfl) rfl (by decide) (x_move rfl (F31.ev rfl)) fun ac32 F32 => ?_
   clear F31
   refine go_val (v := .pointer (some (elp pv (i * 1)))) F32 (wanted_none rfl) rfl (by decide) (x_ixa (i := i) (H13.rd hl) rfl Tryd.underlying31 Tryd.sizeOf22 (F32.ev rfl) (F32.ev rfl) (by omega) (by omega)) fun ac33 F33 => ?_
   clear F32
   refine go_val (v := ((l.getD i Pb.z).s.v)) F33 (wanted_none rfl) rfl (by decide) (x_ld rfl Tryd.isAgg22 (F33.ev rfl) ((H13.rd hl).cw (i := i) (j := 0) (getD_get Pb.z (by omega)) rfl)) fun ac34 F34 => ?_
   clear F33
   refine go_any F34 (wanted_none rfl) (fun t ht => by cases ht; decide) (d_app (zb := 1) (u := ((l.getD i Pb.z).s.v)) (ys := ((l.getD i Pb.z).b)) H13 (i := 5) rfl (H13.rd (hin _ (mem_getD (by omega)))) rfl (F34.ev rfl) (F34.ev rfl) Tryd.underlying22 Tryd.type5 rfl rfl rfl rfl (by first | omega | (simp only [List.length_cons, List.length_nil]; omega) | (simp; omega)) (by decide)) ?_
   rintro v12 w14 ac35 H14 F35
   replace H14 : Holds w14 f [Pt p8 42 (ar .u32 (hw ((jn (l.take i)) ++ ((l.getD i Pb.z).b))) ++ [.bool true, v11, .int .u64 ((((jn (l.take i)) ++ ((l.getD i Pb.z).b)).length : Nat) : Int)]), Own (tI .u8) 5 v11 (hr ((jn (l.take i)) ++ ((l.getD i Pb.z).b))), Own tPb 22 v9 ([⟨(l.getD i Pb.z).s, ((l.getD i Pb.z).b)⟩] : List Pb), Own (tI .u32) 36 v6 beginL, Own (tI .u32) 36 u7 keysL, Own (tI .u8) 5 v12 ((jn (l.take i)) ++ ((l.getD i Pb.z).b))] := H14
   clear F34 H13
   refine go_val (v := v12) F35 (wanted_none rfl) rfl (by decide) (x_assign rfl (F35.ev rfl)) fun ac36 F36 => ?_
   clear F35
   refine wpList_nil ?_
   refine then_n ?_
   refine wp_seq ?_
   refine wp_region_lit ?_
   obtain ⟨fk13, lek13, Hck13, hok13, hbk13⟩ := Holds.split [Pt p8 42 (ar .u32 (hw ((jn (l.take i)) ++ ((l.getD i Pb.z).b))) ++ [.bool true, v11, .int .u64 ((((jn (l.take i)) ++ ((l.getD i Pb.z).b)).length : Nat) : Int)])] [Own (tI .u8) 5 v11 (hr ((jn (l.take i)) ++ ((l.getD i Pb.z).b))), Own tPb 22 v9 ([⟨(l.getD i Pb.z).s, ((l.getD i Pb.z).b)⟩] : List Pb), Own (tI .u32) 36 v6 beginL, Own (tI .u32) 36 u7 keysL, Own (tI .u8) 5 v12 ((jn (l.take i)) ++ ((l.getD i Pb.z).b))] H14
   refine go_any F36 (wanted_none rfl) (fun t ht => by cases ht; decide) (d_call (args := #[.pointer (some ⟨p8, 0, none⟩)]) rfl rfl (map1 (F36.ev rfl)) Tryd.call14 (Len_spec (hl := by first | exact hw_len _ | rfl) Hck13 )) ?_
   rintro _ w15 ac37 ⟨rfl, H15⟩ F37
   replace H15 : Holds w15 f [Pt p8 42 (ar .u32 (hw ((jn (l.take i)) ++ ((l.getD i Pb.z).b))) ++ [.bool true, v11, .int .u64 ((((jn (l.take i)) ++ ((l.getD i Pb.z).b)).length : Nat) : Int)]), Own (tI .u8) 5 v11 (hr ((jn (l.take i)) ++ ((l.getD i Pb.z).b))), Own tPb 22 v9 ([⟨(l.getD i Pb.z).s, ((l.getD i Pb.z).b)⟩] : List Pb), Own (tI .u32) 36 v6 beginL, Own (tI .u32) 36 u7 keysL, Own (tI .u8) 5 v12 ((jn (l.take i)) ++ ((l.getD i Pb.z).b))] := hbk13 _ [Pt p8 42 (ar .u32 (hw ((jn (l.take i)) ++ ((l.getD i Pb.z).b))) ++ [.bool true, v11, .int .u64 ((((jn (l.take i)) ++ ((l.getD i Pb.z).b)).length : Nat) : Int)])] H15
   clear hbk13 hok13 Hck13 lek13
   clear F36 H14
   refine go_val (v := v12) F37 (wanted_none rfl) rfl (by decide) (x_move rfl (F37.ev rfl)) fun ac38 F38 => ?_
   clear F37
   refine go_val (v := .int .i64 ((((jn (l.take i)) ++ ((l.getD i Pb.z).b)).length : Nat) : Int)) F38 (wanted_none rfl) rfl (by decide) (x_len (H15.own (i := 5) rfl) rfl (F38.ev rfl) Tryd.underlying22) fun ac39 F39 => ?_
   clear F38
   refine go_val (v := .int .u64 ((((jn (l.take i)) ++ ((l.getD i Pb.z).b)).length : Nat) : Int)) F39 (wanted_none rfl) rfl (by decide) (x_cvI (Z := ((((jn (l.take i)) ++ ((l.getD i Pb.z).b)).length : Nat) : Int)) rfl Tryd.underlying3 Tryd.underlying40 (F39.ev rfl) (wr_u64 (by omega))) fun ac40 F40 => ?_
   clear F39
   refine go_val (v := .bool (decide (((((jn (l.take i)) ++ ((l.getD i Pb.z).b)).length : Nat) : Int) ≠ ((((jn (l.take i)) ++ ((l.getD i Pb.z).b)).length : Nat) : Int)))) F40 (wanted_none rfl) rfl (by decide) (x_neq rfl Tryd.underlying40 (F40.ev rfl) (F40.ev rfl)) fun ac41 F41 => ?_
   clear F40
   refine go_val (v := .bool (decide (((((jn (l.take i)) ++ ((l.getD i Pb.z).b)).length : Nat) : Int) ≠ ((((jn (l.take i)) ++ ((l.getD i Pb.z).b)).length : Nat) : Int)))) F41 (wanted_none rfl) rfl (by decide) (x_move rfl (F41.ev rfl)) fun ac42 F42 => ?_
   clear F41
   have h42 : ¬ (((((jn (l.take i)) ++ ((l.getD i Pb.z).b)).length : Nat) : Int) ≠ ((((jn (l.take i)) ++ ((l.getD i Pb.z).b)).length : Nat) : Int)) := by exact fun h => h rfl
   replace F42 := F42.say 41 (.bool false) ((F42.get rfl).trans (congrArg Value.bool (decide_eq_false h42)))
   replace F42 := F42.say 42 (.bool false) ((F42.get rfl).trans (congrArg Value.bool (decide_eq_false h42)))
   refine go_val (v := .int .i64 (i : Int)) F42 (wanted_some (j := 5) (t := 42) (b := false) (c := false) rfl rfl rfl (F42.get rfl)) rfl (by decide) (x_move rfl (F42.ev rfl)) fun ac43 F43 => ?_
   clear F42
   refine go_val (v := .int .i64 ((i : Int) % 4)) F43 (wanted_some (j := 5) (t := 42) (b := false) (c := false) rfl rfl rfl (F43.get rfl)) rfl (by decide) (x_rem (Z := ((i : Int) % 4)) rfl Tryd.underlying3 (F43.ev rfl) rfl (by omega) (rem_nn (by omega))) fun ac44 F44 => ?_
   clear F43
   refine go_val (v := .bool (decide (((i : Int) % 4) = 0))) F44 (wanted_some (j := 5) (t := 42) (b := false) (c := false) rfl rfl rfl (F44.get rfl)) rfl (by decide) (x_eql rfl Tryd.underlying3 (F44.ev rfl) rfl) fun ac45 F45 => ?_
   clear F44
   refine go_val (v := .bool (decide (((i : Int) % 4) = 0))) F45 (wanted_some (j := 5) (t := 42) (b := false) (c := false) rfl rfl rfl (F45.get rfl)) rfl (by decide) (x_move rfl (F45.ev rfl)) fun ac46 F46 => ?_
   clear F45
   refine b_split ((decide (((i : Int) % 4) = 0))) (fun hb46 => ?_) (fun hb46 => ?_)
   ·
    have h46 : ((i : Int) % 4) = 0 := of_decide_eq_true hb46
    replace F46 := F46.say 45 (.bool true) ((F46.get rfl).trans (congrArg Value.bool hb46))
    replace F46 := F46.say 46 (.bool true) ((F46.get rfl).trans (congrArg Value.bool hb46))
    obtain ⟨fk14, lek14, Hck14, hok14, hbk14⟩ := Holds.split [Pt p8 42 (ar .u32 (hw ((jn (l.take i)) ++ ((l.getD i Pb.z).b))) ++ [.bool true, v11, .int .u64 ((((jn (l.take i)) ++ ((l.getD i Pb.z).b)).length : Nat) : Int)]), Own (tI .u8) 5 v11 (hr ((jn (l.take i)) ++ ((l.getD i Pb.z).b)))] [Own tPb 22 v9 ([⟨(l.getD i Pb.z).s, ((l.getD i Pb.z).b)⟩] : List Pb), Own (tI .u32) 36 v6 beginL, Own (tI .u32) 36 u7 keysL, Own (tI .u8) 5 v12 ((jn (l.take i)) ++ ((l.getD i Pb.z).b))] H15
    refine go_any F46 (wanted_some (j := 9) (t := 46) (b := true) (c := true) rfl rfl rfl (F46.get rfl)) (fun t ht => by cases ht; decide) (d_call (args := #[.pointer (some ⟨p8, 0, none⟩)]) rfl rfl (map1 (F46.ev rfl)) Tryd.call15 (Sum_spec (A := ((jn (l.take i)) ++ ((l.getD i Pb.z).b))) Hck14 (hG.mono lek14.hp) (by first | assumption | exact By.nil) (by first | exact hw_len _ | exact hl | exact hlx | rfl) (by rfl) (by omega))) ?_
    rintro _ w16 ac47 ⟨rfl, H16⟩ F47
    replace H16 : Holds w16 f [Pt p8 42 (ar .u32 (hw ((jn (l.take i)) ++ ((l.getD i Pb.z).b))) ++ [.bool true, v11, .int .u64 ((((jn (l.take i)) ++ ((l.getD i Pb.z).b)).length : Nat) : Int)]), Own (tI .u8) 5 v11 (hr ((jn (l.take i)) ++ ((l.getD i Pb.z).b))), Own tPb 22 v9 ([⟨(l.getD i Pb.z).s, ((l.getD i Pb.z).b)⟩] : List Pb), Own (tI .u32) 36 v6 beginL, Own (tI .u32) 36 u7 keysL, Own (tI .u8) 5 v12 ((jn (l.take i)) ++ ((l.getD i Pb.z).b))] := hbk14 _ [Pt p8 42 (ar .u32 (hw ((jn (l.take i)) ++ ((l.getD i Pb.z).b))) ++ [.bool true, v11, .int .u64 ((((jn (l.take i)) ++ ((l.getD i Pb.z).b)).length : Nat) : Int)]), Own (tI .u8) 5 v11 (hr ((jn (l.take i)) ++ ((l.getD i Pb.z).b)))] H16
    clear hbk14 hok14 Hck14 lek14
    clear F46 H15
    refine go_val (v := v12) F47 (wanted_some (j := 9) (t := 46) (b := true) (c := true) rfl rfl rfl (F47.get rfl)) rfl (by decide) (x_move rfl (F47.ev rfl)) fun ac48 F48 => ?_
    clear F47
    refine go_val (v := v6) F48 (wanted_some (j := 9) (t := 46) (b := true) (c := true) rfl rfl rfl (F48.get rfl)) rfl (by decide) (x_move rfl (F48.ev rfl)) fun ac49 F49 => ?_
    clear F48
    refine go_val (v := u7) F49 (wanted_some (j := 9) (t := 46) (b := true) (c := true) rfl rfl rfl (F49.get rfl)) rfl (by decide) (x_move rfl (F49.ev rfl)) fun ac50 F50 => ?_
    clear F49
    obtain ⟨fk15, lek15, Hck15, hok15, hbk15⟩ := Holds.split [] [Pt p8 42 (ar .u32 (hw ((jn (l.take i)) ++ ((l.getD i Pb.z).b))) ++ [.bool true, v11, .int .u64 ((((jn (l.take i)) ++ ((l.getD i Pb.z).b)).length : Nat) : Int)]), Own (tI .u8) 5 v11 (hr ((jn (l.take i)) ++ ((l.getD i Pb.z).b))), Own tPb 22 v9 ([⟨(l.getD i Pb.z).s, ((l.getD i Pb.z).b)⟩] : List Pb), Own (tI .u32) 36 v6 beginL, Own (tI .u32) 36 u7 keysL, Own (tI .u8) 5 v12 ((jn (l.take i)) ++ ((l.getD i Pb.z).b))] H16
    refine go_any F50 (wanted_some (j := 9) (t := 46) (b := true) (c := true) rfl rfl rfl (F50.get rfl)) (fun t ht => by cases ht; decide) (d_call (args := #[v12, v6, u7]) rfl rfl (map3 (F50.ev rfl) (F50.ev rfl) (F50.ev rfl)) Tryd.call16 (ROf_spec Hck15 (Own.rd (hok15 _ (mem_get (i := 5) rfl))) (Own.rd (hok15 _ (mem_get (i := 3) rfl))) (Own.rd (hok15 _ (mem_get (i := 4) rfl))) (by assumption) (by first | assumption | omega) hs8 hsw hk64)) ?_
    rintro _ w17 ac51 ⟨rfl, H17⟩ F51
    replace H17 : Holds w17 f [Pt p8 42 (ar .u32 (hw ((jn (l.take i)) ++ ((l.getD i Pb.z).b))) ++ [.bool true, v11, .int .u64 ((((jn (l.take i)) ++ ((l.getD i Pb.z).b)).length : Nat) : Int)]), Own (tI .u8) 5 v11 (hr ((jn (l.take i)) ++ ((l.getD i Pb.z).b))), Own tPb 22 v9 ([⟨(l.getD i Pb.z).s, ((l.getD i Pb.z).b)⟩] : List Pb), Own (tI .u32) 36 v6 beginL, Own (tI .u32) 36 u7 keysL, Own (tI .u8) 5 v12 ((jn (l.take i)) ++ ((l.getD i Pb.z).b))] := hbk15 _ [] H17
    clear hbk15 hok15 Hck15 lek15
    clear F50 H16
    refine go_val (v := .bool (decide (¬ ((hashL keysL beginL ((jn (l.take i)) ++ ((l.getD i Pb.z).b))) = (hashL keysL beginL ((jn (l.take i)) ++ ((l.getD i Pb.z).b))))))) F51 (wanted_some (j := 9) (t := 46) (b := true) (c := true) rfl rfl rfl (F51.get rfl)) rfl (by decide) (x_neA rfl eqg25 (F51.ev rfl) (F51.ev rfl) (q_arr Tryd.underlying25 Tryd.type5 (by kernel_rfl) Tryd.underlying5 Tryd.isAgg5 (by first | exact outs_len _ _ | assumption) (by first | exact outs_len _ _ | assumption))) fun ac52 F52 => ?_
    clear F51
    refine go_val (v := .bool (decide (¬ ((hashL keysL beginL ((jn (l.take i)) ++ ((l.getD i Pb.z).b))) = (hashL keysL beginL ((jn (l.take i)) ++ ((l.getD i Pb.z).b))))))) F52 (wanted_some (j := 5) (t := 42) (b := false) (c := false) rfl rfl rfl (F52.get rfl)) rfl (by decide) (x_pickT rfl (F52.ev rfl) (F52.ev rfl)) fun ac53 F53 => ?_
    clear F52
    refine go_val (v := .bool (decide (¬ ((hashL keysL beginL ((jn (l.take i)) ++ ((l.getD i Pb.z).b))) = (hashL keysL beginL ((jn (l.take i)) ++ ((l.getD i Pb.z).b))))))) F53 (wanted_none rfl) rfl (by decide) (x_pickF rfl (F53.ev rfl) (F53.ev rfl)) fun ac54 F54 => ?_
    clear F53
    refine wpList_nil ?_
    refine then_n ?_
    have h54 : ¬ (¬ ((hashL keysL beginL ((jn (l.take i)) ++ ((l.getD i Pb.z).b))) = (hashL keysL beginL ((jn (l.take i)) ++ ((l.getD i Pb.z).b))))) := by exact fun h => h rfl
    replace F54 := F54.say 52 (.bool false) ((F54.get rfl).trans (congrArg Value.bool (decide_eq_false h54)))
    replace F54 := F54.say 53 (.bool false) ((F54.get rfl).trans (congrArg Value.bool (decide_eq_false h54)))
    replace F54 := F54.say 54 (.bool false) ((F54.get rfl).trans (congrArg Value.bool (decide_eq_false h54)))
    refine wp_cond_false (F54.ev rfl) ?_
    refine wp_skip ?_
    refine inb_n ?_
    refine then_n ?_
    refine wp_region_lit ?_
    refine go_val (v := .int .i64 (i : Int)) F54 (wanted_none rfl) rfl (by decide) (x_move rfl (F54.ev rfl)) fun ac55 F55 => ?_
    clear F54
    refine go_val (v := .int .i64 ((i : Int) + 1)) F55 (wanted_none rfl) rfl (by decide) (x_add (Z := ((i : Int) + 1)) rfl Tryd.underlying3 (F55.ev rfl) rfl (wr_i64 (by omega))) fun ac56 F56 => ?_
    clear F55
    refine go_val (v := .int .i64 ((i : Int) + 1)) F56 (wanted_none rfl) rfl (by decide) (x_assign rfl (F56.ev rfl)) fun ac57 F57 => ?_
    clear F56
    refine wpList_nil ?_
    refine then_n ?_
    have H18 : Holds w17 f [Pt p8 42 (ar .u32 (hw ((jn (l.take i)) ++ ((l.getD i Pb.z).b))) ++ [.bool true, v11, .int .u64 ((((jn (l.take i)) ++ ((l.getD i Pb.z).b)).length : Nat) : Int)]), Own (tI .u32) 36 v6 beginL, Own (tI .u32) 36 u7 keysL, Own (tI .u8) 5 v11 (hr ((jn (l.take i)) ++ ((l.getD i Pb.z).b))), Own (tI .u8) 5 v12 ((jn (l.take i)) ++ ((l.getD i Pb.z).b))] := H17.pick [0, 3, 4, 1, 5] (by decide)
    have H19 : Holds w17 f [Pt p8 42 (ar .u32 (hw ((jn (l.take i)) ++ ((l.getD i Pb.z).b))) ++ [.bool true, v11, .int .u64 (((jn (l.take (i + 1))).length : Nat) : Int)]), Own (tI .u32) 36 v6 beginL, Own (tI .u32) 36 u7 keysL, Own (tI .u8) 5 v11 (hr (jn (l.take (i + 1)))), Own (tI .u8) 5 v12 (jn (l.take (i + 1)))] := by rw [jn_take (by omega)]; exact H18
    exact ⟨(l.length - ((i + 1))), by omega, (i + 1), v12, v11, true, (hw ((jn (l.take i)) ++ ((l.getD i Pb.z).b))), F57.re _ ⟨F57.get rfl, F57.get rfl, F57.get rfl, F57.get rfl, F57.get rfl, (F57.get rfl).trans (ieq (by omega)), trivial⟩, H19, by omega, by first | (rw [List.take_zero]; exact hw_nil.symm) | (rw [jn_take (by omega)]; rfl), by first | rfl | exact hw_len _, by first | (rw [List.take_zero]; exact By.nil) | (rw [jn_take (by omega)]; exact hBA.app (hBc _ (mem_getD (by omega)))), rfl⟩
   ·
    have h46 : ¬ (((i : Int) % 4) = 0) := of_decide_eq_false hb46
    replace F46 := F46.say 45 (.bool false) ((F46.get rfl).trans (congrArg Value.bool hb46))
    replace F46 := F46.say 46 (.bool false) ((F46.get rfl).trans (congrArg Value.bool hb46))
    refine go_pass F46 (wanted_some (j := 9) (t := 46) (b := false) (c := true) rfl rfl rfl (F46.get rfl)) (fun t ht => by cases ht; decide) fun ac58 F58 => ?_
    clear F46
    refine go_pass F58 (wanted_some (j := 9) (t := 46) (b := false) (c := true) rfl rfl rfl (F58.get rfl)) (fun t ht => by cases ht; decide) fun ac59 F59 => ?_
    clear F58
    refine go_pass F59 (wanted_some (j := 9) (t := 46) (b := false) (c := true) rfl rfl rfl (F59.get rfl)) (fun t ht => by cases ht; decide) fun ac60 F60 => ?_
    clear F59
    refine go_pass F60 (wanted_some (j := 9) (t := 46) (b := false) (c := true) rfl rfl rfl (F60.get rfl)) (fun t ht => by cases ht; decide) fun ac61 F61 => ?_
    clear F60
    refine go_pass F61 (wanted_some (j := 9) (t := 46) (b := false) (c := true) rfl rfl rfl (F61.get rfl)) (fun t ht => by cases ht; decide) fun ac62 F62 => ?_
    clear F61
    refine go_pass F62 (wanted_some (j := 9) (t := 46) (b := false) (c := true) rfl rfl rfl (F62.get rfl)) (fun t ht => by cases ht; decide) fun ac63 F63 => ?_
    clear F62
    refine go_val (v := .bool false) F63 (wanted_some (j := 5) (t := 42) (b := false) (c := false) rfl rfl rfl (F63.get rfl)) rfl (by decide) (x_pickF rfl (F63.ev rfl) rfl) fun ac64 F64 => ?_
    clear F63
    refine go_val (v := .bool false) F64 (wanted_none rfl) rfl (by decide) (x_pickF rfl (F64.ev rfl) (F64.ev rfl)) fun ac65 F65 => ?_
    clear F64
    refine wpList_nil ?_
    refine then_n ?_
    refine wp_cond_false (F65.ev rfl) ?_
    refine wp_skip ?_
    refine inb_n ?_
    refine then_n ?_
    refine wp_region_lit ?_
    refine go_val (v := .int .i64 (i : Int)) F65 (wanted_none rfl) rfl (by decide) (x_move rfl (F65.ev rfl)) fun ac66 F66 => ?_
    clear F65
    refine go_val (v := .int .i64 ((i : Int) + 1)) F66 (wanted_none rfl) rfl (by decide) (x_add (Z := ((i : Int) + 1)) rfl Tryd.underlying3 (F66.ev rfl) rfl (wr_i64 (by omega))) fun ac67 F67 => ?_
    clear F66
    refine go_val (v := .int .i64 ((i : Int) + 1)) F67 (wanted_none rfl) rfl (by decide) (x_assign rfl (F67.ev rfl)) fun ac68 F68 => ?_
    clear F67
    refine wpList_nil ?_
    refine then_n ?_
    have H20 : Holds w15 f [Pt p8 42 (ar .u32 (hw ((jn (l.take i)) ++ ((l.getD i Pb.z).b))) ++ [.bool true, v11, .int .u64 ((((jn (l.take i)) ++ ((l.getD i Pb.z).b)).length : Nat) : Int)]), Own (tI .u32) 36 v6 beginL, Own (tI .u32) 36 u7 keysL, Own (tI .u8) 5 v11 (hr ((jn (l.take i)) ++ ((l.getD i Pb.z).b))), Own (tI .u8) 5 v12 ((jn (l.take i)) ++ ((l.getD i Pb.z).b))] := H15.pick [0, 3, 4, 1, 5] (by decide)
    have H21 : Holds w15 f [Pt p8 42 (ar .u32 (hw ((jn (l.take i)) ++ ((l.getD i Pb.z).b))) ++ [.bool true, v11, .int .u64 (((jn (l.take (i + 1))).length : Nat) : Int)]), Own (tI .u32) 36 v6 beginL, Own (tI .u32) 36 u7 keysL, Own (tI .u8) 5 v11 (hr (jn (l.take (i + 1)))), Own (tI .u8) 5 v12 (jn (l.take (i + 1)))] := by rw [jn_take (by omega)]; exact H20
    exact ⟨(l.length - ((i + 1))), by omega, (i + 1), v12, v11, true, (hw ((jn (l.take i)) ++ ((l.getD i Pb.z).b))), F68.re _ ⟨F68.get rfl, F68.get rfl, F68.get rfl, F68.get rfl, F68.get rfl, (F68.get rfl).trans (ieq (by omega)), trivial⟩, H21, by omega, by first | (rw [List.take_zero]; exact hw_nil.symm) | (rw [jn_take (by omega)]; rfl), by first | rfl | exact hw_len _, by first | (rw [List.take_zero]; exact By.nil) | (rw [jn_take (by omega)]; exact hBA.app (hBc _ (mem_getD (by omega)))), rfl⟩
  ·
   have h22 : ¬ ((i : Int) < (l.length : Int)) := of_decide_eq_false hb22
   replace F23 := F23.say 22 (.bool false) ((F23.get rfl).trans (congrArg Value.bool hb22))
   refine wp_cond_false (F23.ev rfl) ?_
   refine wp_exit ?_
   refine then_e ?_
   refine then_e ?_
   refine inb_hit ?_
   refine then_n ?_
   refine wp_seq ?_
   refine wp_region_lit ?_
   have e : (jn (l.take i)) = jn l := jn_all (by omega)
   rw [e] at H10
   rw [e] at hxA
   rw [e] at hBA
   refine go_val (v := pv) F23 (wanted_none rfl) rfl (by decide) (x_move rfl (F23.ev rfl)) fun ac69 F69 => ?_
   clear F23
   obtain ⟨fk16, lek16, Hck16, hok16, hbk16⟩ := Holds.split [] [Pt p8 42 (ar .u32 xs ++ [.bool r0, v, .int .u64 (((jn l).length : Nat) : Int)]), Own (tI .u32) 36 v6 beginL, Own (tI .u32) 36 u7 keysL, Own (tI .u8) 5 v (hr (jn l)), Own (tI .u8) 5 v80 (jn l)] H10
   refine go_any F69 (wanted_none rfl) (fun t ht => by cases ht; decide) (d_call (args := #[pv]) rfl rfl (map1 (F69.ev rfl)) Tryd.call9 (Of_spec (X := (jn l)) Hck16 (hG.mono lek16.hp) (hl.mono lek16.hp) (fun c hc => (hin c hc).mono lek16.hp) hBc rfl (by first | omega | (simp only [List.length_append, List.length_nil]; omega)))) ?_
   rintro _ w22 ac70 ⟨rfl, H22⟩ F70
   replace H22 : Holds w22 f [Pt p8 42 (ar .u32 xs ++ [.bool r0, v, .int .u64 (((jn l).length : Nat) : Int)]), Own (tI .u32) 36 v6 beginL, Own (tI .u32) 36 u7 keysL, Own (tI .u8) 5 v (hr (jn l)), Own (tI .u8) 5 v80 (jn l)] := hbk16 _ [] H22
   clear hbk16 hok16 Hck16 lek16
   clear F69 H10
   refine go_val (v := v80) F70 (wanted_none rfl) rfl (by decide) (x_move rfl (F70.ev rfl)) fun ac71 F71 => ?_
   clear F70
   refine go_val (v := v6) F71 (wanted_none rfl) rfl (by decide) (x_move rfl (F71.ev rfl)) fun ac72 F72 => ?_
   clear F71
   refine go_val (v := u7) F72 (wanted_none rfl) rfl (by decide) (x_move rfl (F72.ev rfl)) fun ac73 F73 => ?_
   clear F72
   obtain ⟨fk17, lek17, Hck17, hok17, hbk17⟩ := Holds.split [] [Pt p8 42 (ar .u32 xs ++ [.bool r0, v, .int .u64 (((jn l).length : Nat) : Int)]), Own (tI .u32) 36 v6 beginL, Own (tI .u32) 36 u7 keysL, Own (tI .u8) 5 v (hr (jn l)), Own (tI .u8) 5 v80 (jn l)] H22
   refine go_any F73 (wanted_none rfl) (fun t ht => by cases ht; decide) (d_call (args := #[v80, v6, u7]) rfl rfl (map3 (F73.ev rfl) (F73.ev rfl) (F73.ev rfl)) Tryd.call16 (ROf_spec Hck17 (Own.rd (hok17 _ (mem_get (i := 4) rfl))) (Own.rd (hok17 _ (mem_get (i := 1) rfl))) (Own.rd (hok17 _ (mem_get (i := 2) rfl))) (by assumption) (by first | assumption | omega) hs8 hsw hk64)) ?_
   rintro _ w23 ac74 ⟨rfl, H23⟩ F74
   replace H23 : Holds w23 f [Pt p8 42 (ar .u32 xs ++ [.bool r0, v, .int .u64 (((jn l).length : Nat) : Int)]), Own (tI .u32) 36 v6 beginL, Own (tI .u32) 36 u7 keysL, Own (tI .u8) 5 v (hr (jn l)), Own (tI .u8) 5 v80 (jn l)] := hbk17 _ [] H23
   clear hbk17 hok17 Hck17 lek17
   clear F73 H22
   refine go_val (v := .bool (decide ((hashL keysL beginL (jn l)) = (hashL keysL beginL (jn l))))) F74 (wanted_none rfl) rfl (by decide) (x_eqA rfl eqg25 (F74.ev rfl) (F74.ev rfl) (q_arr Tryd.underlying25 Tryd.type5 (by kernel_rfl) Tryd.underlying5 Tryd.isAgg5 (by first | exact outs_len _ _ | assumption) (by first | exact outs_len _ _ | assumption))) fun ac75 F75 => ?_
   clear F74
   refine go_val (v := .bool (decide ((hashL keysL beginL (jn l)) = (hashL keysL beginL (jn l))))) F75 (wanted_none rfl) rfl (by decide) (x_move rfl (F75.ev rfl)) fun ac76 F76 => ?_
   clear F75
   have h62 : (hashL keysL beginL (jn l)) = (hashL keysL beginL (jn l)) := by rfl
   replace F76 := F76.say 61 (.bool true) ((F76.get rfl).trans (congrArg Value.bool (decide_eq_true h62)))
   replace F76 := F76.say 62 (.bool true) ((F76.get rfl).trans (congrArg Value.bool (decide_eq_true h62)))
   have H24 : Holds w23 f [Pt p8 42 (ar .u32 xs ++ [.bool r0, v, .int .u64 (((jn l).length : Nat) : Int)]), Own (tI .u8) 5 v (hr (jn l)), Own (tI .u32) 36 v6 beginL, Own (tI .u32) 36 u7 keysL, Own (tI .u8) 5 v80 (jn l)] := H23.pick [0, 3, 1, 2, 4] (by decide)
   clear H23
   obtain ⟨fk18, lek18, Hck18, hok18, hbk18⟩ := Holds.split [Pt p8 42 (ar .u32 xs ++ [.bool r0, v, .int .u64 (((jn l).length : Nat) : Int)]), Own (tI .u8) 5 v (hr (jn l))] [Own (tI .u32) 36 v6 beginL, Own (tI .u32) 36 u7 keysL, Own (tI .u8) 5 v80 (jn l)] H24
   refine go_any F76 (wanted_some (j := 7) (t := 62) (b := true) (c := true) rfl rfl rfl (F76.get rfl)) (fun t ht => by cases ht; decide) (d_call (args := #[.pointer (some ⟨p8, 0, none⟩)]) rfl rfl (map1 (F76.ev rfl)) Tryd.call15 (Sum_spec (A := (jn l)) Hck18 (hG.mono lek18.hp) (by first | assumption | exact By.nil) (by first | exact hw_len _ | exact hl | exact hlx | rfl) hxA (by omega))) ?_
   rintro _ w25 ac77 ⟨rfl, H25⟩ F77
   replace H25 : Holds w25 f [Pt p8 42 (ar .u32 xs ++ [.bool r0, v, .int .u64 (((jn l).length : Nat) : Int)]), Own (tI .u8) 5 v (hr (jn l)), Own (tI .u32) 36 v6 beginL, Own (tI .u32) 36 u7 keysL, Own (tI .u8) 5 v80 (jn l)] := hbk18 _ [Pt p8 42 (ar .u32 xs ++ [.bool r0, v, .int .u64 (((jn l).length : Nat) : Int)]), Own (tI .u8) 5 v (hr (jn l))] H25
   clear hbk18 hok18 Hck18 lek18
   clear F76 H24
   refine go_val (v := v80) F77 (wanted_some (j := 7) (t := 62) (b := true) (c := true) rfl rfl rfl (F77.get rfl)) rfl (by decide) (x_move rfl (F77.ev rfl)) fun ac78 F78 => ?_
   clear F77
   obtain ⟨s80, rfl⟩ := (H25.own (i := 4) rfl).sv
   refine go_any F78 (wanted_some (j := 7) (t := 62) (b := true) (c := true) rfl rfl rfl (F78.get rfl)) (fun t ht => by cases ht; decide) (d_bs (n := 1) (cs := #[s80.v]) (z0 := (.slice none 0 0)) tPb ([⟨s80, (jn l)⟩] : List Pb) H25 rfl Tryd.underlying31 Tryd.type22 rfl rfl rfl (by decide) (by simp only [List.map_cons, List.map_nil, show Act.eval ac78 (.tmp 64) = s80.v from (F78.ev rfl)]; kernel_rfl) rfl) ?_
   rintro v19 w26 ac79 H26 F79
   clear F78 H25
   obtain ⟨fk20, lek20, Hck20, hok20, hbk20⟩ := Holds.split [] [Own tPb 22 v19 ([⟨s80, (jn l)⟩] : List Pb), Pt p8 42 (ar .u32 xs ++ [.bool r0, v, .int .u64 (((jn l).length : Nat) : Int)]), Own (tI .u8) 5 v (hr (jn l)), Own (tI .u32) 36 v6 beginL, Own (tI .u32) 36 u7 keysL, Own (tI .u8) 5 s80.v (jn l)] H26
   refine go_any F79 (wanted_some (j := 7) (t := 62) (b := true) (c := true) rfl rfl rfl (F79.get rfl)) (fun t ht => by cases ht; decide) (d_call (args := #[v19]) rfl rfl (map1 (F79.ev rfl)) Tryd.call9 (Of_spec (X := (jn l)) Hck20 (hG.mono lek20.hp) (Own.rd (hok20 _ (mem_get (i := 0) rfl))) (by intro c hc; simp only [List.mem_cons, List.not_mem_nil, or_false] at hc; first | (subst hc <;> first | exact (Own.rd (hok20 _ (mem_get (i := 5) rfl)))) | (rcases hc with rfl | rfl <;> first | exact (Own.rd (hok20 _ (mem_get (i := 5) rfl)))) | (rcases hc with rfl | rfl | rfl <;> first | exact (Own.rd (hok20 _ (mem_get (i := 5) rfl))))) (by intro c hc; simp only [List.mem_cons, List.not_mem_nil, or_false] at hc; rcases hc with rfl <;> first | assumption | exact By.nil) (by simp [jn]) (by first | omega | (simp only [List.length_append, List.length_nil]; omega)))) ?_
   rintro _ w27 ac80 ⟨rfl, H27⟩ F80
   replace H27 : Holds w27 f [Own tPb 22 v19 ([⟨s80, (jn l)⟩] : List Pb), Pt p8 42 (ar .u32 xs ++ [.bool r0, v, .int .u64 (((jn l).length : Nat) : Int)]), Own (tI .u8) 5 v (hr (jn l)), Own (tI .u32) 36 v6 beginL, Own (tI .u32) 36 u7 keysL, Own (tI .u8) 5 s80.v (jn l)] := hbk20 _ [] H27
   clear hbk20 hok20 Hck20 lek20
   clear F79 H26
   refine go_val (v := .bool (decide ((hashL keysL beginL (jn l)) = (hashL keysL beginL (jn l))))) F80 (wanted_some (j := 7) (t := 62) (b := true) (c := true) rfl rfl rfl (F80.get rfl)) rfl (by decide) (x_eqA rfl eqg25 (F80.ev rfl) (F80.ev rfl) (q_arr Tryd.underlying25 Tryd.type5 (by kernel_rfl) Tryd.underlying5 Tryd.isAgg5 (by first | exact outs_len _ _ | assumption) (by first | exact outs_len _ _ | assumption))) fun ac81 F81 => ?_
   clear F80
   refine go_val (v := .bool (decide ((hashL keysL beginL (jn l)) = (hashL keysL beginL (jn l))))) F81 (wanted_none rfl) rfl (by decide) (x_pickT rfl (F81.ev rfl) (F81.ev rfl)) fun ac82 F82 => ?_
   clear F81
   refine go_val (v := .bool (decide ((hashL keysL beginL (jn l)) = (hashL keysL beginL (jn l))))) F82 (wanted_none rfl) rfl (by decide) (x_assign rfl (F82.ev rfl)) fun ac83 F83 => ?_
   clear F82
   refine wpList_nil ?_
   refine then_n ?_
   refine wp_ret ?_
   refine c_ret (v := .bool (decide ((hashL keysL beginL (jn l)) = (hashL keysL beginL (jn l))))) F83 (res1 Tryd.results6 (F83.get rfl)) ?_
   exact ⟨congrArg Value.bool (decide_eq_true (by first | rfl | omega)), H27.pick [] List.nodup_nil⟩
end Go.Proofs.YtiehijephkagbaaDoor.Sha
