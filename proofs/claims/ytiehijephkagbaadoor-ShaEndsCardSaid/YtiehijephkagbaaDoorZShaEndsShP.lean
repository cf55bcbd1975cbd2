/- Walks. -/
import Derived.Test.YtiehijephkagbaaDoorZShaEndsShB
import Derived.Test.YtiehijephkagbaaDoorZShaEndsShO
namespace Go.Proofs.YtiehijephkagbaaDoor.Sha
open Go.RowKit Go.Proofs.YtiehijephkagbaaDoor.Sl
set_option linter.unusedVariables false
set_option linter.unusedSimpArgs false
set_option maxRecDepth 100000 in
theorem Plain_spec {w : World} {f : Fm} {bv : Value} {b : List Int} (H0 : Holds w f []) (hb : Rd (tI .u8) f.hp bv b) (hB : By b) (hn : b.length ≤ 100000) :
  Calls Tryd.prog 10 #[bv] w (Rt fun r w' => r = .agg (ar .u8 (hashL keysL beginL b)).toArray ∧ Holds w' f []) := by
 have hs8 : beginL.length = 8 := rfl
 have hsw : ∀ x ∈ beginL, W32 x := begin_w
 have hk64 : keysL.length = 64 := rfl
 have hol : (hashL keysL beginL b).length = 32 := outs_len _ _
 refine c_enter Tryd.func10 rfl Tryd.ntmps10 (show (1 : Nat) ≤ 13 by decide) fun ac0 F0 => ?_
 replace F0 := F0.re [(0, bv)] ⟨F0.get rfl, trivial⟩
 refine wp_seq ?_
 refine wp_region_lit ?_
 refine go_any F0 (wanted_none rfl) (fun t ht => by cases ht; decide) (d_alloc H0 rfl Tryd.zeroValue25) ?_
 rintro _ w1 ac1 ⟨p1, rfl, H1⟩ F1
 replace H1 : Holds w1 f [Pt p1 25 (ar .u8 (List.replicate 32 0) ++ [])] := H1
 clear F0 H0
 refine wpList_nil ?_
 refine then_n ?_
 refine wp_seq ?_
 refine wp_region_lit ?_
 obtain ⟨fk2, lek2, Hck2, hok2, hbk2⟩ := Holds.split [] [Pt p1 25 (ar .u8 (List.replicate 32 0) ++ [])] H1
 refine go_any F1 (wanted_none rfl) (fun t ht => by cases ht; decide) (d_call (args := #[]) rfl rfl (map0) Tryd.call12 (Tables_spec Hck2 )) ?_
 rintro _ w2 ac2 ⟨v3, u4, rfl, H2⟩ F2
 replace H2 : Holds w2 f [Own (tI .u32) 36 v3 beginL, Own (tI .u32) 36 u4 keysL, Pt p1 25 (ar .u8 (List.replicate 32 0) ++ [])] := hbk2 _ [Own (tI .u32) 36 v3 beginL, Own (tI .u32) 36 u4 keysL] H2
 clear hbk2 hok2 Hck2 lek2
 clear F1 H1
 refine go_val (v := .tuple #[v3, u4]) F2 (wanted_none rfl) rfl (by decide) (x_move rfl (F2.ev rfl)) fun ac3 F3 => ?_
 clear F2
 refine go_val (v := v3) F3 (wanted_none rfl) rfl (by decide) (x_ext rfl (F3.ev rfl) rfl) fun ac4 F4 => ?_
 clear F3
 refine go_val (v := u4) F4 (wanted_none rfl) rfl (by decide) (x_ext rfl (F4.ev rfl) rfl) fun ac5 F5 => ?_
 clear F4
 refine go_val (v := v3) F5 (wanted_none rfl) rfl (by decide) (x_assign rfl (F5.ev rfl)) fun ac6 F6 => ?_
 clear F5
 refine go_val (v := u4) F6 (wanted_none rfl) rfl (by decide) (x_assign rfl (F6.ev rfl)) fun ac7 F7 => ?_
 clear F6
 refine wpList_nil ?_
 refine then_n ?_
 refine wp_seq ?_
 refine wp_region_lit ?_
 refine go_val (v := bv) F7 (wanted_none rfl) rfl (by decide) (x_move rfl (F7.ev rfl)) fun ac8 F8 => ?_
 clear F7
 refine go_val (v := v3) F8 (wanted_none rfl) rfl (by decide) (x_move rfl (F8.ev rfl)) fun ac9 F9 => ?_
 clear F8
 refine go_val (v := u4) F9 (wanted_none rfl) rfl (by decide) (x_move rfl (F9.ev rfl)) fun ac10 F10 => ?_
 clear F9
 obtain ⟨fk5, lek5, Hck5, hok5, hbk5⟩ := Holds.split [] [Own (tI .u32) 36 v3 beginL, Own (tI .u32) 36 u4 keysL, Pt p1 25 (ar .u8 (List.replicate 32 0) ++ [])] H2
 refine go_any F10 (wanted_none rfl) (fun t ht => by cases ht; decide) (d_call (args := #[bv, v3, u4]) rfl rfl (map3 (F10.ev rfl) (F10.ev rfl) (F10.ev rfl)) Tryd.call16 (ROf_spec Hck5 (hb.mono lek5.hp) (Own.rd (hok5 _ (mem_get (i := 0) rfl))) (Own.rd (hok5 _ (mem_get (i := 1) rfl))) (by assumption) (by first | assumption | omega) hs8 hsw hk64)) ?_
 rintro _ w3 ac11 ⟨rfl, H3⟩ F11
 replace H3 : Holds w3 f [Own (tI .u32) 36 v3 beginL, Own (tI .u32) 36 u4 keysL, Pt p1 25 (ar .u8 (List.replicate 32 0) ++ [])] := hbk5 _ [] H3
 clear hbk5 hok5 Hck5 lek5
 clear F10 H2
 refine go_any F11 (wanted_none rfl) (fun t ht => by cases ht) (d_stAl (k := .u8) (ys := (hashL keysL beginL b)) H3 (i := 2) rfl rfl (show ∀ w, (sizeOf 25).run Tryd.prog w = .ok ((hashL keysL beginL b) : List Int).length w from by rw [show ((hashL keysL beginL b) : List Int).length = 32 by first | ((try simp only [List.length_set]); omega) | rfl]; exact Tryd.sizeOf25) (F11.ev rfl) (F11.ev rfl) (by first | ((try simp only [List.length_set, List.length_replicate]); omega) | (simp; done))) ?_
 rintro _ w4 ac12 ⟨rfl, H4⟩ F12
 replace H4 : Holds w4 f [Own (tI .u32) 36 v3 beginL, Own (tI .u32) 36 u4 keysL, Pt p1 25 (ar .u8 (hashL keysL beginL b) ++ [])] := H4
 clear F11 H3
 refine wpList_nil ?_
 refine then_n ?_
 refine wp_ret ?_
 refine c_ret (v := .agg (ar .u8 (hashL keysL beginL b)).toArray) F12 (resR1 Tryd.results10 (.cell (F12.get rfl) (lv_agg (cs := ar .u8 (hashL keysL beginL b)) Tryd.isAgg25 (show ∀ w, (sizeOf 25).run Tryd.prog w = .ok (ar .u8 (hashL keysL beginL b)).length w from by rw [show (ar .u8 (hashL keysL beginL b)).length = 32 by rw [ar_len]; first | ((try simp only [List.length_set]); omega) | rfl]; exact Tryd.sizeOf25) (ar_cells H4 (i := 2) rfl)))) ?_
 exact ⟨rfl, H4.pick [] List.nodup_nil⟩
end Go.Proofs.YtiehijephkagbaaDoor.Sha
