/- Walks. -/
import Derived.Test.YtiehijephkagbaaDoorZShaPartsGl
import Derived.Test.YtiehijephkagbaaDoorProg
namespace Go.Proofs.YtiehijephkagbaaDoor.Sha
open Go.RowKit Go.Proofs.YtiehijephkagbaaDoor.Sl
set_option linter.unusedVariables false
set_option linter.unusedSimpArgs false
set_option maxRecDepth 100000 in
theorem Rot_spec {w : World} {f : Fm} {x : Int} {n : Nat} (H0 : Holds w f []) (hx : W32 x) (hn : 1 ≤ n ∧ n ≤ 31) :
  Calls Tryd.prog 24 #[.int .u32 x, .int .i64 (-(n : Int))] w (Rt fun r w' => r = .int .u32 (trn x n) ∧ Holds w' f []) := by
 refine c_enter Tryd.func24 rfl Tryd.ntmps24 (show (2 : Nat) ≤ 17 by decide) fun ac0 F0 => ?_
 replace F0 := F0.re [(0, .int .u32 x), (1, .int .i64 (-(n : Int)))] ⟨F0.get rfl, F0.get rfl, trivial⟩
 refine wp_seq ?_
 refine wp_region_lit ?_
 refine go_val (v := .int .u32 0) F0 (wanted_none rfl) rfl (by decide) (x_assign rfl rfl) fun ac1 F1 => ?_
 clear F0
 refine wpList_nil ?_
 refine then_n ?_
 refine wp_seq ?_
 refine wp_region_lit ?_
 refine go_val (v := .int .i64 (-(n : Int))) F1 (wanted_none rfl) rfl (by decide) (x_move rfl (F1.ev rfl)) fun ac2 F2 => ?_
 clear F1
 refine go_val (v := .int .u64 (18446744073709551616 - (n : Int))) F2 (wanted_none rfl) rfl (by decide) (x_cvI (Z := (18446744073709551616 - (n : Int))) rfl Tryd.underlying3 Tryd.underlying52 (F2.ev rfl) ((wm_u64 _).trans (by omega))) fun ac3 F3 => ?_
 clear F2
 refine go_val (v := .int .u64 ((32 - n : Nat) : Int)) F3 (wanted_none rfl) rfl (by decide) (x_and (Z := ((32 - n : Nat) : Int)) rfl Tryd.underlying52 (F3.ev rfl) rfl ((and_u64 (M := 31) (m := 5) (by omega) rfl (by decide)).trans (by omega))) fun ac4 F4 => ?_
 clear F3
 refine go_val (v := .int .u64 ((32 - n : Nat) : Int)) F4 (wanted_none rfl) rfl (by decide) (x_assign rfl (F4.ev rfl)) fun ac5 F5 => ?_
 clear F4
 refine wpList_nil ?_
 refine then_n ?_
 refine wp_seq ?_
 refine wp_region_lit ?_
 refine go_val (v := .int .u32 x) F5 (wanted_none rfl) rfl (by decide) (x_move rfl (F5.ev rfl)) fun ac6 F6 => ?_
 clear F5
 refine go_val (v := .int .u64 ((32 - n : Nat) : Int)) F6 (wanted_none rfl) rfl (by decide) (x_move rfl (F6.ev rfl)) fun ac7 F7 => ?_
 clear F6
 refine go_val (v := .int .u32 ((x * 2 ^ (32 - n)) % 4294967296)) F7 (wanted_none rfl) rfl (by decide) (x_shl (Z := ((x * 2 ^ (32 - n)) % 4294967296)) rfl Tryd.underlying36 (F7.ev rfl) (F7.ev rfl) (by omega) (by rw [Int.toNat_natCast, Nat.min_eq_left (show 32 - n ≤ IntKind.u32.bits from (by omega : 32 - n ≤ 32)), wm_u32])) fun ac8 F8 => ?_
 clear F7
 refine go_val (v := .int .u32 x) F8 (wanted_none rfl) rfl (by decide) (x_move rfl (F8.ev rfl)) fun ac9 F9 => ?_
 clear F8
 refine go_val (v := .int .u64 ((32 - n : Nat) : Int)) F9 (wanted_none rfl) rfl (by decide) (x_move rfl (F9.ev rfl)) fun ac10 F10 => ?_
 clear F9
 refine go_val (v := .int .u64 (n : Int)) F10 (wanted_none rfl) rfl (by decide) (x_sub (Z := (n : Int)) rfl Tryd.underlying52 rfl (F10.ev rfl) ((congrArg _ (show _ = ((n : Nat) : Int) by omega)).trans (wr_u64 (by omega)))) fun ac11 F11 => ?_
 clear F10
 refine go_val (v := .int .u32 (x / 2 ^ n)) F11 (wanted_none rfl) rfl (by decide) (x_shr (Z := (x / 2 ^ n)) rfl Tryd.underlying36 (F11.ev rfl) (F11.ev rfl) (by omega) (by rw [Int.toNat_natCast, Nat.min_eq_left (show n ≤ IntKind.u32.bits from (by omega : n ≤ 32))])) fun ac12 F12 => ?_
 clear F11
 refine go_val (v := .int .u32 (trn x n)) F12 (wanted_none rfl) rfl (by decide) (x_or (Z := (trn x n)) rfl Tryd.underlying36 (F12.ev rfl) (F12.ev rfl) (rot_trn hx hn.1 hn.2)) fun ac13 F13 => ?_
 clear F12
 refine go_val (v := .int .u32 (trn x n)) F13 (wanted_none rfl) rfl (by decide) (x_assign rfl (F13.ev rfl)) fun ac14 F14 => ?_
 clear F13
 refine wpList_nil ?_
 refine then_n ?_
 refine wp_ret ?_
 refine c_ret (v := .int .u32 (trn x n)) F14 (res1 Tryd.results24 (F14.get rfl)) ?_
 exact ⟨rfl, H0.pick [] List.nodup_nil⟩
set_option maxRecDepth 100000 in
theorem Start_spec {w : World} {f : Fm} {p : Nat} {xs : List Int} {r0 : Bool} {rv nv : Value} (H0 : Holds w f [Pt p 42 (ar .u32 xs ++ [.bool r0, rv, nv])]) (hG : GL f.hp) (hl : xs.length = 8) :
  Calls Tryd.prog 19 #[.pointer (some ⟨p, 0, none⟩)] w (Rt fun r w' => r = .tuple #[] ∧ Holds w' f [Pt p 42 (ar .u32 (if r0 then xs else beginL) ++ [.bool true, rv, nv])]) := by
 have hs8 : beginL.length = 8 := rfl
 refine c_enter Tryd.func19 rfl Tryd.ntmps19 (show (1 : Nat) ≤ 14 by decide) fun ac0 F0 => ?_
 replace F0 := F0.re [(0, .pointer (some ⟨p, 0, none⟩))] ⟨F0.get rfl, trivial⟩
 refine wp_seq ?_
 refine wp_region_lit ?_
 refine go_val (v := .pointer (some ⟨p, 0, none⟩)) F0 (wanted_none rfl) rfl (by decide) (x_move rfl (F0.ev rfl)) fun ac1 F1 => ?_
 clear F0
 refine go_val (v := .pointer (some ⟨p, 0, none⟩)) F1 (wanted_none rfl) rfl (by decide) (x_nil rfl (F1.ev rfl)) fun ac2 F2 => ?_
 clear F1
 refine go_val (v := .pointer (some ⟨p, 8, none⟩)) F2 (wanted_none rfl) rfl (by decide) (x_fa rfl Tryd.underlying39 rfl Tryd.sizeOf4 (F2.ev rfl) rfl) fun ac3 F3 => ?_
 clear F2
 refine go_val (v := .bool r0) F3 (wanted_none rfl) rfl (by decide) (x_ld rfl Tryd.isAgg4 (F3.ev rfl) (H0.ptCell (i := 0) rfl (ar_tl (j := 0) (by (try simp only [List.length_set]); omega) rfl))) fun ac4 F4 => ?_
 clear F3
 refine go_val (v := .bool (!r0)) F4 (wanted_none rfl) rfl (by decide) (x_not rfl (F4.ev rfl)) fun ac5 F5 => ?_
 clear F4
 refine wpList_nil ?_
 refine then_n ?_
 refine b_split ((!r0)) (fun hb6 => ?_) (fun hb6 => ?_)
 ·
  have h6 := hb6
  replace F5 := F5.say 6 (.bool true) ((F5.get rfl).trans (congrArg Value.bool hb6))
  refine wp_cond_true (F5.ev rfl) ?_
  refine wp_region_lit ?_
  refine go_val (v := .pointer (some ⟨p, 0, none⟩)) F5 (wanted_none rfl) rfl (by decide) (x_move rfl (F5.ev rfl)) fun ac6 F6 => ?_
  clear F5
  refine go_val (v := .pointer (some ⟨p, 0, none⟩)) F6 (wanted_none rfl) rfl (by decide) (x_move rfl (F6.ev rfl)) fun ac7 F7 => ?_
  clear F6
  refine go_val (v := .agg (ar .u32 beginL).toArray) F7 (wanted_none rfl) rfl (by decide) (x_ldA (cs := ar .u32 beginL) rfl Tryd.isAgg37 Tryd.sizeOf37 rfl (hG.mono H0.kept).g0) fun ac8 F8 => ?_
  clear F7
  refine go_val (v := .pointer (some ⟨p, 0, none⟩)) F8 (wanted_none rfl) rfl (by decide) (x_nil rfl (F8.ev rfl)) fun ac9 F9 => ?_
  clear F8
  refine go_val (v := .pointer (some ⟨p, 0, none⟩)) F9 (wanted_none rfl) rfl (by decide) (x_fa rfl Tryd.underlying39 rfl Tryd.sizeOf37 (F9.ev rfl) rfl) fun ac10 F10 => ?_
  clear F9
  refine go_any F10 (wanted_none rfl) (fun t ht => by cases ht) (d_stAl (k := .u32) (ys := beginL) H0 (i := 0) rfl rfl (show ∀ w, (sizeOf 37).run Tryd.prog w = .ok (beginL : List Int).length w from by rw [show (beginL : List Int).length = 8 by first | ((try simp only [List.length_set]); omega) | rfl]; exact Tryd.sizeOf37) (F10.ev rfl) (F10.ev rfl) (by first | ((try simp only [List.length_set, List.length_replicate]); omega) | (simp; done))) ?_
  rintro _ w1 ac11 ⟨rfl, H1⟩ F11
  replace H1 : Holds w1 f [Pt p 42 (ar .u32 beginL ++ [.bool r0, rv, nv])] := H1
  clear F10 H0
  refine go_val (v := .pointer (some ⟨p, 0, none⟩)) F11 (wanted_none rfl) rfl (by decide) (x_nil rfl (F11.ev rfl)) fun ac12 F12 => ?_
  clear F11
  refine go_val (v := .pointer (some ⟨p, 8, none⟩)) F12 (wanted_none rfl) rfl (by decide) (x_fa rfl Tryd.underlying39 rfl Tryd.sizeOf4 (F12.ev rfl) rfl) fun ac13 F13 => ?_
  clear F12
  refine go_any F13 (wanted_none rfl) (fun t ht => by cases ht) (d_stTl (v := .bool true) (j := 0) H1 (i := 0) rfl rfl Tryd.sizeOf4 (F13.ev rfl) rfl rfl (by first | ((try simp only [List.length_set, List.length_replicate]); omega) | (simp; done)) (show (0 : Nat) < 3 by decide)) ?_
  rintro _ w2 ac14 ⟨rfl, H2⟩ F14
  replace H2 : Holds w2 f [Pt p 42 (ar .u32 beginL ++ [.bool true, rv, nv])] := H2
  clear F13 H1
  refine wpList_nil ?_
  refine c_end (v := .tuple #[]) F14 (res0 Tryd.results19) ?_
  have e : r0 = false := by simpa using h6
  subst e
  exact ⟨rfl, H2⟩
 ·
  have h6 := hb6
  replace F5 := F5.say 6 (.bool false) ((F5.get rfl).trans (congrArg Value.bool hb6))
  refine wp_cond_false (F5.ev rfl) ?_
  refine wp_skip ?_
  refine c_end (v := .tuple #[]) F5 (res0 Tryd.results19) ?_
  have e : r0 = true := by simpa using h6
  subst e
  exact ⟨rfl, H0⟩
end Go.Proofs.YtiehijephkagbaaDoor.Sha
