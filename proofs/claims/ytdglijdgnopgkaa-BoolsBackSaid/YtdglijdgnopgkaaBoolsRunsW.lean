/- 'BoolsRuns': contracts of the column of truths, and the walk of the statement's own function. -/
import Derived.Test.YtdglijdgnopgkaaPBoolsRunsx1
import Derived.Test.YtdglijdgnopgkaaU
import Derived.Test.Ytdglijdgnopgkaaboolsmath
import Derived.Test.YtdglijdgnopgkaaReg
namespace Go.Proofs.Ytdglijdgnopgkaa.Own
open Go.RowKit Go.Proofs.Ytdglijdgnopgkaa.PBoolsRuns Go.Proofs.YtdglijdgnopgkaaW.PrintWords Go.Proofs.YtdglijdgnopgkaaW.PrintLast Go.Proofs.YtdglijdgnopgkaaW.PrintMore Go.Proofs.Ytdglijdgnopgkaa.U Go.Proofs.Ytdglijdgnopgkaa.Reg
set_option linter.unusedVariables false
set_option linter.unusedSimpArgs false
/-- The program's bytes of a number without a sign. -/
theorem leb_U_l0 (j : Nat) : ∀ (n : Nat) (acc : List Int), n < 128 ^ (j + 1) → acc.length + j < 140737488355328 → Ev (fun k => leb_U.l0 k n acc) (acc ++ uB n) := by
  induction j with
  | zero =>
    intro n acc h ha
    have h1 : n < 128 := by simpa using h
    refine Ev.step (f := fun _ => some (acc ++ [((n : Int)) % 256])) (fun k => ?_) (Ev.some' ?_)
    · simp only [leb_U.l0]; rw [if_neg (by omega), if_pos (by omega)]
    · rw [uB_lo h1, show (n : Int) % 256 = n by omega]
  | succ j ih =>
    intro n acc h ha
    by_cases h1 : n < 128
    · refine Ev.step (f := fun _ => some (acc ++ [((n : Int)) % 256])) (fun k => ?_) (Ev.some' ?_)
      · simp only [leb_U.l0]; rw [if_neg (by omega), if_pos (by omega)]
      · rw [uB_lo h1, show (n : Int) % 256 = n by omega]
    · have e : (n : Int) / 128 = ((n / 128 : Nat) : Int) := by omega
      have := ih (n / 128) (acc ++ [((n % 128 + 128 : Nat) : Int)]) (by rw [Nat.pow_succ] at h; exact Nat.div_lt_of_lt_mul (by omega)) (by simp; omega)
      refine Ev.step (f := fun k => leb_U.l0 k ((n / 128 : Nat) : Int) (acc ++ [((n % 128 + 128 : Nat) : Int)])) (fun k => ?_) (Ev.to this ?_)
      · simp only [leb_U.l0]; rw [if_pos (by omega), if_pos (by omega), or128 _ (by omega) (by omega), e, show (n : Int) % 256 % 128 + 128 = ((n % 128 + 128 : Nat) : Int) by omega]
      · rw [uB_hi h1, List.append_assoc]; rfl
theorem leb_U_ev {n : Nat} (h : n < 18446744073709551616) : Ev (fun k => leb_U.f k n) (uB n) := by
  have := leb_U_l0 9 n [] (by omega) (by simp)
  exact Ev.congr (fun k => rfl) this
/-- The bytes of numbers, one behind the other. -/
theorem leb_All_l0 (l : List Int) (hw : ∀ x ∈ l, 0 ≤ x ∧ x < 18446744073709551616) (hl : l.length < 1000000000) (d : Nat) : ∀ (i : Nat), l.length - i = d → i ≤ l.length →
    Ev (fun k => leb_All.l0 k (uBs (l.take i)) l (l.length : Int) (i : Int)) (uBs l) := by
  induction d with
  | zero =>
    intro i hd hi
    refine Ev.step (f := fun _ => some (uBs (l.take i))) (fun k => by simp only [leb_All.l0]; rw [if_neg (by omega)]) (Ev.some' ?_)
    rw [List.take_of_length_le (by omega)]
  | succ d ih =>
    intro i hd hi
    have hi' : i < l.length := by omega
    have hx := hw l[i] (List.getElem_mem hi')
    obtain ⟨n, hn⟩ := Int.eq_ofNat_of_zero_le hx.1
    have := ih (i + 1) (by omega) (by omega)
    rw [take_snoc l i hi', uBs_append, hn] at this
    have h1 := uBs_len (l.take i) (fun x hx => hw x (List.mem_of_mem_take hx))
    have h2 := uB_len10 (n := n) (by omega)
    have h3 : (l.take i).length ≤ l.length := List.length_take_le' _ _
    refine Ev.step (f := fun k => (leb_U.f k (n : Int)).bind fun t165 => (if (uBs (l.take i)).length + t165.length < 140737488355328 then (leb_All.l0 k (uBs (l.take i) ++ t165) l (l.length : Int) ((i + 1 : Nat) : Int)) else (none))) (fun k => ?_) (Ev.bind (leb_U_ev (by omega)) (Ev.pos (by omega) ?_))
    · simp only [leb_All.l0]
      rw [if_pos (by omega), if_pos (by omega), if_pos (by omega), rd_nat l i hi', hn, w64 (by omega) (by omega)]
      rfl
    · rw [uBs_one] at this
      exact this
theorem leb_All_ev (l : List Int) (hw : ∀ x ∈ l, 0 ≤ x ∧ x < 18446744073709551616) (hl : l.length < 1000000000) : Ev (fun k => leb_All.f k l) (uBs l) :=
  Ev.congr (fun _ => rfl) (leb_All_l0 l hw hl _ 0 rfl (Nat.zero_le _))
theorem rdOf_nat {α : Type} (d : α) (l : List α) (i : Nat) (h : i < l.length) : rdOf d l (i : Int) = l[i] := by
  simp [rdOf, List.getD_eq_getElem?_getD, List.getElem?_eq_getElem h]
theorem put_l0 (l : List Bool) (hl : l.length ≤ 1000000) (d : Nat) : ∀ (i : Nat) (acc : List Int) (last : Bool) (n : Nat), i ≤ l.length → l.length - i = d → acc.length ≤ i → n ≤ i → acc ++ runs (l.drop i) last n = runs l false 0 →
    Ev (fun k => bools_Put.l0 k acc last (n : Int) ((l.take i).any id) l (l.length : Int) (i : Int)) (putB l) := by
  induction d with
  | zero =>
    intro i acc last n hi hd ha hn hr
    rw [List.drop_of_length_le (by omega), runs] at hr
    rw [List.take_of_length_le (by omega)]
    by_cases hs : l.any id = true
    · have hb := runs_bound l false 0
      rw [← hr] at hb
      have hev := leb_All_ev (acc ++ [(n : Int)]) (fun x hx => by have := hb.1 x hx; omega) (by have := hb.2; omega)
      refine Ev.step (f := fun k => (leb_All.f k (acc ++ [(n : Int)])).bind fun t121 => (some t121)) (fun k => by simp only [bools_Put.l0]; rw [if_neg (by omega), if_pos hs, if_pos (by omega)]) (Ev.bind hev (Ev.some' ?_))
      unfold putB
      rw [if_pos hs, hr]
    · refine Ev.step (f := fun _ => some []) (fun k => by simp only [bools_Put.l0]; rw [if_neg (by omega), if_neg hs]) (Ev.some' ?_)
      unfold putB
      rw [if_neg hs]
  | succ d ih =>
    intro i acc last n hi hd ha hn hr
    have hi' : i < l.length := by omega
    have hany : (l.take (i + 1)).any id = ((l.take i).any id || l[i]) := by rw [take_snoc l i hi', List.any_append]; simp
    rw [List.drop_eq_getElem_cons hi'] at hr
    have hrd := rdOf_nat false l i hi'
    by_cases hx : l[i] = last
    · rw [hx, runs_same] at hr
      have := ih (i + 1) acc last (n + 1) (by omega) (by omega) (by omega) (by omega) hr
      rw [hany] at this
      refine Ev.step (fun k => ?_) this
      simp only [bools_Put.l0]
      rw [if_pos (by omega), if_pos (by omega), if_pos (by omega), hrd, hx, if_neg (by simp), w64 (by omega) (by omega), u64w, Int.emod_eq_of_lt (by omega) (by omega)]
      by_cases hs : (l.take i).any id = true
      · rw [if_pos hs, hs]; rfl
      · rw [if_neg hs, Bool.eq_false_iff.2 hs]; rfl
    · rw [runs_other hx] at hr
      have := ih (i + 1) (acc ++ [(n : Int)]) l[i] 1 (by omega) (by omega) (by simp; omega) (by omega) (by rw [List.append_assoc]; exact hr)
      rw [hany] at this
      refine Ev.step (fun k => ?_) this
      simp only [bools_Put.l0]
      rw [if_pos (by omega), if_pos (by omega), if_pos (by omega), hrd, if_pos (by simpa using hx), if_pos (by omega), w64 (by omega) (by omega)]
      simp only [Option.bind_some]
      by_cases hs : (l.take i).any id = true
      · rw [if_pos hs, hs]; rfl
      · rw [if_neg hs, Bool.eq_false_iff.2 hs]; rfl
theorem bools_Put_ev (l : List Bool) (hl : l.length ≤ 1000000) : Ev (fun k => bools_Put.f k l) (putB l) :=
  Ev.congr (fun _ => rfl) (put_l0 l hl l.length 0 [] false 0 (Nat.zero_le _) (by omega) (by simp) (by omega) rfl)
theorem awake_any (w : World) : Calls Try.prog 12 #[] w (Ret (Is (.bool true)) w) := by
  obtain ⟨k, h⟩ : ∃ k, inkwelllaw13_awake.f k = some true := ⟨10, by decide +kernel⟩
  exact (inkwelllaw13_awake.calls k true w h).mono fun _ _ ⟨he, hb⟩ => ⟨_, he, rfl, hb⟩
theorem Put_any (A : Option Addr) (c : Nat) (l : List Bool) (w : World) (hC : Kd.C Kd.bool w A l.length l) (hc : l.length ≤ c) (hl : l.length ≤ 1000000) : Calls Try.prog 13 #[.slice A l.length c] w (Ret (Sl (putB l)) w) := by
  obtain ⟨k, h⟩ := (bools_Put_ev l hl).rounds
  exact (bools_Put.calls k A c l _ w hC hc h).mono fun _ _ => ret_sl
theorem info_b : (Try.prog.info? 4).map (fun i => (i.zero, i.size, i.bytes)) = some (some (.bool false), 1, 1) := by kernel_rfl
theorem info_u8 : (Try.prog.info? 5).map (fun i => (i.zero, i.size, i.bytes)) = some (some (.int .u8 0), 1, 1) := by kernel_rfl
theorem putB_runs (a b c : Nat) (ha : a < 128) (hb : b + 1 < 128) (hc : c < 128) : putB (List.replicate a false ++ (List.replicate (b + 1) true ++ List.replicate c false)) = (a : Int) :: ((b + 1 : Nat) : Int) :: (if c = 0 then [] else [(c : Int)]) := by
  unfold putB
  rw [if_pos (by simp), runs_rep, runs_flip (by decide)]
  have hb' : uB (b + 1) = [((b + 1 : Nat) : Int)] := uB_lo hb
  have ha' : uB a = [(a : Int)] := uB_lo ha
  cases c with
  | zero =>
    rw [List.replicate_zero, runs, if_pos rfl, uBs_cons, uBs_one, Int.toNat_natCast, Nat.zero_add, ha', hb']
    rfl
  | succ c =>
    have := runs_flip (x := false) (last := true) (by decide) c (b + 1) []
    rw [List.append_nil] at this
    rw [this, runs, if_neg (by omega), uBs_cons, uBs_cons, uBs_one, Int.toNat_natCast, Int.toNat_natCast, Nat.zero_add, ha', hb', uB_lo hc]
    rfl
set_option maxHeartbeats 8000000 in
set_option maxRecDepth 100000 in
theorem BoolsRuns_walk (a b c : Nat) (ha : a < 256) (hb : b < 256) (hc : c < 256) (w : World) :
    Calls Try.prog 3 #[.int .u8 a, .int .u8 b, .int .u8 c] w fun e w' => e = .returned (.bool true) ∧ Below w.heap.size w w' := by
  obtain ⟨x, hx⟩ : ∃ x, a % 128 = x := ⟨_, rfl⟩
  obtain ⟨y, hy⟩ : ∃ x, b % 127 = x := ⟨_, rfl⟩
  obtain ⟨z, hz⟩ : ∃ x, c % 128 = x := ⟨_, rfl⟩
  have ex : (a : Int) % 128 = (x : Int) := by omega
  have ey : (b : Int) % 127 = (y : Int) := by omega
  have ez : (c : Int) % 128 = (z : Int) := by omega
  have hx1 : x < 128 := by omega
  have hy1 : y + 1 < 128 := by omega
  have hz1 : z < 128 := by omega
  have PB := Aside0.mk (putB_runs x y z hx1 hy1 hz1)
  have HX := Aside0.mk hx1
  have HY := Aside0.mk hy1
  have HZ := Aside0.mk hz1
  clear hx hy hz hx1 hy1 hz1
  go_enter Try.func3, Try.ntmps3
  go_wp2_with (fail)
  go_at_call 12; refine (awake_any _).mono ?_; rintro e w1 ⟨v, rfl, rfl, hb1⟩
  have B1 := Aside0.mk hb1; clear hb1
  go_wp2_with (fail)
  go_loopg [7, 8] x (fun kq v7 v8 w' => ∃ i : Nat, v8 = .int .i64 i ∧ Aside0 (kq + i = x) ∧ Aside0 (OwnS Value.bool (fun _ => rfl) 4 w w' v7 (List.replicate i false)))
  case atStart => exact ⟨0, rfl, ⟨rfl⟩, ⟨OwnS.nil B1.out⟩⟩
  case round =>
    obtain ⟨i, rfl, hki, O1⟩ := hrel
    by_cases hlt : i < x
    · have HL := Aside0.mk hlt
      go_wp2_with ((with_reducible refine gate_builtin (b := .append) (xs := #[.tmp 21, .tmp 22]) rfl ?_); at_builtin; refine app_own (enc := Value.bool) (h1 := fun _ => rfl) (w0 := w) rfl (.tmp 21) (.tmp 22) 23 4 (.bool false) 1 rfl Try.underlying23 info_b rfl (by decide) _ (List.replicate i false) [false] (some ⟨wr.heap.size, 0, none⟩) 1 1 rfl rfl (O1.out.alloc _) (C_new Value.bool (h1 := fun _ => rfl) wr 4 [false] (by simp)) (by simp only [List.length_replicate]; have := HL.out; have := HX.out; omega) ?_; intro v2 w2 ho; have O2 := Aside0.mk ho; clear ho)
      go_roundg (gk - 1)
      case measure => have := hki.out; have := HL.out; omega
      case rel => exact ⟨i + 1, by go_num, ⟨by have := hki.out; have := HL.out; omega⟩, ⟨by rw [List.replicate_succ']; exact O2.out⟩⟩
    · have hix := hki.out
      obtain rfl : i = x := by omega
      clear hix
      go_wp2_with (fail)
      (try simp only [ex])
      go_loopg [7, 9] (y + 1) (fun kq v7 v9 w' => ∃ j : Nat, v9 = .int .i64 j ∧ Aside0 (kq + j = y + 1) ∧ Aside0 (OwnS Value.bool (fun _ => rfl) 4 w w' v7 (List.replicate i false ++ List.replicate j true)))
      case atStart => exact ⟨0, rfl, ⟨rfl⟩, ⟨by rw [List.replicate_zero, List.append_nil]; exact O1.out⟩⟩
      case round =>
        obtain ⟨j, rfl, hkj, O3⟩ := hrel
        clear O1
        by_cases hlt : j < y + 1
        · have hlt2 : (j : Int) < 1 + (y : Int) := by omega
          have HL := Aside0.mk hlt
          clear hlt
          have hy0 := HY.out
          go_wp2_with ((with_reducible refine gate_builtin (b := .append) (xs := #[.tmp 32, .tmp 33]) rfl ?_); at_builtin; refine app_own (enc := Value.bool) (h1 := fun _ => rfl) (w0 := w) rfl (.tmp 32) (.tmp 33) 23 4 (.bool false) 1 rfl Try.underlying23 info_b rfl (by decide) _ (List.replicate i false ++ List.replicate j true) [true] (some ⟨wr.heap.size, 0, none⟩) 1 1 rfl rfl (O3.out.alloc _) (C_new Value.bool (h1 := fun _ => rfl) wr 4 [true] (by simp)) (by simp only [List.length_append, List.length_replicate]; have := HL.out; have := HX.out; have := HY.out; omega) ?_; intro v2 w2 ho; have O2 := Aside0.mk ho; clear ho)
          go_roundg (gk - 1)
          case measure => have := hkj.out; have := HL.out; omega
          case rel => exact ⟨j + 1, by go_num, ⟨by have := hkj.out; have := HL.out; omega⟩, ⟨by rw [List.replicate_succ', ← List.append_assoc]; exact O2.out⟩⟩
        · have hjy := hkj.out
          have hj : j = y + 1 := by omega
          subst hj
          clear hjy
          have hlt2 : ¬ ((y : Int) + 1 < 1 + (y : Int)) := by omega
          clear hlt
          have hy0 := HY.out
          have hy8 : (1 + (y : Int)) % 256 = 1 + (y : Int) := by omega
          by_cases hz0 : z = 0
          · have hz1 : ¬ 0 < (z : Int) := by omega
            obtain ⟨L7, hL7⟩ : ∃ L, L = List.replicate i false ++ List.replicate (y + 1) true := ⟨_, rfl⟩
            obtain ⟨L10, hL10⟩ : ∃ L, L = [(i : Int), 1 + (y : Int)] := ⟨_, rfl⟩
            have PB2 := Aside0.mk (show putB L7 = L10 by
              have := PB.out
              rw [hz0, List.replicate_zero, List.append_nil, if_pos rfl] at this
              rw [hL7, hL10, this, show ((y + 1 : Nat) : Int) = 1 + (y : Int) by omega])
            have LL7 := Aside0.mk (show L7.length ≤ 1000000 by rw [hL7]; simp only [List.length_append, List.length_replicate]; have := HX.out; omega)
            have OW : OwnS (Value.int .u8) (fun _ => rfl) 5 w (wr.alloc (.cells #[.int .u8 (i : Int), .int .u8 (1 + (y : Int))] 5)) (.slice (some ⟨wr.heap.size, 0, none⟩) 2 2) [(i : Int), 1 + (y : Int)] := OwnS.new O3.out.2 [(i : Int), 1 + (y : Int)] (by simp)
            have O7 := O3.out.alloc (.cells #[.int .u8 (i : Int), .int .u8 (1 + (y : Int))] 5)
            rw [← hL7] at O7
            rw [← hL10] at OW
            have HL10 := Aside0.mk (show L10.length = 2 by rw [hL10]; rfl)
            clear hL7 hL10
            obtain ⟨A7, c7, rfl, hc7, hC7⟩ := O7.reads
            have hC10 := (Kd.R_reads' OW.1).2.2
            have B5 := Aside0.mk OW.2
            clear O7 OW O3
            go_wp2_with (fail)
            refine wp_any [Is (.slice A7 L7.length c7), Sl (putB L7), Is (.string (strOfNums (putB L7))), Sl (L10), Is (.string (strOfNums (L10))), Is (.bool true), Is (.bool true)] (fun w' => Below w.heap.size w w' ∧ Kd.C Kd.bool w' A7 L7.length L7 ∧ Kd.C (Kd.int .u8) w' (some ⟨wr.heap.size, 0, none⟩) L10.length L10) Grows (by kernel_rfl) (by kernel_rfl) (by kernel_rfl) rfl ?hst1 ?hgr1 Grows.refl ?hg1 ?hsteps1 ?hend1
            case hst1 => simp only [List.forall_mem_cons, List.not_mem_nil, false_implies, implies_true, Is.st, Sl.st, and_self]
            case hgr1 => exact fun _ _ h1 h2 => ⟨below_step h1.1 h2, Kd.C_below h1.2.1 h2, Kd.C_below h1.2.2 h2⟩
            case hg1 => exact ⟨below_drew B5.out, Kd.C_drew hC7, Kd.C_drew hC10⟩
            case hsteps1 =>
              refine ⟨?_, ?_, ?_, ?_, ?_, ?_, ?_, trivial⟩
              · intro a w' hG hd hk
                rw [if_pos (wanted_none rfl)]
                have e7 : a.tmps.getD 7 undef = .slice A7 L7.length c7 := hk 7 (frame_of (by kernel_rfl))
                exact Does.val (v := .slice A7 L7.length c7) (w' := w') (by simp [execOp, Act.eval, go_sem, e7]) ⟨Grows.refl _, rfl⟩
              · intro a w' hG hd hk
                rw [if_pos (wanted_none rfl)]
                have e59 : a.tmps.getD 59 undef = .slice A7 L7.length c7 := hd 0 (by decide) _ rfl
                exact Does.call (f := 13) (by simp [execOp, Act.eval, go_sem, e59]) (Put_any A7 c7 L7 w' hG.2.1 hc7 LL7.out)
              · intro a w' hG hd hk
                rw [if_pos (wanted_none rfl)]
                obtain ⟨A60, c60, e60, hc60, hC60⟩ : Sl (putB L7) (a.tmps.getD 60 undef) w' := hd 1 (by decide) _ rfl
                have hv := Kd.C_string (P := Try.prog) (c := c60) Try.underlying24 Try.underlying5 Try.underlying9 hC60
                exact Does.val (v := .string (strOfNums (putB L7))) (w' := w') (by simp [execOp, Act.eval, go_sem, e60, hv]) ⟨Grows.refl _, rfl⟩
              · intro a w' hG hd hk
                rw [if_pos (wanted_none rfl)]
                have e10 : a.tmps.getD 10 undef = .slice (some ⟨wr.heap.size, 0, none⟩) 2 2 := hk 10 (frame_of (by kernel_rfl))
                exact Does.val (v := .slice (some ⟨wr.heap.size, 0, none⟩) 2 2) (w' := w') (by simp [execOp, Act.eval, go_sem, e10]) ⟨Grows.refl _, some ⟨wr.heap.size, 0, none⟩, 2, by rw [HL10.out], by rw [HL10.out]; omega, hG.2.2⟩
              · intro a w' hG hd hk
                rw [if_pos (wanted_none rfl)]
                obtain ⟨A62, c62, e62, hc62, hC62⟩ : Sl (L10) (a.tmps.getD 62 undef) w' := hd 3 (by decide) _ rfl
                have hv := Kd.C_string (P := Try.prog) (c := c62) Try.underlying24 Try.underlying5 Try.underlying9 hC62
                exact Does.val (v := .string (strOfNums (L10))) (w' := w') (by simp [execOp, Act.eval, go_sem, e62, hv]) ⟨Grows.refl _, rfl⟩
              · intro a w' hG hd hk
                rw [if_pos (wanted_none rfl)]
                have e61 : a.tmps.getD 61 undef = .string (strOfNums (putB L7)) := hd 2 (by decide) _ rfl
                have e63 : a.tmps.getD 63 undef = .string (strOfNums (L10)) := hd 4 (by decide) _ rfl
                exact Does.val (v := .bool true) (w' := w') (by simp [execOp, Act.eval, go_sem, e61, e63, PB2.out]) ⟨Grows.refl _, rfl⟩
              · intro a w' hG hd hk
                rw [if_pos (wanted_none rfl)]
                have e64 : a.tmps.getD 64 undef = .bool true := hd 5 (by decide) _ rfl
                exact Does.val (v := .bool true) (w' := w') (by simp [execOp, Act.eval, go_sem, e64]) ⟨Grows.refl _, rfl⟩
            intro vs0 w6 B6_ hV0
            have B6 := Aside0.mk B6_; clear B6_
            obtain ⟨_, vs1, rfl, rfl, hV1⟩ := Vals.out hV0; clear hV0
            obtain ⟨_, vs2, rfl, ⟨A60, c60, rfl, hc60, hC60⟩, hV2⟩ := Vals.out hV1; clear hV1
            obtain ⟨_, vs3, rfl, rfl, hV3⟩ := Vals.out hV2; clear hV2
            obtain ⟨_, vs4, rfl, ⟨A62, c62, rfl, hc62, hC62⟩, hV4⟩ := Vals.out hV3; clear hV3
            obtain ⟨_, vs5, rfl, rfl, hV5⟩ := Vals.out hV4; clear hV4
            obtain ⟨_, vs6, rfl, rfl, hV6⟩ := Vals.out hV5; clear hV5
            obtain ⟨_, vs7, rfl, rfl, hV7⟩ := Vals.out hV6; clear hV6
            obtain rfl := Vals.nil hV7; clear hV7
            simp only [puts, List.map_cons, List.map_nil, Act.put, List.setIfInBounds_toArray, List.set_cons_zero, List.set_cons_succ]
            have B7 := Aside0.mk B6.out.1
            go_wp2_with (fail)
            go_ret
            exact ⟨rfl, B7.out⟩
          · have hz1 : 0 < (z : Int) := by omega
            have HZ0 := Aside0.mk hz0
            clear hz0
            have OW : OwnS (Value.int .u8) (fun _ => rfl) 5 w (wr.alloc (.cells #[.int .u8 (i : Int), .int .u8 (1 + (y : Int))] 5)) (.slice (some ⟨wr.heap.size, 0, none⟩) 2 2) [(i : Int), 1 + (y : Int)] := OwnS.new O3.out.2 [(i : Int), 1 + (y : Int)] (by simp)
            have O7 := Aside0.mk (O3.out.alloc (.cells #[.int .u8 (i : Int), .int .u8 (1 + (y : Int))] 5))
            have OW' := Aside0.mk OW
            clear OW O3
            go_wp2_with (fail)
            (try simp only [ez])
            obtain ⟨h0, hw0⟩ : ∃ h, wr.heap.size = h := ⟨_, rfl⟩
            rw [hw0] at OW' ⊢
            clear hw0
            go_loopg [7, 11] z (fun kq v7 v11 w' => ∃ j : Nat, v11 = .int .i64 j ∧ Aside0 (kq + j = z) ∧ Aside0 (OwnS Value.bool (fun _ => rfl) 4 w w' v7 (List.replicate i false ++ (List.replicate (y + 1) true ++ List.replicate j false))) ∧ Aside0 (OwnS (Value.int .u8) (fun _ => rfl) 5 w w' (.slice (some ⟨h0, 0, none⟩) 2 2) [(i : Int), 1 + (y : Int)]))
            case atStart => exact ⟨0, rfl, ⟨rfl⟩, ⟨by rw [List.replicate_zero, List.append_nil]; exact O7.out⟩, OW'⟩
            case round =>
              obtain ⟨j, rfl, hkz, O8, O9⟩ := hrel
              clear O7 OW'
              by_cases hlt3 : j < z
              · have HL := Aside0.mk hlt3
                go_wp2_with ((with_reducible refine gate_builtin (b := .append) (xs := #[.tmp 51, .tmp 52]) rfl ?_); at_builtin; refine app_own2 (enc := Value.bool) (h1 := fun _ => rfl) (w0 := w) rfl (.tmp 51) (.tmp 52) 23 4 (.bool false) 1 rfl Try.underlying23 info_b rfl (by decide) _ (List.replicate i false ++ (List.replicate (y + 1) true ++ List.replicate j false)) [false] (some ⟨wr.heap.size, 0, none⟩) 1 1 rfl rfl (O8.out.alloc _) (C_new Value.bool (h1 := fun _ => rfl) wr 4 [false] (by simp)) (by simp only [List.length_append, List.length_replicate]; have := HL.out; have := HX.out; have := HY.out; have := HZ.out; omega) ?_; intro v2 w2 ho hg _; have O2 := Aside0.mk ho; have O10 := Aside0.mk ((O9.out.alloc _).over (O8.out.alloc _) (by decide) hg ho.2); clear ho hg)
                go_roundg (gk - 1)
                case measure => have := hkz.out; have := HL.out; omega
                case rel => exact ⟨j + 1, by go_num, ⟨by have := hkz.out; have := HL.out; omega⟩, ⟨by rw [show List.replicate (j + 1) false = List.replicate j false ++ [false] from List.replicate_succ']; have := O2.out; rw [List.append_assoc, List.append_assoc] at this; exact this⟩, O10⟩
              · have hjz := hkz.out
                obtain rfl : j = z := by omega
                clear hjz
                obtain ⟨L7, hL7⟩ : ∃ L, L = List.replicate i false ++ (List.replicate (y + 1) true ++ List.replicate j false) := ⟨_, rfl⟩
                obtain ⟨L10, hL10⟩ : ∃ L, L = [(i : Int), 1 + (y : Int)] ++ [(j : Int)] := ⟨_, rfl⟩
                have PB2 := Aside0.mk (show putB L7 = L10 by
                  have := PB.out
                  rw [if_neg HZ0.out] at this
                  rw [hL7, hL10, this, show ((y + 1 : Nat) : Int) = 1 + (y : Int) by omega]; rfl)
                have LL7 := Aside0.mk (show L7.length ≤ 1000000 by rw [hL7]; simp only [List.length_append, List.length_replicate]; have := HX.out; have := HZ.out; have := HY.out; omega)
                have H7 := Aside0.mk hL7
                have H10 := Aside0.mk hL10
                clear hL7 hL10
                go_wp2_with ((with_reducible refine gate_builtin (b := .append) (xs := #[.tmp 54, .tmp 57]) rfl ?_); at_builtin; refine app_own2 (enc := Value.int .u8) (h1 := fun _ => rfl) (w0 := w) rfl (.tmp 54) (.tmp 57) 24 5 (.int .u8 0) 1 rfl Try.underlying24 info_u8 rfl (by decide) _ [(i : Int), 1 + (y : Int)] [(j : Int)] (some ⟨wr.heap.size, 0, none⟩) 1 1 rfl rfl (O9.out.alloc _) (C_new (Value.int .u8) (h1 := fun _ => rfl) wr 5 [(j : Int)] (by simp)) (by simp) ?_; intro v2 w2 ho hg _; have O2 := Aside0.mk ho; have O10 := Aside0.mk ((O8.out.alloc _).over (O9.out.alloc _) (by decide) hg ho.2); clear ho hg)
                have O7 := O10.out
                have OW := O2.out
                rw [← H7.out] at O7
                rw [← H10.out] at OW
                obtain ⟨A7, c7, rfl, hc7, hC7⟩ := O7.reads
                obtain ⟨A10, c10, rfl, hc10, hC10⟩ := OW.reads
                have B5 := Aside0.mk OW.2
                clear O7 OW O8 O9 O10 O2
                refine wp_any [Is (.slice A7 L7.length c7), Sl (putB L7), Is (.string (strOfNums (putB L7))), Sl (L10), Is (.string (strOfNums (L10))), Is (.bool true), Is (.bool true)] (fun w' => Below w.heap.size w w' ∧ Kd.C Kd.bool w' A7 L7.length L7 ∧ Kd.C (Kd.int .u8) w' A10 L10.length L10) Grows (by kernel_rfl) (by kernel_rfl) (by kernel_rfl) rfl ?hst2 ?hgr2 Grows.refl ?hg2 ?hsteps2 ?hend2
                case hst2 => simp only [List.forall_mem_cons, List.not_mem_nil, false_implies, implies_true, Is.st, Sl.st, and_self]
                case hgr2 => exact fun _ _ h1 h2 => ⟨below_step h1.1 h2, Kd.C_below h1.2.1 h2, Kd.C_below h1.2.2 h2⟩
                case hg2 => exact ⟨below_drew B5.out, Kd.C_drew hC7, Kd.C_drew hC10⟩
                case hsteps2 =>
                  refine ⟨?_, ?_, ?_, ?_, ?_, ?_, ?_, trivial⟩
                  · intro a w' hG hd hk
                    rw [if_pos (wanted_none rfl)]
                    have e7 : a.tmps.getD 7 undef = .slice A7 L7.length c7 := hk 7 (frame_of (by kernel_rfl))
                    exact Does.val (v := .slice A7 L7.length c7) (w' := w') (by simp [execOp, Act.eval, go_sem, e7]) ⟨Grows.refl _, rfl⟩
                  · intro a w' hG hd hk
                    rw [if_pos (wanted_none rfl)]
                    have e59 : a.tmps.getD 59 undef = .slice A7 L7.length c7 := hd 0 (by decide) _ rfl
                    exact Does.call (f := 13) (by simp [execOp, Act.eval, go_sem, e59]) (Put_any A7 c7 L7 w' hG.2.1 hc7 LL7.out)
                  · intro a w' hG hd hk
                    rw [if_pos (wanted_none rfl)]
                    obtain ⟨A60, c60, e60, hc60, hC60⟩ : Sl (putB L7) (a.tmps.getD 60 undef) w' := hd 1 (by decide) _ rfl
                    have hv := Kd.C_string (P := Try.prog) (c := c60) Try.underlying24 Try.underlying5 Try.underlying9 hC60
                    exact Does.val (v := .string (strOfNums (putB L7))) (w' := w') (by simp [execOp, Act.eval, go_sem, e60, hv]) ⟨Grows.refl _, rfl⟩
                  · intro a w' hG hd hk
                    rw [if_pos (wanted_none rfl)]
                    have e10 : a.tmps.getD 10 undef = .slice A10 L10.length c10 := hk 10 (frame_of (by kernel_rfl))
                    exact Does.val (v := .slice A10 L10.length c10) (w' := w') (by simp [execOp, Act.eval, go_sem, e10]) ⟨Grows.refl _, A10, c10, rfl, hc10, hG.2.2⟩
                  · intro a w' hG hd hk
                    rw [if_pos (wanted_none rfl)]
                    obtain ⟨A62, c62, e62, hc62, hC62⟩ : Sl (L10) (a.tmps.getD 62 undef) w' := hd 3 (by decide) _ rfl
                    have hv := Kd.C_string (P := Try.prog) (c := c62) Try.underlying24 Try.underlying5 Try.underlying9 hC62
                    exact Does.val (v := .string (strOfNums (L10))) (w' := w') (by simp [execOp, Act.eval, go_sem, e62, hv]) ⟨Grows.refl _, rfl⟩
                  · intro a w' hG hd hk
                    rw [if_pos (wanted_none rfl)]
                    have e61 : a.tmps.getD 61 undef = .string (strOfNums (putB L7)) := hd 2 (by decide) _ rfl
                    have e63 : a.tmps.getD 63 undef = .string (strOfNums (L10)) := hd 4 (by decide) _ rfl
                    exact Does.val (v := .bool true) (w' := w') (by simp [execOp, Act.eval, go_sem, e61, e63, PB2.out]) ⟨Grows.refl _, rfl⟩
                  · intro a w' hG hd hk
                    rw [if_pos (wanted_none rfl)]
                    have e64 : a.tmps.getD 64 undef = .bool true := hd 5 (by decide) _ rfl
                    exact Does.val (v := .bool true) (w' := w') (by simp [execOp, Act.eval, go_sem, e64]) ⟨Grows.refl _, rfl⟩
                intro vs0 w6 B6_ hV0
                have B6 := Aside0.mk B6_; clear B6_
                obtain ⟨_, vs1, rfl, rfl, hV1⟩ := Vals.out hV0; clear hV0
                obtain ⟨_, vs2, rfl, ⟨A60, c60, rfl, hc60, hC60⟩, hV2⟩ := Vals.out hV1; clear hV1
                obtain ⟨_, vs3, rfl, rfl, hV3⟩ := Vals.out hV2; clear hV2
                obtain ⟨_, vs4, rfl, ⟨A62, c62, rfl, hc62, hC62⟩, hV4⟩ := Vals.out hV3; clear hV3
                obtain ⟨_, vs5, rfl, rfl, hV5⟩ := Vals.out hV4; clear hV4
                obtain ⟨_, vs6, rfl, rfl, hV6⟩ := Vals.out hV5; clear hV5
                obtain ⟨_, vs7, rfl, rfl, hV7⟩ := Vals.out hV6; clear hV6
                obtain rfl := Vals.nil hV7; clear hV7
                simp only [puts, List.map_cons, List.map_nil, Act.put, List.setIfInBounds_toArray, List.set_cons_zero, List.set_cons_succ]
                have B7 := Aside0.mk B6.out.1
                go_wp2_with (fail)
                go_ret
                exact ⟨rfl, B7.out⟩
theorem BoolsRuns_any (a0 a1 a2 : Int) (w : World) (w0 : (Lit.int .u8 a0).wf = true) (w1 : (Lit.int .u8 a1).wf = true) (w2 : (Lit.int .u8 a2).wf = true) :
    Calls Try.prog 3 #[.int .u8 a0, .int .u8 a1, .int .u8 a2] w fun e w' => e = .returned (.bool true) ∧ Below w.heap.size w w' := by
  rw [wf_u8] at w0 w1 w2
  obtain ⟨a, rfl⟩ := Int.eq_ofNat_of_zero_le w0.1
  obtain ⟨b, rfl⟩ := Int.eq_ofNat_of_zero_le w1.1
  obtain ⟨c, rfl⟩ := Int.eq_ofNat_of_zero_le w2.1
  exact BoolsRuns_walk a b c (by omega) (by omega) (by omega) w
end Go.Proofs.Ytdglijdgnopgkaa.Own
