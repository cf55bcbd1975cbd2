/- TopPressed: what the walks lean on, and the walks (1) -/
import Derived.WalkKit
import Derived.Orders
import Derived.Below
import Derived.Tactics
import Derived.Laws.Append
import Derived.Laws.CopyRow
import Derived.LoopN
import Derived.Deep.Slices
import Derived.Laws.StructEq
import Derived.DataReads
import Derived.ChangeArms
import Derived.Laws.MakeOwn
import Derived.Scope
import Derived.Test.YtgphajeagfgmmaaGreatDoorProg
set_option linter.unusedVariables false
set_option linter.unusedSimpArgs false
set_option linter.unusedSectionVars false
set_option maxRecDepth 100000
namespace Go.Proofs.YtgphajeagfgmmaaGreatDoor
section
namespace Sl
open RowKit
def Hp : Type:=Nat→Option Obj
def Hp.le (f g : Hp) : Prop:=∀ b o,f b = some o→g b = some o
theorem Hp.le.refl (f : Hp) : f.le f:=fun _ _ h=>h
theorem Hp.le.trans {f g h : Hp} (a : f.le g) (b : g.le h) : f.le h:=fun x o e=>b x o (a x o e)
def Hp.cell (f : Hp) (a : Addr) : Option Value:=match f a.block with
 | some (.cells c _ _)=>if a.spot.isSome then none else c[a.off]?
 | _=>none
def hp (w : World) : Hp:=fun b=>w.heap[b]?
theorem hp_cell (w : World) (a : Addr) : (hp w).cell a = w.cell? a:=rfl
theorem Hp.le.cell {f g : Hp} (h : f.le g) {a : Addr} {v : Value} (hc : f.cell a = some v) : g.cell a = some v:=by
 unfold Hp.cell at *
 cases hf : f a.block with
 | none=>rw [hf] at hc;cases hc
 | some o=>rw [hf] at hc;rw [h _ _ hf];exact hc
structure Fm where
 hp : Hp
 os : Os
 tape : Nat→Question→Nat
 out : Array (Nat × ByteArray)
def Fm.of (w : World) : Fm:=⟨Sl.hp w,w.os,w.tape,w.output⟩
structure Fm.le (f g : Fm) : Prop where
 hp : f.hp.le g.hp
 os : g.os = f.os
 tape : g.tape = f.tape
 out : g.out = f.out
theorem Fm.le.refl (f : Fm) : f.le f:=⟨.refl _,rfl,rfl,rfl⟩
theorem Fm.le.trans {f g h : Fm} (a : f.le g) (b : g.le h) : f.le h:=⟨a.hp.trans b.hp,b.os.trans a.os,b.tape.trans a.tape,b.out.trans a.out⟩
structure Res where
 dom : Nat→Prop
 ok : Hp→Prop
 loc : ∀ {g h : Hp},(∀ b,dom b→h b = g b)→ok g→ok h
 live : ∀ {h : Hp} {b : Nat},ok h→dom b→∃ o,h b = some o
def Res.emp : Res:=⟨fun _=>False,fun _=>True,fun _ _=>trivial,fun _ h=>h.elim⟩
structure Holds (w : World) (f : Fm) (rs : List Res) : Prop where
 os : w.os = f.os
 tape : w.tape = f.tape
 out : w.output = f.out
 kept : f.hp.le (hp w)
 oks : ∀ r ∈ rs,r.ok (hp w)
 free : ∀ r ∈ rs,∀ b,r.dom b→f.hp b = none
 sep : ∀ (i j : Nat) (r s : Res),i ≠ j→rs[i]? = some r→rs[j]? = some s→∀ b,r.dom b→¬ s.dom b
section
variable {w w' : World} {f f1 : Fm} {rs rin rout : List Res} {r r' : Res}
theorem Holds.start (w : World) : Holds w (.of w) []:=
 ⟨rfl,rfl,rfl,.refl _,fun _ h=>(List.not_mem_nil h).elim,fun _ h=>(List.not_mem_nil h).elim,fun i j r s _ h=>by simp at h⟩
theorem Holds.below (h : Holds w' (.of w) rs) : Below w.heap.size w w':=by
 have hb : ∀ k,k < w.heap.size→w'.heap[k]? = w.heap[k]?:=fun k hk=>by
  have : w.heap[k]? = some w.heap[k]:=by simp [hk]
  rw [this]
  exact h.kept k _ this
 refine ⟨h.os,h.tape,h.out,?_,hb⟩
 rcases Nat.lt_or_ge w'.heap.size w.heap.size with hl | hl
 ·
  have:=hb w'.heap.size hl
  rw [Array.getElem?_eq_none (Nat.le_refl _)] at this
  simp [hl] at this
 ·
  exact hl
theorem Holds.live (h : Holds w f rs) (hr : r ∈ rs) {b : Nat} (hb : r.dom b) : b < w.heap.size:=by
 obtain ⟨o,ho⟩:=r.live (h.oks r hr) hb
 exact (Array.getElem?_eq_some_iff.1 ho).1
theorem Holds.frame_lt (h : Holds w f rs) {b : Nat} {o : Obj} (hb : f.hp b = some o) : b < w.heap.size:=
 (Array.getElem?_eq_some_iff.1 (h.kept b o hb)).1
theorem mem_get {rs : List Res} {i : Nat} {r : Res} (h : rs[i]? = some r) : r ∈ rs:=List.mem_of_getElem? h
theorem hp_alloc_old (w : World) (o : Obj) {b : Nat} (h : b < w.heap.size) : hp (w.alloc o) b = hp w b:=Below.heap_alloc w o b h
theorem Holds.alloc (h : Holds w f rs) (o : Obj) (r : Res) (hd : ∀ b,r.dom b→b = w.heap.size) (ho : r.ok (hp (w.alloc o))) : Holds (w.alloc o) f (r::rs):=by
 have hlt : ∀ s ∈ rs,∀ b,s.dom b→b < w.heap.size:=fun s hs b hb=>h.live hs hb
 refine ⟨h.os,h.tape,h.out,fun b o' hb=>?_,?_,?_,?_⟩
 ·
  rw [hp_alloc_old w o (h.frame_lt hb)];exact h.kept b o' hb
 ·
  intro s hs
  rcases List.mem_cons.1 hs with rfl | hs
  ·
   exact ho
  ·
   exact s.loc (fun b hb=>hp_alloc_old w o (hlt s hs b hb)) (h.oks s hs)
 ·
  intro s hs b hb
  rcases List.mem_cons.1 hs with rfl | hs
  ·
   cases hfb : f.hp b with
   | none=>rfl
   | some o'=>have:=h.frame_lt hfb;have:=hd b hb;omega
  ·
   exact h.free s hs b hb
 ·
  intro i j s t hne hi hj b hs ht
  cases i with
  | zero =>
   cases j with
   | zero=>exact hne rfl
   | succ j =>
    simp at hi hj;subst hi
    have:=hlt t (mem_get hj) b ht;have:=hd b hs;omega
  | succ i =>
   cases j with
   | zero =>
    simp at hi hj;subst hj
    have:=hlt s (mem_get hi) b hs;have:=hd b ht;omega
   | succ j =>
    simp at hi hj
    exact h.sep i j s t (by omega) hi hj b hs ht
theorem Holds.nob (h : Holds w f rs) (r : Res) (hd : ∀ b,¬ r.dom b) (ho : r.ok (hp w)) : Holds w f (r::rs):=by
 refine ⟨h.os,h.tape,h.out,h.kept,?_,?_,?_⟩
 ·
  intro s hs
  rcases List.mem_cons.1 hs with rfl | hs
  ·
   exact ho
  ·
   exact h.oks s hs
 ·
  intro s hs b hb
  rcases List.mem_cons.1 hs with rfl | hs
  ·
   exact (hd b hb).elim
  ·
   exact h.free s hs b hb
 ·
  intro i j s t hne hi hj b hs ht
  cases i with
  | zero=>simp at hi;subst hi;exact hd b hs
  | succ i =>
   cases j with
   | zero=>simp at hj;subst hj;exact hd b ht
   | succ j=>simp at hi hj;exact h.sep i j s t (by omega) hi hj b hs ht
theorem Holds.same (h : Holds w f rs) (hh : w'.heap = w.heap) (hos : w'.os = w.os) (ht : w'.tape = w.tape) (ho : w'.output = w.output) : Holds w' f rs:=by
 have e : hp w' = hp w:=by unfold hp;rw [hh]
 exact ⟨hos.trans h.os,ht.trans h.tape,ho.trans h.out,by rw [e];exact h.kept,by rw [e];exact h.oks,h.free,h.sep⟩
theorem Holds.drew (h : Holds w f rs) : Holds w.drew f rs:=h.same rfl rfl rfl rfl
theorem Holds.pick (h : Holds w f rs) (is : List Nat) (hn : is.Nodup) : Holds w f (is.map fun i=>rs.getD i .emp):=by
 have hm : ∀ r ∈ is.map (fun i=>rs.getD i .emp),r = .emp ∨ r ∈ rs:=fun r hr=>by
  obtain ⟨i,_,rfl⟩:=List.mem_map.1 hr
  rw [List.getD_eq_getElem?_getD]
  cases hi : rs[i]? with
  | none=>exact .inl rfl
  | some s=>exact .inr (mem_get hi)
 refine ⟨h.os,h.tape,h.out,h.kept,?_,?_,?_⟩
 ·
  intro r hr
  rcases hm r hr with rfl | hr
  ·
   exact trivial
  ·
   exact h.oks r hr
 ·
  intro r hr b hb
  rcases hm r hr with rfl | hr
  ·
   exact hb.elim
  ·
   exact h.free r hr b hb
 ·
  intro i j r s hne hi hj b hr hs
  rw [List.getElem?_map] at hi hj
  cases hi' : is[i]? with
  | none=>rw [hi'] at hi;cases hi
  | some k =>
   cases hj' : is[j]? with
   | none=>rw [hj'] at hj;cases hj
   | some l =>
    rw [hi'] at hi;rw [hj'] at hj
    simp only [Option.map_some,Option.some.injEq,List.getD_eq_getElem?_getD] at hi hj
    have hkl : k ≠ l:=fun e=>by
     subst e
     exact hne ((List.getElem?_inj (List.getElem?_eq_some_iff.1 hi').1 hn).1 (hi'.trans hj'.symm))
    cases hk : rs[k]? with
    | none=>rw [hk] at hi;simp at hi;subst hi;exact hr
    | some r0 =>
     cases hl : rs[l]? with
     | none=>rw [hl] at hj;simp at hj;subst hj;exact hs
     | some s0 =>
      rw [hk] at hi;rw [hl] at hj
      simp at hi hj;subst hi;subst hj
      exact h.sep k l r0 s0 hkl hk hl b hr hs
theorem Holds.chg (h : Holds w f rs) {i : Nat} (hi : rs[i]? = some r) (hos : w'.os = w.os) (ht : w'.tape = w.tape) (hou : w'.output = w.output)
    (hold : ∀ b, b < w.heap.size → ¬ r.dom b → w'.heap[b]? = w.heap[b]?) (r' : Res) (hd : ∀ b, r'.dom b → r.dom b ∨ w.heap.size ≤ b) (ho : r'.ok (hp w')) : Holds w' f (rs.set i r') := by
  have hil : i < rs.length := (List.getElem?_eq_some_iff.1 hi).1
  have hat : ∀ (k : Nat) (s : Res), (rs.set i r')[k]? = some s → (k = i ∧ s = r') ∨ (k ≠ i ∧ rs[k]? = some s) := fun k s hk => by
    rw [List.getElem?_set] at hk
    split at hk
    · rename_i e; subst e; first | rw [if_pos hil] at hk | skip
      exact .inl ⟨rfl, (Option.some.inj hk).symm⟩
    · rename_i e; exact .inr ⟨fun e' => e e'.symm, hk⟩
  have hmem : ∀ s ∈ rs.set i r', s = r' ∨ ∃ k, k ≠ i ∧ rs[k]? = some s := fun s hs => by
    obtain ⟨k, hk⟩ := List.mem_iff_getElem?.1 hs
    rcases hat k s hk with ⟨_, e⟩ | ⟨hne, hk⟩
    · exact .inl e
    · exact .inr ⟨k, hne, hk⟩
  have hother : ∀ (k : Nat) (s : Res), k ≠ i → rs[k]? = some s → ∀ b, s.dom b → w'.heap[b]? = w.heap[b]? := fun k s hne hk b hb =>
    hold b (h.live (mem_get hk) hb) (fun hr => h.sep k i s r hne hk hi b hb hr)
  refine ⟨hos.trans h.os, ht.trans h.tape, hou.trans h.out, fun b o hb => ?_, ?_, ?_, ?_⟩
  · have : ¬ r.dom b := fun hr => by rw [h.free r (mem_get hi) b hr] at hb; cases hb
    show w'.heap[b]? = some o
    rw [hold b (h.frame_lt hb) this]
    exact h.kept b o hb
  · intro s hs
    rcases hmem s hs with rfl | ⟨k, hne, hk⟩
    · exact ho
    · exact s.loc (fun b hb => hother k s hne hk b hb) (h.oks s (mem_get hk))
  · intro s hs b hb
    rcases hmem s hs with rfl | ⟨k, hne, hk⟩
    · rcases hd b hb with hb | hb
      · exact h.free r (mem_get hi) b hb
      · cases hfb : f.hp b with
        | none => rfl
        | some o => have := h.frame_lt hfb; omega
    · exact h.free s (mem_get hk) b hb
  · intro k l s t hne hk hl b hs ht
    rcases hat k s hk with ⟨e1, e2⟩ | ⟨hk1, hk2⟩
    · rcases hat l t hl with ⟨e3, e4⟩ | ⟨hl1, hl2⟩
      · exact hne (e1.trans e3.symm)
      · subst e2
        rcases hd b hs with hb | hb
        · exact h.sep i l r t (fun e => hl1 e.symm) hi hl2 b hb ht
        · have := h.live (mem_get hl2) ht; omega
    · rcases hat l t hl with ⟨e3, e4⟩ | ⟨hl1, hl2⟩
      · subst e4
        rcases hd b ht with hb | hb
        · exact h.sep k i s r hk1 hk2 hi b hs hb
        · have := h.live (mem_get hk2) hs; omega
      · exact h.sep k l s t hne hk2 hl2 b hs ht
theorem Holds.split (rin rs : List Res) (h : Holds w f (rin++rs)) : ∃ f1,f.le f1∧Holds w f1 rin∧(∀ r ∈ rs,r.ok f1.hp)∧∀ (w' : World) (rout : List Res),Holds w' f1 rout→Holds w' f (rout++rs):=by
 classical
 have hnot : ∀ r ∈ rs,∀ b,r.dom b→¬ ∃ s ∈ rin,s.dom b:=fun r hr b hb ⟨s,hs,hsb⟩=>by
  obtain ⟨i,hi⟩:=List.mem_iff_getElem?.1 hs
  obtain ⟨j,hj⟩:=List.mem_iff_getElem?.1 hr
  have hil:=(List.getElem?_eq_some_iff.1 hi).1
  exact h.sep i (rin.length+j) s r (by omega) (by rw [List.getElem?_append_left hil];exact hi) (by rw [List.getElem?_append_right (by omega)];simpa using hj) b hsb hb
 let g : Hp:=fun b=>if ∃ s ∈ rin,s.dom b then Option.none else hp w b
 have hg : ∀ b,(¬ ∃ s ∈ rin,s.dom b)→g b = hp w b:=fun b hb=>if_neg hb
 have hfg : f.hp.le g:=fun b o hb=>by
  rw [hg b (fun ⟨s,hs,hsb⟩=>by rw [h.free s (List.mem_append_left _ hs) b hsb] at hb;cases hb)]
  exact h.kept b o hb
 refine ⟨⟨g,f.os,f.tape,f.out⟩,⟨hfg,rfl,rfl,rfl⟩,⟨h.os,h.tape,h.out,?_,?_,?_,?_⟩,?_,?_⟩
 ·
  intro b o hb
  show hp w b = some o
  have hb' : (if ∃ s ∈ rin,s.dom b then Option.none else hp w b) = some o:=hb
  split at hb'
  ·
   cases hb'
  ·
   exact hb'
 ·
  exact fun r hr=>h.oks r (List.mem_append_left _ hr)
 ·
  exact fun r hr b hb=>if_pos ⟨r,hr,hb⟩
 ·
  intro i j r s hne hi hj b hr hs
  have hil:=(List.getElem?_eq_some_iff.1 hi).1
  have hjl:=(List.getElem?_eq_some_iff.1 hj).1
  exact h.sep i j r s hne (by rw [List.getElem?_append_left hil];exact hi) (by rw [List.getElem?_append_left hjl];exact hj) b hr hs
 ·
  exact fun r hr=>r.loc (fun b hb=>hg b (hnot r hr b hb)) (h.oks r (List.mem_append_right _ hr))
 ·
  intro w' rout h'
  have hkeep : ∀ r ∈ rs,∀ b,r.dom b→hp w' b = hp w b:=fun r hr b hb=>by
   obtain ⟨o,ho⟩:=r.live (h.oks r (List.mem_append_right _ hr)) hb
   rw [ho]
   exact h'.kept b o ((hg b (hnot r hr b hb)).trans ho)
  refine ⟨h'.os,h'.tape,h'.out,hfg.trans h'.kept,?_,?_,?_⟩
  ·
   intro r hr
   rcases List.mem_append.1 hr with hr | hr
   ·
    exact h'.oks r hr
   ·
    exact r.loc (fun b hb=>hkeep r hr b hb) (h.oks r (List.mem_append_right _ hr))
  ·
   intro r hr b hb
   rcases List.mem_append.1 hr with hr | hr
   ·
    have:=h'.free r hr b hb
    cases hfb : f.hp b with
    | none=>rfl
    | some o=>have h2 : g b = some o:=hfg b o hfb;have h3 : g b = Option.none:=this;rw [h2] at h3;cases h3
   ·
    exact h.free r (List.mem_append_right _ hr) b hb
  ·
   intro i j r s hne hi hj b hr hs
   have cross : ∀ r ∈ rout,∀ s ∈ rs,r.dom b→s.dom b→False:=fun r hr s hs hb hsb=>by
    have h1:=h'.free r hr b hb
    obtain ⟨o,ho⟩:=s.live (h.oks s (List.mem_append_right _ hs)) hsb
    have h2 : g b = some o:=(hg b (hnot s hs b hsb)).trans ho
    have h3 : g b = Option.none:=h1
    rw [h2] at h3;cases h3
   rcases Nat.lt_or_ge i rout.length with hil | hil
   ·
    rw [List.getElem?_append_left hil] at hi
    rcases Nat.lt_or_ge j rout.length with hjl | hjl
    ·
     rw [List.getElem?_append_left hjl] at hj
     exact h'.sep i j r s hne hi hj b hr hs
    ·
     rw [List.getElem?_append_right hjl] at hj
     exact cross r (mem_get hi) s (mem_get hj) hr hs
   ·
    rw [List.getElem?_append_right hil] at hi
    rcases Nat.lt_or_ge j rout.length with hjl | hjl
    ·
     rw [List.getElem?_append_left hjl] at hj
     exact cross s (mem_get hj) r (mem_get hi) hs hr
    ·
     rw [List.getElem?_append_right hjl] at hj
     exact h.sep (rin.length+(i - rout.length)) (rin.length+(j - rout.length)) r s (by omega) (by rw [List.getElem?_append_right (by omega)];simpa using hi) (by rw [List.getElem?_append_right (by omega)];simpa using hj) b hr hs
theorem Holds.only (h0 : Holds w f []) (h : Holds w' f rs) : Holds w' f []:=h.pick [] List.nodup_nil
end
end Sl
end
section
namespace Sl
open RowKit
def look (t : Nat) : List (Nat × Value)→Option Value
 | []=>none
 | (k,v)::l=>cond (Nat.beq k t) (some v) (look t l)
def AllAt (a : Act) : List (Nat × Value)→Prop
 | []=>True
 | (t,v)::l=>a.tmps.getD t undef = v∧AllAt a l
structure Fr (a : Act) (n : Nat) (L : List (Nat × Value)) : Prop where
 size : a.tmps.size = n
 defers : a.defers = []
 all : ∀ t v,look t L = some v→a.tmps.getD t undef = v
theorem AllAt.get {a : Act} : ∀ {L : List (Nat × Value)} {t : Nat} {v : Value},AllAt a L→look t L = some v→a.tmps.getD t undef = v
 | [],_,_,_,h=>by cases h
 | (k,u)::l,t,v,ha,h=>by
  simp only [look] at h
  cases hb : Nat.beq k t with
  | true=>rw [hb] at h;obtain rfl : u = v:=Option.some.inj h;obtain rfl:=Nat.eq_of_beq_eq_true hb;exact ha.1
  | false=>rw [hb] at h;exact AllAt.get ha.2 h
theorem Fr.get {a : Act} {n : Nat} {L : List (Nat × Value)} (F : Fr a n L) {t : Nat} {v : Value} (h : look t L = some v) : a.tmps.getD t undef = v:=F.all _ _ h
theorem Fr.ev {a : Act} {n : Nat} {L : List (Nat × Value)} (F : Fr a n L) {t : Nat} {v : Value} (h : look t L = some v) : a.eval (.tmp t) = v:=F.all _ _ h
theorem Fr.say {a : Act} {n : Nat} {L : List (Nat × Value)} (F : Fr a n L) (t : Nat) (v : Value) (h : a.tmps.getD t undef = v) : Fr a n ((t,v)::L):=by
 refine ⟨F.size,F.defers,fun s u hs=>?_⟩
 simp only [look] at hs
 cases hb : Nat.beq t s with
 | true=>rw [hb] at hs;obtain rfl : v = u:=Option.some.inj hs;obtain rfl:=Nat.eq_of_beq_eq_true hb;exact h
 | false=>rw [hb] at hs;exact F.all _ _ hs
theorem Fr.re {a : Act} {n : Nat} {L : List (Nat × Value)} (F : Fr a n L) (L' : List (Nat × Value)) (h : AllAt a L') : Fr a n L':=⟨F.size,F.defers,fun _ _ hs=>h.get hs⟩
theorem Fr.put {a : Act} {n : Nat} {L : List (Nat × Value)} (F : Fr a n L) (d : Nat) (v : Value) (hd : d < n) : Fr (a.put (some d) v) n ((d,v)::L):=by
 have hs : d < a.tmps.size:=by rw [F.size];exact hd
 refine ⟨by rw [← F.size];simp [Act.put],F.defers,fun t u h=>?_⟩
 show (a.tmps.setIfInBounds d v).getD t undef = u
 simp only [look] at h
 cases hb : Nat.beq d t with
 | true =>
  rw [hb] at h;obtain rfl : v = u:=Option.some.inj h;obtain rfl:=Nat.eq_of_beq_eq_true hb
  simp [Array.getD,hs]
 | false =>
  rw [hb] at h
  have hne : d ≠ t:=fun e=>by subst e;rw [Nat.beq_refl] at hb;cases hb
  rw [Array.getD_eq_getD_getElem?,Array.getElem?_setIfInBounds_ne hne,← Array.getD_eq_getD_getElem?]
  exact F.all t u h
section
variable {P : Program} {Q : Exit→Act→World→Prop} {K : Act→World→Prop} {a : Act} {w : World}
theorem c_loop {c : Code} (I : Nat→Act→World→Prop) (m : Nat) (h0 : I m a w) (round : ∀ m a w,I m a w→c.wp P (Exit.then (fun a' w'=>∃ m',m' < m∧I m' a' w') Q) a w) : (Code.loop c).wp P Q a w:=by
 have key : ∀ (n m : Nat) (a : Act) (w : World),m < n→I m a w→Code.rounds P c Q n a w:=by
  intro n
  induction n with
  | zero=>intro m a w hm;omega
  | succ n ih =>
   intro m a w hm hI
   rw [rounds_succ]
   refine Code.wp_mono (fun e a w h=>?_) (round m a w hI)
   cases e <;> first | exact h | (obtain ⟨m',hm',hI'⟩:=h;exact ih m' _ _ (by omega) hI')
 exact wp_loop_rounds (m+1) (key (m+1) m a w (Nat.lt_succ_self _) h0)
theorem b_split {p : Prop} (b : Bool) (ht : b = true→p) (hf : b = false→p) : p:=by cases b;exact hf rfl;exact ht rfl
end
def Rt (K : Value→World→Prop) (e : Ending) (w : World) : Prop:=∃ v,e = .returned v∧K v w
def Does (P : Program) (ρ : Operand→Value) (o : Oper) (w : World) (K : Value→World→Prop) : Prop:=
 match (execOp ρ o).run P w with
 | .ok (.value v) w'=>K v w'
 | .ok .skip w'=>K undef w'
 | .ok (.enter f args) w'=>Calls P f args w' (Rt K)
 | _=>False
section
variable {P : Program} {Q : Exit→Act→World→Prop} {a : Act} {w w' : World} {ops : Array Oper} {rest : List Oper} {o : Oper} {n d : Nat} {L : List (Nat × Value)} {v : Value} {K : Value→World→Prop}
theorem Does.of {ρ : Operand→Value} (h : (execOp ρ o).run P w = .ok (.value v) w') (hk : K v w') : Does P ρ o w K:=by unfold Does;rw [h];exact hk
theorem Does.skip {ρ : Operand→Value} (h : (execOp ρ o).run P w = .ok .skip w') (hk : K undef w') : Does P ρ o w K:=by unfold Does;rw [h];exact hk
theorem Does.call {ρ : Operand→Value} {f : FuncId} {args : Array Value} (h : (execOp ρ o).run P w = .ok (.enter f args) w) (hk : Calls P f args w (Rt K)) : Does P ρ o w K:=by unfold Does;rw [h];exact hk
theorem Does.mono {ρ : Operand→Value} {K' : Value→World→Prop} (h : Does P ρ o w K) (hk : ∀ v w,K v w→K' v w) : Does P ρ o w K':=by
 unfold Does at *
 cases hr : (execOp ρ o).run P w with
 | ok x w' =>
  rw [hr] at h
  cases x <;> first | exact hk _ _ h | exact h | (exact Calls.mono h fun e w ⟨v,he,hv⟩=>⟨v,he,hk v w hv⟩)
 | halt x w'=>rw [hr] at h;exact h
theorem Does.wp (h : Does P a.eval o w K) {next : Act→World→Prop} (hk : ∀ v w',K v w'→next (a.put o.dst v) w') : o.wp P a w next Q:=by
 unfold Does at h
 unfold Oper.wp
 generalize (execOp a.eval o).run P w = r at h ⊢
 cases r with
 | ok n w' =>
  cases n <;> simp only [Oper.upon] at h ⊢
  case value v=>exact hk v w' h
  case skip=>exact hk undef w' h
  case enter f args=>
   refine Calls.mono h fun e w'' he=>?_
   obtain ⟨v,rfl,hv⟩:=he
   exact hk v w'' hv
 | halt x w'=>exact h.elim
def putL (d : Option Nat) (v : Value) (L : List (Nat × Value)) : List (Nat × Value):=match d with
 | some d=>(d,v)::L
 | none=>L
theorem Fr.putO (F : Fr a n L) (d : Option Nat) (v : Value) (hd : ∀ t,d = some t→t < n) : Fr (a.put d v) n (putL d v L):=by
 cases d with
 | none=>exact F
 | some d=>exact F.put d v (hd d rfl)
theorem wanted_none {y : Nat→Option Bool} (h : o.guard = none) : Region.wanted o y = true:=by unfold Region.wanted;rw [h]
theorem wanted_some {oj : Oper} {j : Nat} {b c : Bool} {t : Nat} (h : o.guard = some (j, c)) (hj : ops[j]? = some oj) (ht : oj.dst = some t) (hv : a.tmps.getD t undef = .bool b) :
    Region.wanted o (yielded ops a.tmps) = (b == c) := by
  have hb : a.tmps[t]? = some (.bool b) := by
    rw [Array.getD_eq_getD_getElem?] at hv
    cases hx : a.tmps[t]? with
    | none => rw [hx] at hv; cases hv
    | some x => rw [hx] at hv; exact congrArg some hv
  unfold Region.wanted yielded
  rw [h]
  simp only [hj, Option.bind_some, ht, hb]
  cases b <;> cases c <;> rfl
theorem go_any (F : Fr a n L) (hw : Region.wanted o (yielded ops a.tmps) = true) (hn : ∀ t, o.dst = some t → t < n) (hD : Does P a.eval o w K)
    (k : ∀ v w' a', K v w' → Fr a' n (putL o.dst v L) → wpList P ops Q rest a' w') : wpList P ops Q (o :: rest) a w := by
  refine wpList_step fun K' hK' => ?_
  rw [if_pos hw]
  exact hD.wp fun v w' hv => hK' _ _ (k v w' _ hv (F.putO o.dst v hn))
theorem go_val (F : Fr a n L) (hw : Region.wanted o (yielded ops a.tmps) = true) (hd : o.dst = some d) (hn : d < n) (hr : (execOp a.eval o).run P w = .ok (.value v) w)
    (k : ∀ a', Fr a' n ((d, v) :: L) → wpList P ops Q rest a' w) : wpList P ops Q (o :: rest) a w := by
  refine wpList_step fun K' hK' => ?_
  rw [if_pos hw]
  refine (Does.of (K := fun v' w' => v' = v ∧ w' = w) hr ⟨rfl, rfl⟩).wp fun v' w' hv => ?_
  obtain ⟨rfl, rfl⟩ := hv
  refine hK' _ _ (k _ ?_)
  rw [hd]
  exact F.put d v' hn
theorem go_pass (F : Fr a n L) (hw : Region.wanted o (yielded ops a.tmps) = false) (hn : ∀ t,o.dst = some t→t < n) (k : ∀ a',Fr a' n (putL o.dst undef L)→wpList P ops Q rest a' w) : wpList P ops Q (o::rest) a w:=
 wpList_skip hw (k _ (F.putO o.dst undef hn))
end
theorem c_enter {P : Program} {f : FuncId} {fn : Func} {c : Code} {args : Array Value} {w : World} {R : Ending → World → Prop} {n : Nat} (hf : P.funcs[f]? = some fn) (hb : fn.body = some c) (hn : fn.ntmps = n) (ha : args.size ≤ n)
    (h : ∀ a, Fr a n (args.toList.zipIdx.map fun x => (x.2, x.1)) → c.wp P (bodyPost P fn R) a w) : Calls P f args w R := by
  refine calls_of_wp hf hb (h _ ⟨by simp; omega, rfl, fun _ _ hs => AllAt.get ?_ hs⟩)
  have key : ∀ (l : List Value) (k : Nat) (a : Act), (∀ i u, l[i]? = some u → a.tmps.getD (k + i) undef = u) → AllAt a ((l.zipIdx k).map fun x => (x.2, x.1)) := by
    intro l
    induction l with
    | nil => intro k a h; exact trivial
    | cons x l ih =>
      intro k a h
      refine ⟨h 0 x rfl, ih (k + 1) a fun i u hi => ?_⟩
      have := h (i + 1) u hi
      rwa [Nat.add_right_comm k 1 i]
  refine key args.toList 0 _ fun i u hi => ?_
  have hi' : args[i]? = some u := by simpa using hi
  have hl : i < args.size := (Array.getElem?_eq_some_iff.1 hi').1
  rw [Nat.zero_add]
  show (args ++ Array.replicate (fn.ntmps - args.size) undef).getD i undef = u
  rw [Array.getD_eq_getD_getElem?, Array.getElem?_append_left hl, hi']
  rfl
theorem c_ret {P : Program} {fn : Func} {a : Act} {w : World} {K : Value→World→Prop} {n : Nat} {L : List (Nat × Value)} (F : Fr a n L) {v : Value} (hr : (results fn a.tmps).run P w = .ok v w) (hK : K v w) : bodyPost P fn (Rt K) .ret a w:=⟨F.defers,v,hr,v,rfl,hK⟩
theorem c_end {P : Program} {fn : Func} {a : Act} {w : World} {K : Value→World→Prop} {n : Nat} {L : List (Nat × Value)} (F : Fr a n L) {v : Value} (hr : (results fn a.tmps).run P w = .ok v w) (hK : K v w) : bodyPost P fn (Rt K) .normal a w:=⟨F.defers,v,hr,v,rfl,hK⟩
theorem res1 {P : Program} {fn : Func} {a : Act} {w : World} {t : Nat} {v : Value} (h : fn.results = #[.tmp t]) (ht : a.tmps.getD t undef = v) : (results fn a.tmps).run P w = .ok v w:=by subst ht;simp [results,h]
theorem res0 {P : Program} {fn : Func} {a : Act} {w : World} (h : fn.results = #[]) : (results fn a.tmps).run P w = .ok (.tuple #[]) w:=by simp [results,h]
theorem res2 {P : Program} {fn : Func} {a : Act} {w : World} {t t' : Nat} {v v' : Value} (h : fn.results = #[.tmp t,.tmp t']) (ht : a.tmps.getD t undef = v) (ht' : a.tmps.getD t' undef = v') : (results fn a.tmps).run P w = .ok (.tuple #[v,v']) w:=by subst ht;subst ht';simp [results,h]
theorem res3 {P : Program} {fn : Func} {a : Act} {w : World} {t t' t'' : Nat} {v v' v'' : Value} (h : fn.results = #[.tmp t,.tmp t',.tmp t'']) (ht : a.tmps.getD t undef = v) (ht' : a.tmps.getD t' undef = v') (ht'' : a.tmps.getD t'' undef = v'') : (results fn a.tmps).run P w = .ok (.tuple #[v,v',v'']) w:=by subst ht;subst ht';subst ht'';simp [results,h]
theorem toList_iff (s r : ByteArray) : (s.toList == r.toList) = decide (s = r):=by
 rw [Bool.eq_iff_iff,beq_iff_eq,decide_eq_true_iff,ByteArray.toList_eq,ByteArray.toList_eq]
 exact ⟨fun h=>Go.WideShapes.bytes_inj h,fun h=>by rw [h]⟩
section
variable {P : Program} {ρ : Operand→Value} {o : Oper} {w : World} {x y z : Operand} {T T' : TypeId} {k : IntKind} {X Y Z : Int} {v u : Value} {b c : Bool} {s r : ByteArray}
theorem x_move  (hop : o.op = .move x) (hx : ρ x = v) :
    (execOp ρ o).run P w = .ok (.value (v)) w := by
  simp [execOp, hop, hx]
theorem x_assign  (hop : o.op = .assign x) (hx : ρ x = v) :
    (execOp ρ o).run P w = .ok (.value (v)) w := by
  simp [execOp, hop, hx]
theorem x_nil {p : Addr} (hop : o.op = .nilCheck x)  (hx : ρ x = .pointer (some p)) :
    (execOp ρ o).run P w = .ok (.value (.pointer (some p))) w := by
  simp [execOp, hop, hx]
theorem x_add  (hop : o.op = .binOp .add T x y T') (ht : P.underlying T = some (.int k)) (hx : ρ x = .int k X) (hy : ρ y = .int k Y) (hw : k.wrap (X + Y) = Z) :
    (execOp ρ o).run P w = .ok (.value (.int k Z)) w := by
  subst hw; simp [execOp, hop, hx, hy, go_sem, ht]
theorem x_sub  (hop : o.op = .binOp .sub T x y T') (ht : P.underlying T = some (.int k)) (hx : ρ x = .int k X) (hy : ρ y = .int k Y) (hw : k.wrap (X - Y) = Z) :
    (execOp ρ o).run P w = .ok (.value (.int k Z)) w := by
  subst hw; simp [execOp, hop, hx, hy, go_sem, ht]
theorem x_mul  (hop : o.op = .binOp .mul T x y T') (ht : P.underlying T = some (.int k)) (hx : ρ x = .int k X) (hy : ρ y = .int k Y) (hw : k.wrap (X * Y) = Z) :
    (execOp ρ o).run P w = .ok (.value (.int k Z)) w := by
  subst hw; simp [execOp, hop, hx, hy, go_sem, ht]
theorem x_lss  (hop : o.op = .binOp .lss T x y T') (ht : P.underlying T = some (.int k)) (hx : ρ x = .int k X) (hy : ρ y = .int k Y) :
    (execOp ρ o).run P w = .ok (.value (.bool (decide (X < Y)))) w := by
  simp [execOp, hop, hx, hy, go_sem, ht]
theorem x_leq  (hop : o.op = .binOp .leq T x y T') (ht : P.underlying T = some (.int k)) (hx : ρ x = .int k X) (hy : ρ y = .int k Y) :
    (execOp ρ o).run P w = .ok (.value (.bool (decide (X ≤ Y)))) w := by
  simp [execOp, hop, hx, hy, go_sem, ht]
theorem x_gtr  (hop : o.op = .binOp .gtr T x y T') (ht : P.underlying T = some (.int k)) (hx : ρ x = .int k X) (hy : ρ y = .int k Y) :
    (execOp ρ o).run P w = .ok (.value (.bool (decide (Y < X)))) w := by
  simp [execOp, hop, hx, hy, go_sem, ht]
theorem x_geq  (hop : o.op = .binOp .geq T x y T') (ht : P.underlying T = some (.int k)) (hx : ρ x = .int k X) (hy : ρ y = .int k Y) :
    (execOp ρ o).run P w = .ok (.value (.bool (decide (Y ≤ X)))) w := by
  simp [execOp, hop, hx, hy, go_sem, ht]
theorem x_eql  (hop : o.op = .binOp .eql T x y T') (ht : P.underlying T = some (.int k)) (hx : ρ x = .int k X) (hy : ρ y = .int k Y) :
    (execOp ρ o).run P w = .ok (.value (.bool (decide (X = Y)))) w := by
  simp [execOp, hop, hx, hy, go_sem, ht]
  rw [Bool.eq_iff_iff]; simp
theorem x_neq  (hop : o.op = .binOp .neq T x y T') (ht : P.underlying T = some (.int k)) (hx : ρ x = .int k X) (hy : ρ y = .int k Y) :
    (execOp ρ o).run P w = .ok (.value (.bool (decide (X ≠ Y)))) w := by
  simp [execOp, hop, hx, hy, go_sem, ht]
  rw [Bool.eq_iff_iff]; simp
theorem x_quo  (hop : o.op = .binOp .quo T x y T') (ht : P.underlying T = some (.int k)) (hx : ρ x = .int k X) (hy : ρ y = .int k Y) (h : Y ≠ 0) (hw : k.wrap (X.tdiv Y) = Z) :
    (execOp ρ o).run P w = .ok (.value (.int k Z)) w := by
  subst hw; simp [execOp, hop, hx, hy, go_sem, ht, h]
theorem x_rem  (hop : o.op = .binOp .rem T x y T') (ht : P.underlying T = some (.int k)) (hx : ρ x = .int k X) (hy : ρ y = .int k Y) (h : Y ≠ 0) (hw : X.tmod Y = Z) :
    (execOp ρ o).run P w = .ok (.value (.int k Z)) w := by
  subst hw; simp [execOp, hop, hx, hy, go_sem, ht, h]
theorem x_and  (hop : o.op = .binOp .and T x y T') (ht : P.underlying T = some (.int k)) (hx : ρ x = .int k X) (hy : ρ y = .int k Y) (hw : bits .and k X Y = Z) :
    (execOp ρ o).run P w = .ok (.value (.int k Z)) w := by
  subst hw; simp [execOp, hop, hx, hy, go_sem, ht]
theorem x_or  (hop : o.op = .binOp .or T x y T') (ht : P.underlying T = some (.int k)) (hx : ρ x = .int k X) (hy : ρ y = .int k Y) (hw : bits .or k X Y = Z) :
    (execOp ρ o).run P w = .ok (.value (.int k Z)) w := by
  subst hw; simp [execOp, hop, hx, hy, go_sem, ht]
theorem x_xor  (hop : o.op = .binOp .xor T x y T') (ht : P.underlying T = some (.int k)) (hx : ρ x = .int k X) (hy : ρ y = .int k Y) (hw : bits .xor k X Y = Z) :
    (execOp ρ o).run P w = .ok (.value (.int k Z)) w := by
  subst hw; simp [execOp, hop, hx, hy, go_sem, ht]
theorem x_shl {k' : IntKind} (hop : o.op = .binOp .shl T x y T')  (ht : P.underlying T = some (.int k)) (hx : ρ x = .int k X) (hy : ρ y = .int k' Y) (h : 0 ≤ Y) (hw : k.wrap (X * 2 ^ (min Y.toNat k.bits)) = Z) :
    (execOp ρ o).run P w = .ok (.value (.int k Z)) w := by
  subst hw; simp [execOp, hop, hx, hy, go_sem, ht, h]
theorem x_shr {k' : IntKind} (hop : o.op = .binOp .shr T x y T')  (ht : P.underlying T = some (.int k)) (hx : ρ x = .int k X) (hy : ρ y = .int k' Y) (h : 0 ≤ Y) (hw : X / 2 ^ (min Y.toNat k.bits) = Z) :
    (execOp ρ o).run P w = .ok (.value (.int k Z)) w := by
  subst hw; simp [execOp, hop, hx, hy, go_sem, ht, h]; try rfl
theorem x_eqlS  (hop : o.op = .binOp .eql T x y T') (ht : P.underlying T = some .string) (hx : ρ x = .string s) (hy : ρ y = .string r) :
    (execOp ρ o).run P w = .ok (.value (.bool (decide (s = r)))) w := by
  simp [execOp, hop, hx, hy, go_sem, ht]
  rw [toList_iff]
theorem x_neqS  (hop : o.op = .binOp .neq T x y T') (ht : P.underlying T = some .string) (hx : ρ x = .string s) (hy : ρ y = .string r) :
    (execOp ρ o).run P w = .ok (.value (.bool (decide (s ≠ r)))) w := by
  simp [execOp, hop, hx, hy, go_sem, ht]
  rw [toList_iff]
theorem x_not  (hop : o.op = .unOp .not T x) (hx : ρ x = .bool b) :
    (execOp ρ o).run P w = .ok (.value (.bool (!b))) w := by
  simp [execOp, hop, hx, go_sem]
theorem x_cpl  (hop : o.op = .unOp .xor T x) (hx : ρ x = .int k X) (hw : bits .xor k (if k.signed then -1 else k.max) X = Z) :
    (execOp ρ o).run P w = .ok (.value (.int k Z)) w := by
  subst hw; simp [execOp, hop, hx, go_sem]
theorem x_pickT {d : Operand} (hop : o.op = .pick d x y)  (hc : ρ d = .bool true) (hx : ρ x = v) :
    (execOp ρ o).run P w = .ok (.value (v)) w := by
  simp [execOp, hop, hc, hx, go_sem]
theorem x_pickF {d : Operand} (hop : o.op = .pick d x y)  (hc : ρ d = .bool false) (hy : ρ y = v) :
    (execOp ρ o).run P w = .ok (.value (v)) w := by
  simp [execOp, hop, hc, hy, go_sem]
theorem x_cvI {k' : IntKind} (hop : o.op = .convert T T' x)  (ht : P.underlying T = some (.int k)) (ht' : P.underlying T' = some (.int k')) (hx : ρ x = .int k X) (hw : k'.wrap X = Z) :
    (execOp ρ o).run P w = .ok (.value (.int k' Z)) w := by
  subst hw; simp [execOp, hop, hx, go_sem, ht, ht']
theorem x_ext {vs : Array Value} {i : Nat} (hop : o.op = .extract x i)   (hx : ρ x = .tuple vs) (hv : vs[i]? = some v) :
    (execOp ρ o).run P w = .ok (.value (v)) w := by
  simp [execOp, hop, hx, go_sem, hv]
theorem x_lenSl {A : Option Addr} {n c : Nat} {t : TypeId} {e : TypeId} (hop : o.op = .call { callee := .builtin .len, args := #[x], argTypes := #[t] })     (hx : ρ x = .slice A n c) (ht : P.underlying t = some (.slice e)) :
    (execOp ρ o).run P w = .ok (.value (.int .i64 n)) w := by
  simp [execOp, hop, hx, go_sem, ht]
theorem x_lenS {t : TypeId} (hop : o.op = .call { callee := .builtin .len, args := #[x], argTypes := #[t] })  (hx : ρ x = .string s) (ht : P.underlying t = some .string) :
    (execOp ρ o).run P w = .ok (.value (.int .i64 s.size)) w := by
  simp [execOp, hop, hx, go_sem, ht]
theorem x_min {t t' : TypeId} (hop : o.op = .call { callee := .builtin .min, args := #[x, y], argTypes := #[t, t'] })  (ht : P.underlying o.type = some (.int k)) (hx : ρ x = .int k X) (hy : ρ y = .int k Y) :
    (execOp ρ o).run P w = .ok (.value (.int k (min X Y))) w := by
  simp [execOp, hop, hx, hy, go_sem, ht]
  omega
theorem x_max {t t' : TypeId} (hop : o.op = .call { callee := .builtin .max, args := #[x, y], argTypes := #[t, t'] })  (ht : P.underlying o.type = some (.int k)) (hx : ρ x = .int k X) (hy : ρ y = .int k Y) :
    (execOp ρ o).run P w = .ok (.value (.int k (max X Y))) w := by
  simp [execOp, hop, hx, hy, go_sem, ht]
  omega
end
theorem wr_i64 {X : Int} (h : -9223372036854775808≤X∧X≤9223372036854775807) : IntKind.i64.wrap X = X:=by
 unfold IntKind.wrap
 simp [IntKind.bits,IntKind.signed];try omega
theorem wr_u8 {X : Int} (h : 0≤X∧X≤255) : IntKind.u8.wrap X = X:=by
 unfold IntKind.wrap
 simp [IntKind.bits,IntKind.signed];try omega
theorem wm_u8 (X : Int) : IntKind.u8.wrap X = X % 256:=by
 unfold IntKind.wrap
 simp [IntKind.bits,IntKind.signed]
theorem wr_u32 {X : Int} (h : 0≤X∧X≤4294967295) : IntKind.u32.wrap X = X:=by
 unfold IntKind.wrap
 simp [IntKind.bits,IntKind.signed];try omega
theorem wm_u32 (X : Int) : IntKind.u32.wrap X = X % 4294967296:=by
 unfold IntKind.wrap
 simp [IntKind.bits,IntKind.signed]
theorem wr_u64 {X : Int} (h : 0≤X∧X≤18446744073709551615) : IntKind.u64.wrap X = X:=by
 unfold IntKind.wrap
 simp [IntKind.bits,IntKind.signed];try omega
theorem wm_u64 (X : Int) : IntKind.u64.wrap X = X % 18446744073709551616:=by
 unfold IntKind.wrap
 simp [IntKind.bits,IntKind.signed]
end Sl
end
section
namespace Sl
open RowKit
structure Fl (α : Type) where
 sz : Nat
 enc : α→List Value
 len : ∀ x,(enc x).length = sz
 one : ∀ x,∀ u ∈ enc x,u.oneCell' = true
 pos : 0 < sz
def Fl.row {α : Type} (t : Fl α) (xs : List α) : List Value:=xs.flatMap t.enc
def tI (k : IntKind) : Fl Int:=⟨1,fun x=>[.int k x],fun _=>rfl,fun _ u h=>by rw [List.mem_singleton.1 h];rfl,Nat.one_pos⟩
def tB : Fl Bool:=⟨1,fun x=>[.bool x],fun _=>rfl,fun _ u h=>by rw [List.mem_singleton.1 h];rfl,Nat.one_pos⟩
def tS : Fl ByteArray:=⟨1,fun x=>[.string x],fun _=>rfl,fun _ u h=>by rw [List.mem_singleton.1 h];rfl,Nat.one_pos⟩
section
variable {α : Type} {t : Fl α}
theorem Fl.row_nil : t.row [] = []:=rfl
theorem Fl.row_cons (x : α) (xs : List α) : t.row (x::xs) = t.enc x++t.row xs:=rfl
theorem Fl.row_append (xs ys : List α) : t.row (xs++ys) = t.row xs++t.row ys:=List.flatMap_append
theorem Fl.row_len (xs : List α) : (t.row xs).length = xs.length * t.sz:=by
 induction xs with
 | nil=>simp [Fl.row]
 | cons x xs ih=>rw [Fl.row_cons,List.length_append,t.len,ih,List.length_cons,Nat.add_mul];omega
theorem Fl.row_one (xs : List α) : ∀ u ∈ t.row xs,u.oneCell' = true:=fun u h=>by
 obtain ⟨x,_,hu⟩:=List.mem_flatMap.1 h
 exact t.one x u hu
theorem Fl.row_get : ∀ {xs : List α} {i : Nat} {x : α} {j : Nat} {u : Value},xs[i]? = some x→(t.enc x)[j]? = some u→(t.row xs)[i * t.sz+j]? = some u
 | [],i,x,j,u,h,_=>by simp at h
 | y::ys,0,x,j,u,h,hu=>by
  simp at h;subst h
  have hj : j < (t.enc y).length:=(List.getElem?_eq_some_iff.1 hu).1
  rw [Fl.row_cons,Nat.zero_mul,Nat.zero_add,List.getElem?_append_left hj];exact hu
 | y::ys,i+1,x,j,u,h,hu=>by
  simp at h
  rw [Fl.row_cons,List.getElem?_append_right (by rw [t.len,Nat.add_mul];omega),t.len]
  have : (i+1) * t.sz+j - t.sz = i * t.sz+j:=by rw [Nat.add_mul];omega
  rw [this]
  exact Fl.row_get h hu
theorem Fl.row_take (xs : List α) (n : Nat) : t.row (xs.take n) = (t.row xs).take (n * t.sz):=by
 rcases Nat.le_total n xs.length with h | h
 ·
  have:=Fl.row_append (t:=t) (xs.take n) (xs.drop n)
  rw [List.take_append_drop] at this
  have hl : (t.row (xs.take n)).length = n * t.sz:=by rw [Fl.row_len,List.length_take,Nat.min_eq_left h]
  rw [this,← hl,List.take_left]
 ·
  rw [List.take_of_length_le h,List.take_of_length_le]
  rw [Fl.row_len];exact Nat.mul_le_mul_right _ h
theorem Fl.row_drop (xs : List α) (n : Nat) : t.row (xs.drop n) = (t.row xs).drop (n * t.sz):=by
 rcases Nat.le_total n xs.length with h | h
 ·
  have:=Fl.row_append (t:=t) (xs.take n) (xs.drop n)
  rw [List.take_append_drop] at this
  have hl : (t.row (xs.take n)).length = n * t.sz:=by rw [Fl.row_len,List.length_take,Nat.min_eq_left h]
  rw [this,← hl,List.drop_left]
 ·
  rw [List.drop_of_length_le h,List.drop_of_length_le,Fl.row_nil]
  rw [Fl.row_len];exact Nat.mul_le_mul_right _ h
theorem getD_get {xs : List α} {i : Nat} (d : α) (h : i < xs.length) : xs[i]? = some (xs.getD i d):=by
 rw [List.getD_eq_getElem?_getD,List.getElem?_eq_getElem h];rfl
end
def Rd {α : Type} (t : Fl α) (f : Hp) (v : Value) (xs : List α) : Prop:=
 ∃ A c,v = .slice A xs.length c∧xs.length≤c∧c≤maxLen∧∀ j u,(t.row xs)[j]? = some u→∃ a,A = some a∧f.cell (a.add j) = some u
def bas (v : Value) : Addr:=match v with | .slice (some a) _ _=>a | _=>⟨0,0,none⟩
def elp (v : Value) (k : Nat) : Addr:=(bas v).add k
theorem elp_add (v : Value) (k j : Nat) : (elp v k).add j = elp v (k+j):=Go.Deep.add_add _ _ _
def sl (v : Value) (lo hi sz : Nat) : Value:=match v with | .slice a _ c=>.slice (if c = lo then a else a.map (·.add (lo * sz))) (hi - lo) (c - lo) | v=>v
section
variable {α : Type} {t : Fl α} {f g : Hp} {v : Value} {xs : List α}
theorem Rd.mono (h : Rd t f v xs) (hl : f.le g) : Rd t g v xs:=by
 obtain ⟨A,c,e,h1,h2,h3⟩:=h
 exact ⟨A,c,e,h1,h2,fun j u hu=>by obtain ⟨a,ea,ha⟩:=h3 j u hu;exact ⟨a,ea,hl.cell ha⟩⟩
theorem Rd.size (h : Rd t f v xs) : ∃ A c,v = .slice A xs.length c:=by obtain ⟨A,c,e,_⟩:=h;exact ⟨A,c,e⟩
theorem Rd.one (h : Rd t f v xs) : v.oneCell' = true:=by obtain ⟨A,c,rfl,_⟩:=h;rfl
theorem Rd.max (h : Rd t f v xs) : xs.length≤9223372036854775807:=by
 obtain ⟨A,c,e,h1,h2,_⟩:=h
 unfold maxLen at h2;omega
theorem Rd.nil : Rd t f (.slice none 0 0) []:=⟨none,0,rfl,Nat.le_refl _,Nat.zero_le _,fun j u h=>by simp [Fl.row] at h⟩
theorem Rd.cell (h : Rd t f v xs) {i j : Nat} {x : α} {u : Value} (hx : xs[i]? = some x) (hu : (t.enc x)[j]? = some u) : f.cell (elp v (i * t.sz+j)) = some u:=by
 obtain ⟨A,c,rfl,_,_,h3⟩:=h
 obtain ⟨a,rfl,ha⟩:=h3 _ _ (Fl.row_get hx hu)
 exact ha
theorem Rd.slice (h : Rd t f v xs) {lo hi : Nat} (h1 : lo≤hi) (h2 : hi≤xs.length) : Rd t f (sl v lo hi t.sz) ((xs.take hi).drop lo):=by
 obtain ⟨A,c,rfl,hc,hm,h3⟩:=h
 have hl : ((xs.take hi).drop lo).length = hi - lo:=by rw [List.length_drop,List.length_take];omega
 refine ⟨_,c - lo,by rw [hl];rfl,by rw [hl];omega,by omega,fun j u hu=>?_⟩
 have hj:=(List.getElem?_eq_some_iff.1 hu).1
 rw [Fl.row_len,hl] at hj
 have hne : c ≠ lo:=fun e=>by
  have : hi - lo = 0:=by omega
  rw [this,Nat.zero_mul] at hj;omega
 rw [Fl.row_drop,Fl.row_take,List.getElem?_drop,List.getElem?_take] at hu
 split at hu
 ·
  obtain ⟨a,rfl,ha⟩:=h3 _ _ hu
  refine ⟨a.add (lo * t.sz),by rw [if_neg hne];rfl,?_⟩
  rw [Go.Deep.add_add];exact ha
 ·
  cases hu
theorem Rd.take (h : Rd t f v xs) {hi : Nat} (h2 : hi≤xs.length) : Rd t f (sl v 0 hi t.sz) (xs.take hi):=h.slice (Nat.zero_le _) h2
theorem Rd.drop (h : Rd t f v xs) {lo : Nat} (h2 : lo≤xs.length) : Rd t f (sl v lo xs.length t.sz) (xs.drop lo):=by
 have:=h.slice h2 (Nat.le_refl _)
 rwa [List.take_of_length_le (Nat.le_refl _)] at this
end
def Own {α : Type} (t : Fl α) (e : TypeId) (v : Value) (xs : List α) : Res where
 dom b:=v.ownBlock = some b
 ok h:=(v = .slice none 0 0∧xs = []) ∨ ∃ b off c cells,v = .slice (some ⟨b,off,none⟩) xs.length c∧xs.length≤c∧c≤maxLen∧h b = some (.cells cells e (0,0))∧off+c * t.sz≤cells.size∧(cells.toList.drop off).take (xs.length * t.sz) = t.row xs
 loc:=by
  intro g h hl ho
  rcases ho with ho | ⟨b,off,c,cells,rfl,h1,h2,h3,h4⟩
  ·
   exact .inl ho
  ·
   exact .inr ⟨b,off,c,cells,rfl,h1,h2,(hl b rfl).trans h3,h4⟩
 live:=by
  intro h b ho hb
  rcases ho with ⟨rfl,_⟩ | ⟨b',off,c,cells,rfl,_,_,h3,_⟩
  ·
   cases hb
  ·
   obtain rfl : b' = b:=Option.some.inj hb
   exact ⟨_,h3⟩
def OwnR {α : Type} (t : Fl α) (v : Value) (xs : List α) : Res where
 dom b:=v.ownBlock = some b
 ok h:=(v = .slice none 0 0∧xs = []) ∨ ∃ b off c cells e fz,v = .slice (some ⟨b,off,none⟩) xs.length c∧xs.length≤c∧c≤maxLen∧h b = some (.cells cells e fz)∧off+c * t.sz≤cells.size∧(cells.toList.drop off).take (xs.length * t.sz) = t.row xs
 loc:=by
  intro g h hl ho
  rcases ho with ho | ⟨b,off,c,cells,e,fz,rfl,h1,h2,h3,h4⟩
  ·
   exact .inl ho
  ·
   exact .inr ⟨b,off,c,cells,e,fz,rfl,h1,h2,(hl b rfl).trans h3,h4⟩
 live:=by
  intro h b ho hb
  rcases ho with ⟨rfl,_⟩ | ⟨b',off,c,cells,e,fz,rfl,_,_,h3,_⟩
  ·
   cases hb
  ·
   obtain rfl : b' = b:=Option.some.inj hb
   exact ⟨_,h3⟩
def Pt (p : Nat) (T : TypeId) (cells : List Value) : Res where
 dom b:=b = p
 ok h:=h p = some (.cells cells.toArray T (0,0))
 loc:=fun hl ho=>(hl _ rfl).trans ho
 live:=fun {h b} ho hb=>by obtain rfl : b = p:=hb;exact ⟨_,ho⟩
section
variable {α : Type} {t : Fl α} {e : TypeId} {f : Hp} {v : Value} {xs : List α} {w w' : World} {fm : Fm} {rs : List Res} {i : Nat} {p : Nat} {T : TypeId} {cells : List Value}
theorem OwnR.rd (h : (OwnR t v xs).ok f) : Rd t f v xs:=by
 rcases h with ⟨rfl,rfl⟩ | ⟨b,off,c,cells,e,fz,rfl,h1,h2,h3,h4,h5⟩
 ·
  exact Rd.nil
 ·
  refine ⟨_,c,rfl,h1,h2,fun j u hu=>⟨_,rfl,?_⟩⟩
  rw [← h5,List.getElem?_take] at hu
  split at hu
  ·
   rw [List.getElem?_drop] at hu
   rw [Addr.add_lit]
   unfold Hp.cell
   simp only [h3]
   simpa using hu
  ·
   cases hu
theorem Own.toR (h : (Own t e v xs).ok f) : (OwnR t v xs).ok f:=by
 rcases h with h | ⟨b,off,c,cells,rfl,h1,h2,h3,h4⟩
 ·
  exact .inl h
 ·
  exact .inr ⟨b,off,c,cells,e,_,rfl,h1,h2,h3,h4⟩
theorem Own.rd (h : (Own t e v xs).ok f) : Rd t f v xs:=OwnR.rd (Own.toR h)
theorem Holds.own (H : Holds w fm rs) (hi : rs[i]? = some (Own t e v xs)) : Rd t (hp w) v xs:=Own.rd (H.oks _ (mem_get hi))
theorem Holds.toR (H : Holds w fm rs) (hi : rs[i]? = some (Own t e v xs)) : Holds w fm (rs.set i (OwnR t v xs)):=
 H.chg hi rfl rfl rfl (fun _ _ _=>rfl) _ (fun b hb=>.inl hb) (Own.toR (H.oks _ (mem_get hi)))
theorem Holds.nilOwn (H : Holds w fm rs) (t : Fl α) (e : TypeId) : Holds w fm (Own t e (.slice none 0 0) []::rs):=H.nob _ (fun b hb=>by cases hb) (.inl ⟨rfl,rfl⟩)
theorem Holds.pt (H : Holds w fm rs) (hi : rs[i]? = some (Pt p T cells)) : w.heap[p]? = some (.cells cells.toArray T (0,0)):=H.oks _ (mem_get hi)
theorem Holds.ptCell (H : Holds w fm rs) (hi : rs[i]? = some (Pt p T cells)) {j : Nat} {u : Value} (hj : cells[j]? = some u) : w.cell? ⟨p,j,none⟩ = some u:=by
 rw [cell_of_row w p j _ T (0,0) (H.pt hi)];simpa using hj
theorem Holds.rd {t : Fl α} (H : Holds w fm rs) (h : Rd t fm.hp v xs) : Rd t (hp w) v xs:=h.mono H.kept
end
section
variable {P : Program} {ρ : Operand→Value} {o : Oper} {w : World} {x y z : Operand} {T T' e : TypeId} {k : IntKind} {X Y : Int} {v u : Value} {α : Type} {t : Fl α} {f : Hp} {xs ys : List α} {A : Addr} {n i : Nat} {d : TypeDesc}
theorem x_len (h : Rd t f v xs) (hop : o.op = .call { callee:=.builtin .len,args:=#[x],argTypes:=#[T] }) (hx : ρ x = v) (ht : P.underlying T = some (.slice e)) : (execOp ρ o).run P w = .ok (.value (.int .i64 xs.length)) w:=by
 obtain ⟨A,c,rfl⟩:=h.size
 exact x_lenSl hop hx ht
theorem x_ld (hop : o.op = .load T x) (hA : ∀ w,(isAgg T).run P w = .ok false w) (hx : ρ x = .pointer (some A)) (hc : w.cell? A = some v) : (execOp ρ o).run P w = .ok (.value v) w:=by
 simp [execOp,hop,Instr.loadAt,Instr.sureAddr,loadVar,hA,hx,hc]
theorem x_ldA {cs : List Value} (hop : o.op = .load T x) (hA : ∀ w, (isAgg T).run P w = .ok true w) (hs : ∀ w, (sizeOf T).run P w = .ok cs.length w) (hx : ρ x = .pointer (some A)) (hc : ∀ j u, cs[j]? = some u → w.cell? (A.add j) = some u) :
    (execOp ρ o).run P w = .ok (.value (.agg cs.toArray)) w := by
  have hl := run_loadCells_list (P := P) w A cs hc
  simp [execOp, hop, Instr.loadAt, Instr.sureAddr, loadVar, hA, hx, hs, hl]
theorem x_fa {fs : Array Field} {fl : Field} (hop : o.op = .fieldAddr T x i) (ht : P.underlying T = some (.struct fs)) (hf : fs[i]? = some fl) (hs : ∀ w, (sizeOf fl.type).run P w = .ok (n + 1) w) (hx : ρ x = .pointer (some A)) {B : Addr} (hB : A.add fl.offset = B) :
    (execOp ρ o).run P w = .ok (.value (.pointer (some B))) w := by
  subst hB
  simp [execOp, hop, Instr.fieldAt, run_underlying ht, hf, Instr.sureAddr, hx, fieldPlace, hs]
theorem x_fae {fs : Array Field} {fl : Field} {q : Nat} (hop : o.op = .fieldAddr T x i) (ht : P.underlying T = some (.struct fs)) (hf : fs[i]? = some fl) (hs : ∀ w, (sizeOf fl.type).run P w = .ok (n + 1) w) (hx : ρ x = .pointer (some (elp v q))) {q' : Nat} (hB : q + fl.offset = q') :
    (execOp ρ o).run P w = .ok (.value (.pointer (some (elp v q')))) w := by
  subst hB
  rw [← elp_add]; exact x_fa hop ht hf hs hx rfl
theorem x_ixa (h : Rd t f v xs) (hop : o.op = .indexAddr T x y) (ht : P.underlying T = some (.slice e)) (hs : ∀ w, (sizeOf e).run P w = .ok t.sz w) (hx : ρ x = v) (hy : ρ y = .int k X) (hX : X = (i : Int)) (hi : i < xs.length) :
    (execOp ρ o).run P w = .ok (.value (.pointer (some (elp v (i * t.sz))))) w := by
  obtain ⟨A, c, rfl, hc, hm, h3⟩ := h
  subst hX
  have hne : ∃ u, (t.row xs)[i * t.sz + 0]? = some u := by
    have hl : 0 < (t.enc (xs[i])).length := by rw [t.len]; exact t.pos
    exact ⟨_, Fl.row_get (x := xs[i]) (j := 0) (by simp [hi]) (List.getElem?_eq_getElem hl)⟩
  obtain ⟨u, hu⟩ := hne
  obtain ⟨a, rfl, _⟩ := h3 _ _ hu
  have hlt : (i : Int) < (xs.length : Int) := by omega
  have hge : ¬ (xs.length ≤ i) := by omega
  simp [execOp, hop, Instr.indexAt, asIntOf, hx, hy, run_underlying ht, hs, hi, hge, elp, bas]
theorem Rd.cw (h : Rd t (hp w) v xs) {j : Nat} {x : α} (hx : xs[i]? = some x) (hu : (t.enc x)[j]? = some u) : w.cell? (elp v (i * t.sz+j)) = some u:=h.cell hx hu
theorem Rd.cws (h : Rd t (hp w) v xs) {x : α} (hx : xs[i]? = some x) : ∀ j u,(t.enc x)[j]? = some u→w.cell? ((elp v (i * t.sz)).add j) = some u:=fun j u hu=>by rw [elp_add];exact h.cell hx hu
theorem x_sl {lo hi : Nat} {xl xh : Operand} {k' : IntKind} (h : Rd t f v xs) (hop : o.op = .slice T x (some xl) (some xh) none) (ht : P.underlying T = some (.slice e)) (hs : ∀ w, (sizeOf e).run P w = .ok t.sz w) (hx : ρ x = v)
    (hl : ρ xl = .int k (lo : Nat)) (hh : ρ xh = .int k' (hi : Nat)) (h1 : lo ≤ hi) (h2 : hi ≤ xs.length) : (execOp ρ o).run P w = .ok (.value (sl v lo hi t.sz)) w := by
  obtain ⟨A, c, rfl, hc, hm, h3⟩ := h
  have hh' : hi ≤ c := by omega
  simp [execOp, hop, Instr.sliceAt, run_underlying ht, Instr.slice, Instr.sliceBounds, Instr.sliceBound, asIntOf, hx, hl, hh, hh', h1, hs, sl]
theorem x_slL {lo : Nat} {xl : Operand} (h : Rd t f v xs) (hop : o.op = .slice T x (some xl) none none) (ht : P.underlying T = some (.slice e)) (hs : ∀ w, (sizeOf e).run P w = .ok t.sz w) (hx : ρ x = v)
    (hl : ρ xl = .int k (lo : Nat)) (h1 : lo ≤ xs.length) : (execOp ρ o).run P w = .ok (.value (sl v lo xs.length t.sz)) w := by
  obtain ⟨A, c, rfl, hc, hm, h3⟩ := h
  simp [execOp, hop, Instr.sliceAt, run_underlying ht, Instr.slice, Instr.sliceBounds, Instr.sliceBound, asIntOf, hx, hl, h1, hs, sl]
theorem x_slH {hi : Nat} {xh : Operand} (h : Rd t f v xs) (hop : o.op = .slice T x none (some xh) none) (ht : P.underlying T = some (.slice e)) (hs : ∀ w, (sizeOf e).run P w = .ok t.sz w) (hx : ρ x = v)
    (hh : ρ xh = .int k (hi : Nat)) (h2 : hi ≤ xs.length) : (execOp ρ o).run P w = .ok (.value (sl v 0 hi t.sz)) w := by
  obtain ⟨A, c, rfl, hc, hm, h3⟩ := h
  have hh' : hi ≤ c := by omega
  simp [execOp, hop, Instr.sliceAt, run_underlying ht, Instr.slice, Instr.sliceBounds, Instr.sliceBound, asIntOf, hx, hh, hh', hs, sl]
theorem x_build {parts : Array (Nat × Operand)} {cells : Array Value} (hop : o.op = .build T parts) (hb : P.built T (parts.toList.map fun p=>(p.1,ρ p.2)) = some cells) : (execOp ρ o).run P w = .ok (.value (.agg cells)) w:=by
 have:=run_build (P:=P) w T (parts.map fun p=>(p.1,ρ p.2)) cells (by simpa using hb)
 have e : (Instr.build T (parts.map fun p=>(p.1,ρ p.2))).run P w = .ok (.agg cells) w:=this
 simp [execOp,hop,e]
end
section
variable {P : Program} {ρ : Operand→Value} {o : Oper} {w : World} {fm : Fm} {rs : List Res} {x y z : Operand} {T T' e : TypeId} {k : IntKind} {X Y : Int} {v u : Value} {α : Type} {t : Fl α} {f : Hp} {xs ys : List α} {A : Addr} {n i j : Nat} {d : TypeDesc} {p : Nat} {cells : List Value}
theorem run_newVar (T : TypeId) (v : Value) : (newVar T v).run P w = .ok ⟨w.heap.size,0,none⟩ (w.alloc (.cells v.cells T)):=by
 simp [newVar,newRow]
theorem alloc_ok (w : World) (o : Obj) : hp (w.alloc o) w.heap.size = some o:=heap_alloc_new w o
theorem d_box (H : Holds w fm rs) (hop : o.op = .box T x) (hx : ρ x = v) : Does P ρ o w fun v' w'=>∃ p,v' = .pointer (some ⟨p,0,none⟩)∧Holds w' fm (Pt p T v.cells.toList::rs):=by
 refine Does.of (v:=.pointer (some ⟨w.heap.size,0,none⟩)) (w':=w.alloc (.cells v.cells T)) (by simp [execOp,hop,Instr.box,run_newVar,hx]) ⟨_,rfl,H.alloc _ _ (fun b hb=>hb) ?_⟩
 show hp _ _ = _
 rw [alloc_ok]
theorem d_alloc {z : Value} (H : Holds w fm rs) (hop : o.op = .alloc T) (hz' : ∀ w,(zeroValue T).run P w = .ok z w) : Does P ρ o w fun v' w'=>∃ p,v' = .pointer (some ⟨p,0,none⟩)∧Holds w' fm (Pt p T z.cells.toList::rs):=by
 refine Does.of (v:=.pointer (some ⟨w.heap.size,0,none⟩)) (w':=w.alloc (.cells z.cells T)) (by simp [execOp,hop,Instr.alloc,run_newVar,hz']) ⟨_,rfl,H.alloc _ _ (fun b hb=>hb) ?_⟩
 show hp _ _ = _
 rw [alloc_ok]
theorem put_cells (H : Holds w fm rs) {r : Res} (hi : rs[i]? = some r) {g off : Nat} {cur : Array Value} {cs : List Value} (hd : r.dom g) (hg : w.heap[g]? = some (.cells cur T (0, 0))) (hl : off + cs.length ≤ cur.size) (h1 : ∀ u ∈ cs, u.oneCell' = true)
    (r' : Res) (hd' : ∀ b, r'.dom b → r.dom b) (hok : ∀ h : Hp, h g = some (.cells (cur.toList.take off ++ cs ++ cur.toList.drop (off + cs.length)).toArray T (0, 0)) → (∀ b, b ≠ g → h b = hp w b) → r'.ok h) :
    ∃ w', (storeCells ⟨g, off, none⟩ cs).run P w = .ok () w' ∧ Holds w' fm (rs.set i r') := by
  refine ⟨_, run_storeCells_at P g off T cs 0 cur w hg (by simpa using hl) h1, ?_⟩
  simp only [Nat.add_zero]
  exact H.chg (w' := w.setRow g (cur.toList.take off ++ cs ++ cur.toList.drop (off + cs.length)).toArray) hi rfl rfl rfl (fun b hb hn => setRow_other w g b _ (fun e => hn (e ▸ hd))) r' (fun b hb => .inl (hd' b hb)) (hok _ (setRow_heap w g cur _ T _ hg) (fun b hb => setRow_other w g b _ hb))
theorem run_storeVar (A : Addr) (hs : ∀ w,(sizeOf T).run P w = .ok v.cells.size w) : (storeVar T A v).run P w = (storeCells A v.cells.toList).run P w:=by
 simp [storeVar,hs]
theorem d_stPt (H : Holds w fm rs) (hr : rs[i]? = some (Pt p T' cells)) (hop : o.op = .store T x y) (hs : ∀ w, (sizeOf T).run P w = .ok v.cells.size w) (hx : ρ x = .pointer (some ⟨p, j, none⟩)) (hy : ρ y = v)
    (h1 : ∀ u ∈ v.cells.toList, u.oneCell' = true) (hj : j + v.cells.size ≤ cells.length) {cells' : List Value} (hc : cells.take j ++ v.cells.toList ++ cells.drop (j + v.cells.size) = cells') : Does P ρ o w fun v' w' => v' = undef ∧ Holds w' fm (rs.set i (Pt p T' cells')) := by
  obtain ⟨w', hw, H'⟩ := put_cells (P := P) H hr (g := p) (off := j) (cs := v.cells.toList) rfl (H.pt hr) (by simpa using hj) h1 (Pt p T' cells') (fun b hb => hb) (fun h hh _ => by
    show h p = _
    rw [hh, ← hc]; simp)
  exact Does.skip (w' := w') (by simp [execOp, hop, Instr.storeAt, Instr.sureAddr, hx, hy, run_storeVar _ hs, hw]) ⟨rfl, H'⟩
theorem take_set_drop {β : Type} (l : List β) (j : Nat) (x : β) (h : j < l.length) : l.take j++[x]++l.drop (j+1) = l.set j x:=by
 rw [List.set_eq_take_append_cons_drop,if_pos h];simp
theorem d_stPt1 (H : Holds w fm rs) (hr : rs[i]? = some (Pt p T' cells)) (hop : o.op = .store T x y) (hs : ∀ w, (sizeOf T).run P w = .ok 1 w) (hx : ρ x = .pointer (some ⟨p, j, none⟩)) (hy : ρ y = v)
    (h1 : v.oneCell' = true) (hj : j < cells.length) : Does P ρ o w fun v' w' => v' = undef ∧ Holds w' fm (rs.set i (Pt p T' (cells.set j v))) := by
  have hc : v.cells = #[v] := by cases v <;> first | rfl | cases h1
  exact d_stPt H hr hop (by rw [hc]; exact hs) hx hy (by rw [hc]; simpa using h1) (by rw [hc]; exact hj) (by rw [hc]; exact take_set_drop cells j v hj)
theorem mid_set {β : Type} {l r : List β} {m n : Nat} (h : (l.drop m).take n = r) (off : Nat) (cs : List β) (ho : off + cs.length ≤ n) (hl : m + n ≤ l.length) :
    (((l.take (m + off) ++ cs ++ l.drop (m + off + cs.length)).drop m).take n) = r.take off ++ cs ++ r.drop (off + cs.length) := by
  subst h
  apply List.ext_getElem?
  intro q
  have hL : (List.take (m + off) l).length = m + off := by rw [List.length_take]; omega
  have hR : (List.take off (List.take n (List.drop m l))).length = off := by simp only [List.length_take, List.length_drop]; omega
  simp only [List.append_assoc, List.getElem?_append, hL, hR, List.getElem?_take, List.getElem?_drop]
  repeat' split
  all_goals first
    | rfl
    | (exfalso; omega)
    | (congr 1; omega)
theorem Fl.row_set {xs : List α} {i : Nat} {x : α} (h : i < xs.length) : t.row (xs.set i x) = (t.row xs).take (i * t.sz)++t.enc x++(t.row xs).drop ((i+1) * t.sz):=by
 rw [List.set_eq_take_append_cons_drop,if_pos h,Fl.row_append,Fl.row_cons,Fl.row_take,Fl.row_drop,List.append_assoc]
theorem d_stEl {q : Nat} {x0 x' : α} (H : Holds w fm rs) (hr : rs[i]? = some (Own t e v xs)) (hop : o.op = .store T x y) (hs : ∀ w, (sizeOf T).run P w = .ok u.cells.size w) (hx : ρ x = .pointer (some (elp v (q * t.sz + j)))) (hy : ρ y = u)
    (h1 : ∀ z ∈ u.cells.toList, z.oneCell' = true) (hq : xs[q]? = some x0) (hj : j + u.cells.size ≤ t.sz) (he : t.enc x' = (t.enc x0).take j ++ u.cells.toList ++ (t.enc x0).drop (j + u.cells.size)) :
    Does P ρ o w fun v' w' => v' = undef ∧ Holds w' fm (rs.set i (Own t e v (xs.set q x'))) := by
  have hql : q < xs.length := (List.getElem?_eq_some_iff.1 hq).1
  rcases H.oks _ (mem_get hr) with ⟨_, hnil⟩ | ⟨b, off, c, cells, rfl, hc, hm, hb, hsz, hrow⟩
  · rw [hnil] at hql; simp at hql
  · have hqs : q * t.sz + t.sz ≤ xs.length * t.sz := by rw [← Nat.succ_mul]; exact Nat.mul_le_mul_right _ hql
    have hcs : xs.length * t.sz ≤ c * t.sz := Nat.mul_le_mul_right _ hc
    have hmid := mid_set (l := cells.toList) (m := off) (n := xs.length * t.sz) hrow (q * t.sz + j) u.cells.toList (by simp; omega) (by simp; omega)
    obtain ⟨w', hw, H'⟩ := put_cells (P := P) H hr (g := b) (off := off + (q * t.sz + j)) (cs := u.cells.toList) (T := e) rfl hb (by simp; omega) h1 (Own t e (.slice (some ⟨b, off, none⟩) xs.length c) (xs.set q x')) (fun b hb => hb) (fun h hh _ => by
      refine .inr ⟨b, off, c, _, by rw [List.length_set], by rw [List.length_set]; exact hc, hm, hh, ?_, ?_⟩
      · simp only [List.size_toArray, List.length_append, List.length_take, List.length_drop, Array.length_toList]; omega
      · rw [List.length_set, hmid, Fl.row_set hql, he]
        have hd : (t.row xs).drop (q * t.sz) = t.enc x0 ++ (t.row xs).drop ((q + 1) * t.sz) := by
          have h2 := List.drop_eq_getElem_cons hql
          rw [← Fl.row_drop, ← Fl.row_drop, h2, Fl.row_cons]
          rw [(List.getElem?_eq_some_iff.1 hq).2]
        have ht : (t.row xs).take (q * t.sz + j) = (t.row xs).take (q * t.sz) ++ (t.enc x0).take j := by
          rw [List.take_add, hd, List.take_append_of_le_length (by rw [t.len]; omega)]
        have hd2 : (t.row xs).drop (q * t.sz + j + u.cells.toList.length) = (t.enc x0).drop (j + u.cells.size) ++ (t.row xs).drop ((q + 1) * t.sz) := by
          rw [Nat.add_assoc, ← List.drop_drop, hd, List.drop_append_of_le_length (by rw [t.len, Array.length_toList]; omega), Array.length_toList]
        rw [ht, hd2]; simp only [List.append_assoc])
    have ha : elp (.slice (some ⟨b, off, none⟩) xs.length c) (q * t.sz + j) = ⟨b, off + (q * t.sz + j), none⟩ := Addr.add_lit _ _ _
    rw [ha] at hx
    exact Does.skip (w' := w') (by simp [execOp, hop, Instr.storeAt, Instr.sureAddr, hx, hy, run_storeVar _ hs, hw]) ⟨rfl, H'⟩
theorem run_app (H : Holds w fm rs) (hr : rs[i]? = some (Own t e v xs)) (hR : Rd t (hp w) u ys) {ty : TypeId} {zb : Nat} {zv : Value} (ht : P.underlying T = some (.slice e)) {inf : TypeInfo} (hinf : P.info? e = some inf) (hz : inf.zero = some zv) (hsz : inf.size = t.sz) (hby : inf.bytes = zb) (hzv : zv.cells.size = t.sz)
    (hl : (xs.length + ys.length) * zb ≤ 140737488355328) (hzb : 0 < zb) : ∃ v' w', (Builtin.append_ #[T, T] ty #[v, u]).run P w = .ok v' w' ∧ Holds w' fm (rs.set i (Own t e v' (xs ++ ys))) := by
  obtain ⟨A, c, rfl, hc, hm, h3⟩ := hR
  have h63 : xs.length + ys.length ≤ 140737488355328 := Nat.le_trans (Nat.le_mul_of_pos_right _ hzb) hl
  have hrl : (t.row ys).length = ys.length * inf.size := by rw [Fl.row_len, hsz]
  have hlen : (xs ++ ys).length = xs.length + ys.length := List.length_append
  -- a new block
  have grown : ∀ (old : Nat), Holds (w.drew.alloc (.cells ((t.row xs).toArray ++ (t.row ys).toArray ++ Builtin.zeroCells zv.cells (grownCap w (xs.length + ys.length) old e - (xs.length + ys.length))) e)) fm
      (rs.set i (Own t e (.slice (some ⟨w.heap.size, 0, none⟩) (xs.length + ys.length) (grownCap w (xs.length + ys.length) old e)) (xs ++ ys))) := fun old => by
    have hge := grownCap_ge w (xs.length + ys.length) old e
    have hmx : grownCap w (xs.length + ys.length) old e ≤ maxLen := grownCap_le_maxLen w _ old e (by unfold maxLen; omega)
    refine H.chg (w' := w.drew.alloc (.cells ((t.row xs).toArray ++ (t.row ys).toArray ++ Builtin.zeroCells zv.cells (grownCap w (xs.length + ys.length) old e - (xs.length + ys.length))) e)) hr rfl rfl rfl (fun b hb _ => Below.heap_alloc w.drew _ b hb) (Own t e (.slice (some ⟨w.heap.size, 0, none⟩) (xs.length + ys.length) (grownCap w (xs.length + ys.length) old e)) (xs ++ ys)) (fun b hb => .inr (by obtain rfl : w.heap.size = b := Option.some.inj hb; exact Nat.le_refl _)) (.inr ⟨w.heap.size, 0, _, _, by rw [hlen], by rw [hlen]; exact hge, hmx, heap_alloc_new w.drew _, ?_, ?_⟩)
    · simp only [Array.size_append, List.size_toArray, size_zeroCells, hzv, Fl.row_len, ← Nat.add_mul]
      have : xs.length + ys.length + (grownCap w (xs.length + ys.length) old e - (xs.length + ys.length)) = grownCap w (xs.length + ys.length) old e := by omega
      rw [this]; omega
    · rw [List.drop_zero, Fl.row_append, hlen]
      simp only [Array.toList_append, List.append_assoc]
      rw [← List.append_assoc]
      have : (xs.length + ys.length) * t.sz = (t.row xs ++ t.row ys).length := by rw [List.length_append, Fl.row_len, Fl.row_len, Nat.add_mul]
      rw [this]; exact List.take_left
  have same : ys = [] → ∀ v', v' = v → Holds w fm (rs.set i (Own t e v' (xs ++ ys))) := fun hy v' hv => by
    subst hy; subst hv
    rw [List.append_nil]
    exact H.chg hr rfl rfl rfl (fun _ _ _ => rfl) (Own t e v' xs) (fun b hb => .inl hb) (H.oks _ (mem_get hr))
  rcases H.oks _ (mem_get hr) with ⟨rfl, rfl⟩ | ⟨b, off, cap, cells, rfl, hxc, hcm, hb, hfit, hrow⟩
  · cases hy : ys with
    | nil =>
      subst hy
      refine ⟨_, w, ?_, same rfl _ rfl⟩
      cases A <;> simp [Builtin.append_, run_underlying ht, sizeOf, typeInfo, hinf, Builtin.lenOf, Builtin.firstCells, loadCells, loadCellsFrom]
    | cons y ys' =>
      rw [← hy]
      have hn : 0 < ys.length := by rw [hy]; simp
      have hrow0 : ∃ u, (t.row ys)[0]? = some u := by
        have : 0 < (t.row ys).length := by rw [Fl.row_len]; exact Nat.mul_pos hn t.pos
        exact ⟨_, List.getElem?_eq_getElem this⟩
      obtain ⟨u0, hu0⟩ := hrow0
      obtain ⟨a, rfl, _⟩ := h3 _ _ hu0
      have hr' := run_append_nil (P := P) w T ty e inf zv ht hinf hz a ys.length c (t.row ys) hrl (fun j u hu => by obtain ⟨a', ea, ha⟩ := h3 j u hu; obtain rfl := Option.some.inj ea; exact ha) hn (by omega) (by rw [hby]; simp only [List.length_nil, Nat.zero_add] at hl; omega)
      have hg := grown 0
      simp only [List.length_nil, Nat.zero_add, List.nil_append, Fl.row_nil, Array.empty_append] at hg
      exact ⟨_, _, hr', by simpa using hg⟩
  · have hold : ∀ j u, (t.row xs)[j]? = some u → w.cell? ((⟨b, off, none⟩ : Addr).add j) = some u := fun j u hu => by
      obtain ⟨A', c', hv, _, _, h3'⟩ := H.own hr
      obtain ⟨a', ea, ha⟩ := h3' j u hu
      simp only [Value.slice.injEq] at hv
      rw [ea] at hv
      obtain rfl := Option.some.inj hv.1
      exact ha
    by_cases hroom : xs.length + ys.length ≤ cap
    · have hb' : w.heap[b]? = some (.cells cells e (0, 0)) := hb
      have hfits : (xs.length + ys.length) * t.sz ≤ cap * t.sz := Nat.mul_le_mul_right _ hroom
      rw [Nat.add_mul] at hfits
      have hmid := mid_set (l := cells.toList) (m := off) (n := (xs.length + ys.length) * t.sz) (r := (cells.toList.drop off).take ((xs.length + ys.length) * t.sz)) rfl (xs.length * t.sz) (t.row ys) (by rw [Fl.row_len, Nat.add_mul]; omega) (by rw [Nat.add_mul]; simp; omega)
      obtain ⟨w', hw, H'⟩ := put_cells (P := P) H hr (g := b) (off := off + xs.length * t.sz) (cs := t.row ys) (T := e) rfl hb' (by rw [Fl.row_len]; omega) (Fl.row_one ys) (Own t e (.slice (some ⟨b, off, none⟩) (xs.length + ys.length) cap) (xs ++ ys)) (fun b hb => hb) (fun h hh _ => by
        refine .inr ⟨b, off, cap, _, by rw [hlen], by rw [hlen]; exact hroom, hcm, hh, ?_, ?_⟩
        · simp only [List.size_toArray, List.length_append, List.length_take, List.length_drop, Array.length_toList, Fl.row_len]; omega
        · rw [hlen, hmid, Fl.row_append, List.take_take, Nat.min_eq_left (by rw [Nat.add_mul]; omega), hrow]
          rw [List.drop_of_length_le (by rw [List.length_take, List.length_drop, Fl.row_len, Nat.add_mul]; omega), List.append_nil])
      refine ⟨_, w', ?_, H'⟩
      cases A with
      | none =>
        have hy0 : ys = [] := by
          cases ys with
          | nil => rfl
          | cons y ys' =>
            have hl0 : 0 < (t.row (y :: ys')).length := by rw [Fl.row_len]; exact Nat.mul_pos (by simp) t.pos
            obtain ⟨a, ea, _⟩ := h3 0 _ (List.getElem?_eq_getElem hl0)
            cases ea
        subst hy0
        simp only [Fl.row_nil, storeCells] at hw
        simp only [List.length_nil, Nat.add_zero] at hroom ⊢
        simp [Builtin.append_, run_underlying ht, sizeOf, typeInfo, hinf, Builtin.lenOf, hroom, Builtin.firstCells, storeCells, Addr.add_lit] at hw ⊢
        exact hw
      | some a =>
        have hf := run_firstCells_some (P := P) w inf.size ys.length a ys.length c (t.row ys) hrl (fun j u hu => by obtain ⟨a', ea, ha⟩ := h3 j u hu; obtain rfl := Option.some.inj ea; exact ha)
        rw [← hsz] at hw
        simp [Builtin.append_, run_underlying ht, sizeOf, typeInfo, hinf, Builtin.lenOf, hroom, hf, Addr.add_lit, hw]
    · have hy : ys ≠ [] := fun e => by subst e; simp at hroom; omega
      have hl0 : 0 < (t.row ys).length := by rw [Fl.row_len]; exact Nat.mul_pos (List.length_pos_iff.2 hy) t.pos
      obtain ⟨a, rfl, _⟩ := h3 0 _ (List.getElem?_eq_getElem hl0)
      have hr' := run_append_grow (P := P) w T ty e inf zv ht hinf hz ⟨b, off, none⟩ xs.length cap (t.row xs) (by rw [Fl.row_len, hsz]) hold a ys.length c (t.row ys) hrl (fun j u hu => by obtain ⟨a', ea, ha⟩ := h3 j u hu; obtain rfl := Option.some.inj ea; exact ha) (by omega) (by omega) (growslice_fits (by omega) (by rw [hby]; exact hl))
      exact ⟨_, _, hr', grown cap⟩
theorem d_app (H : Holds w fm rs) (hr : rs[i]? = some (Own t e v xs)) (hR : Rd t (hp w) u ys) (hop : o.op = .call { callee := .builtin .append, args := #[x, y], argTypes := #[T, T] }) (hx : ρ x = v) (hy : ρ y = u) {zb : Nat} {zv : Value} (ht : P.underlying T = some (.slice e))
    {inf : TypeInfo} (hinf : P.info? e = some inf) (hz : inf.zero = some zv) (hsz : inf.size = t.sz) (hby : inf.bytes = zb) (hzv : zv.cells.size = t.sz) (hl : (xs.length + ys.length) * zb ≤ 140737488355328) (hzb : 0 < zb) :
    Does P ρ o w fun v' w' => Holds w' fm (rs.set i (Own t e v' (xs ++ ys))) := by
  obtain ⟨v', w', hr', H'⟩ := run_app (P := P) (ty := o.type) H hr hR ht hinf hz hsz hby hzv hl hzb
  refine Does.of (v := v') (w' := w') ?_ H'
  simp only [execOp, hop, resolve, invoke, builtin, Sem.run_bind, Sem.run_pure, Result.andThen_ok, List.map_toArray, List.map_cons, List.map_nil, hx, hy, hr']
theorem d_bs {parts : Array (Nat × Operand)} {cs : Array Value} {z0 : Value} {n : Nat} (t : Fl α) (ys : List α) (H : Holds w fm rs) (hop : o.op = .buildSlice T n parts) (ht : P.underlying T = some (.slice e)) {inf : TypeInfo} (hinf : P.info? e = some inf) (hz0 : inf.zero = some z0) (hz1 : inf.size = t.sz) (hn : ys.length = n) (hb : n * t.sz ≤ 16777216)
    (hf : Instr.fill (fun i => some (i * t.sz, t.sz)) ((Array.range (n * t.sz)).map fun j => z0.cells[j % z0.cells.size]!) (parts.toList.map fun p => (p.1, ρ p.2)) = some cs) (hc : cs.toList = t.row ys) :
    Does P ρ o w fun v' w' => Holds w' fm (Own t e v' ys :: rs) := by
  have hz : inf.zero = some z0 ∧ inf.size = t.sz := ⟨hz0, hz1⟩
  have hcl : cs.size = n * t.sz := by rw [← Array.length_toList, hc, Fl.row_len, hn]
  have hrun : (Instr.buildSlice T n (parts.map fun p => (p.1, ρ p.2))).run P w = .ok (.slice (some ⟨w.heap.size, 0, none⟩) n n) (w.alloc (.cells cs e)) := by
    have hbig : ¬ (16777216 < n * t.sz) := by omega
    by_cases h0 : n * t.sz = 0
    · have hn0 : n = 0 := by rcases Nat.mul_eq_zero.1 h0 with h | h; exact h; have := t.pos; omega
      have hf' : Instr.fill (fun i => some (i * t.sz, t.sz)) #[] (parts.toList.map fun p => (p.1, ρ p.2)) = some cs := by
        rw [h0] at hf; have e0 : ∀ g : Nat → Value, Array.map g (Array.range 0) = #[] := fun g => by simp
        rw [e0] at hf; exact hf
      subst hn0
      have e0 : ∀ g : Nat → Value, Array.map g (Array.range 0) = #[] := fun g => by simp
      simp [e0, Instr.buildSlice, run_underlying ht, sizeOf, typeInfo, hinf, hz.2, newRow, zeroValue, hf']
    · simp [Instr.buildSlice, run_underlying ht, sizeOf, typeInfo, hinf, hz.2, hz.1, newRow, zeroValue, hbig, h0]
      have hf' : Instr.fill (fun i => some (i * t.sz, t.sz)) (Array.map (fun j => z0.cells[j % z0.cells.size]!) (Array.range (n * t.sz))) (List.map (fun p => (p.1, ρ p.2)) parts.toList) = some cs := hf
      simp [hf']
  refine Does.of (v := .slice (some ⟨w.heap.size, 0, none⟩) n n) (w' := w.alloc (.cells cs e)) (by simp only [execOp, hop]; simpa using congrArg (fun r => r.andThen fun a w' => Result.ok (Next.value a) w') hrun) (H.alloc _ _ (fun b hb => (Option.some.inj hb).symm) (.inr ⟨w.heap.size, 0, n, cs, by rw [hn], by omega, ?_, alloc_ok _ _, by omega, ?_⟩))
  · have : n ≤ n * t.sz := Nat.le_mul_of_pos_right _ t.pos
    unfold maxLen; omega
  · rw [List.drop_zero, hn, List.take_of_length_le (by rw [Array.length_toList]; omega), hc]
theorem d_call {f : FuncId} {args : Array Value} {xs : Array Operand} {ts : Array TypeId} {K : Value→World→Prop} (hop : o.op = .call { callee:=.value (.func f),args:=xs,argTypes:=ts }) (hρ : ρ (.func f) = .func (.func f) #[] #[]) (ha : xs.map ρ = args) (hC : ∀ args w,(callFunc f args).run P w = .ok (.enter f args) w) (hc : Calls P f args w (Rt K)) : Does P ρ o w K:=by
 refine Does.call (f:=f) (args:=args) ?_ hc
 subst ha
 simp [execOp,hop,resolve,hρ,Deferred.ofValue,invoke,hC]
end
end Sl
end
section
namespace Sl
open RowKit
def bs (xs : List Int) : ByteArray:=⟨(xs.map fun x=>UInt8.ofNat x.toNat).toArray⟩
def ss (s : ByteArray) : List Int:=s.data.toList.map fun b=>(b.toNat : Int)
def Bs (xs : List Int) : Prop:=∀ x ∈ xs,0≤x∧x < 256
theorem Bs.nil : Bs []:=fun _ h=>(List.not_mem_nil h).elim
theorem Bs.append {xs ys : List Int} (h : Bs xs) (h' : Bs ys) : Bs (xs++ys):=fun x hx=>(List.mem_append.1 hx).elim (h x) (h' x)
theorem Bs.one {x : Int} (h : 0≤x∧x < 256) : Bs [x]:=fun y hy=>by rw [List.mem_singleton.1 hy];exact h
theorem Bs.take {xs : List Int} (h : Bs xs) (n : Nat) : Bs (xs.take n):=fun x hx=>h x (List.mem_of_mem_take hx)
theorem Bs.drop {xs : List Int} (h : Bs xs) (n : Nat) : Bs (xs.drop n):=fun x hx=>h x (List.mem_of_mem_drop hx)
theorem Bs.left {xs ys : List Int} (h : Bs (xs++ys)) : Bs xs:=fun x hx=>h x (List.mem_append_left _ hx)
theorem Bs.right {xs ys : List Int} (h : Bs (xs++ys)) : Bs ys:=fun x hx=>h x (List.mem_append_right _ hx)
theorem Bs.ss (s : ByteArray) : Bs (ss s):=fun x hx=>by
 obtain ⟨b,_,rfl⟩:=List.mem_map.1 hx
 have:=b.toNat_lt
 exact ⟨Int.natCast_nonneg _,by omega⟩
theorem Bs.getD {xs : List Int} (h : Bs xs) (i : Nat) : 0≤xs.getD i 0∧xs.getD i 0 < 256:=by
 rw [List.getD_eq_getElem?_getD]
 cases hi : xs[i]? with
 | none=>simp
 | some x=>exact h x (List.mem_of_getElem? hi)
theorem size_bs (xs : List Int) : (bs xs).size = xs.length:=by unfold bs ByteArray.size;simp
theorem size_ss (s : ByteArray) : (ss s).length = s.size:=by unfold ss;rw [List.length_map,Array.length_toList];rfl
theorem bs_ss (s : ByteArray) : bs (ss s) = s:=by
 apply Go.WideShapes.bytes_inj
 simp only [bs,ss,List.map_map]
 conv=>rhs;rw [← List.map_id s.data.toList]
 exact List.map_congr_left fun b _=>by simp
theorem ss_bs {xs : List Int} (h : Bs xs) : ss (bs xs) = xs:=by
 simp only [bs,ss,List.map_map]
 conv=>rhs;rw [← List.map_id xs]
 refine List.map_congr_left fun x hx=>?_
 have:=h x hx
 simp only [Function.comp,id,UInt8.toNat_ofNat']
 omega
section
variable {P : Program} {ρ : Operand→Value} {o : Oper} {w : World} {fm : Fm} {rs : List Res} {x y z : Operand} {T T' U e : TypeId} {k : IntKind} {X Y : Int} {v u : Value} {α : Type} {t : Fl α} {f : Hp} {xs ys : List α} {A : Addr} {n i j : Nat} {p : Nat} {cells : List Value} {s : ByteArray}
theorem Holds.ptCells (H : Holds w fm rs) (hi : rs[i]? = some (Pt p T cells)) (off : Nat) {cs : List Value} (hc : (cells.drop off).take cs.length = cs) : ∀ j u,cs[j]? = some u→w.cell? ((⟨p,off,none⟩ : Addr).add j) = some u:=fun j u hu=>by
 rw [Addr.add_lit]
 refine H.ptCell hi ?_
 rw [← hc,List.getElem?_take] at hu
 split at hu
 ·
  rwa [List.getElem?_drop] at hu
 ·
  cases hu
theorem foldl_push (ns : List Int) : ∀ r : ByteArray,ns.foldl (fun r n=>r.push (UInt8.ofNat n.toNat)) r = r++bs ns:=by
 induction ns with
 | nil=>intro r;apply Go.WideShapes.bytes_inj;simp [bs,ByteArray.data_append]
 | cons n ns ih =>
  intro r
  rw [List.foldl_cons,ih]
  apply Go.WideShapes.bytes_inj
  simp [bs,ByteArray.data_append,ByteArray.data_push]
theorem row_tI (k : IntKind) (xs : List Int) : (tI k).row xs = xs.map (Value.int k):=by
 induction xs with
 | nil=>rfl
 | cons x xs ih=>rw [Fl.row_cons,ih];rfl
theorem x_bs {xs : List Int} (h : Rd (tI .u8) (hp w) v xs) (hop : o.op = .convert T U x) (ht : P.underlying T = some (.slice e)) (he : P.underlying e = some (.int .u8)) (hu : P.underlying U = some .string) (hx : ρ x = v) :
    (execOp ρ o).run P w = .ok (.value (.string (bs xs))) w := by
  obtain ⟨A, c, rfl, hc, hm, h3⟩ := h
  have hrun : (Conv.bytesToString (.slice A xs.length c)).run P w = .ok (.string (bs xs)) w := by
    cases A with
    | none =>
      have : xs = [] := by
        cases xs with
        | nil => rfl
        | cons y ys => obtain ⟨a, ea, _⟩ := h3 0 (.int .u8 y) rfl; cases ea
      subst this
      rfl
    | some a =>
      have hl := run_loadCells_list (P := P) w a ((tI .u8).row xs) (fun j u hu => by obtain ⟨a', ea, ha⟩ := h3 j u hu; obtain rfl := Option.some.inj ea; exact ha)
      rw [Fl.row_len, show (tI .u8).sz = 1 from rfl, Nat.mul_one, row_tI] at hl
      rw [run_bytesToString w a xs.length c xs hl, foldl_push]
      rw [show ByteArray.empty ++ bs xs = bs xs from by apply Go.WideShapes.bytes_inj; simp [ByteArray.data_append]]
  have hcv : (convert T U (.slice A xs.length c)).run P w = .ok (.string (bs xs)) w := by
    cases A <;> simp [convert, run_underlying ht, run_underlying hu, run_underlying he] <;> exact hrun
  simp [execOp, hop, hx, hcv]
theorem run_appS (H : Holds w fm rs) {xs : List Int} (hr : rs[i]? = some (Own (tI .u8) e v xs)) {ty : TypeId} (ht : P.underlying T = some (.slice e)) (hu : P.underlying U = some .string) {inf : TypeInfo} (hinf : P.info? e = some inf) (hz : inf.zero = some (.int .u8 0)) (hsz : inf.size = 1) (hby : inf.bytes = 1)
    (hl : xs.length + s.size ≤ 140737488355328) : ∃ v' w', (Builtin.append_ #[T, U] ty #[v, .string s]).run P w = .ok v' w' ∧ Holds w' fm (rs.set i (Own (tI .u8) e v' (xs ++ ss s))) := by
  have hlen : (xs ++ ss s).length = xs.length + s.size := by rw [List.length_append, size_ss]
  have hrow : ∀ l : List Int, ((tI .u8).row l).length = l.length := fun l => by rw [Fl.row_len]; exact Nat.mul_one _
  have hdat : (s.data.map (fun b : UInt8 => Value.int .u8 (b.toNat : Int))).toList = (tI .u8).row (ss s) := by rw [row_tI]; simp [ss]
  have hext : s.extract 0 s.size = s := by
    apply Go.WideShapes.bytes_inj; simp [ByteArray.data_extract]
  have hfc : ∀ w' : World, (Builtin.firstCells 1 s.size (.string s)).run P w' = .ok ((tI .u8).row (ss s)).toArray w' := fun w' => by
    rw [← hdat]
    simp only [Builtin.firstCells, hext, Sem.run_pure, Array.toArray_toList]
  have grown : ∀ (old : Nat), Holds (w.alloc (.cells (((tI .u8).row xs).toArray ++ ((tI .u8).row (ss s)).toArray ++ Builtin.zeroCells #[.int .u8 0] (grownCap w (xs.length + s.size) old e - (xs.length + s.size))) e)).drew fm
      (rs.set i (Own (tI .u8) e (.slice (some ⟨w.heap.size, 0, none⟩) (xs.length + s.size) (grownCap w (xs.length + s.size) old e)) (xs ++ ss s))) := fun old => by
    have hge := grownCap_ge w (xs.length + s.size) old e
    have hmx : grownCap w (xs.length + s.size) old e ≤ maxLen := grownCap_le_maxLen w _ old e (by unfold maxLen; omega)
    refine (H.chg (w' := w.alloc (.cells (((tI .u8).row xs).toArray ++ ((tI .u8).row (ss s)).toArray ++ Builtin.zeroCells #[.int .u8 0] (grownCap w (xs.length + s.size) old e - (xs.length + s.size))) e)) hr rfl rfl rfl (fun b hb _ => Below.heap_alloc w _ b hb)
      (Own (tI .u8) e (.slice (some ⟨w.heap.size, 0, none⟩) (xs.length + s.size) (grownCap w (xs.length + s.size) old e)) (xs ++ ss s)) (fun b hb => .inr (by obtain rfl : w.heap.size = b := Option.some.inj hb; exact Nat.le_refl _)) (.inr ⟨w.heap.size, 0, _, _, by rw [hlen], by rw [hlen]; exact hge, hmx, heap_alloc_new w _, ?_, ?_⟩)).drew
    · simp only [Array.size_append, List.size_toArray, size_zeroCells, hrow, size_ss]
      show 0 + _ * 1 ≤ _ + _ * 1
      omega
    · rw [List.drop_zero, Fl.row_append, hlen]
      simp only [Array.toList_append, List.append_assoc]
      rw [← List.append_assoc]
      have : (xs.length + s.size) * (tI .u8).sz = ((tI .u8).row xs ++ (tI .u8).row (ss s)).length := by rw [List.length_append, hrow, hrow, size_ss]; exact Nat.mul_one _
      rw [this]; exact List.take_left
  have hmod : ∀ c : Nat, Builtin.zeroCells (Value.int .u8 0).cells c = Builtin.zeroCells #[.int .u8 0] c := fun _ => rfl
  rcases H.oks _ (mem_get hr) with ⟨rfl, rfl⟩ | ⟨b, off, cap, cells, rfl, hxc, hcm, hb, hfit, hrw⟩
  · by_cases h0 : s.size = 0
    · refine ⟨.slice none 0 0, w, ?_, ?_⟩
      · simp [Builtin.append_, run_underlying ht, run_underlying hu, sizeOf, typeInfo, hinf, Builtin.lenOf, h0, hsz]
        rw [← h0, hfc]; rfl
      · have : ss s = [] := List.eq_nil_of_length_eq_zero (by rw [size_ss]; exact h0)
        rw [this, List.append_nil]
        exact H.chg hr rfl rfl rfl (fun _ _ _ => rfl) (Own (tI .u8) e (.slice none 0 0) []) (fun b hb => .inl hb) (H.oks _ (mem_get hr))
    · have hr' := run_append_nil_string (P := P) w T U ty e inf _ ht hu hinf hz s (by omega) (by omega) (by rw [hby]; omega)
      have hg := grown 0
      simp only [List.length_nil, Nat.zero_add, List.nil_append, Fl.row_nil, Array.empty_append] at hg
      have hda : s.data.map (fun b : UInt8 => Value.int .u8 (b.toNat : Int)) = ((tI .u8).row (ss s)).toArray := by rw [← hdat, Array.toArray_toList]
      rw [hda] at hr'
      exact ⟨_, _, hr', hg.same rfl rfl rfl rfl⟩
  · have hold : (Builtin.firstCells 1 xs.length (.slice (some ⟨b, off, none⟩) xs.length cap)).run P w.drew = .ok ((tI .u8).row xs).toArray w.drew :=
      run_firstCells_some (P := P) w.drew 1 xs.length ⟨b, off, none⟩ xs.length cap ((tI .u8).row xs) (by rw [hrow, Nat.mul_one]) (fun j u hu => by
        obtain ⟨A', c', hv, _, _, h3'⟩ := H.drew.own hr
        obtain ⟨a', ea, ha⟩ := h3' j u hu
        simp only [Value.slice.injEq] at hv
        rw [ea] at hv
        obtain rfl := Option.some.inj hv.1
        exact ha)
    have hcap1 : cap * (tI .u8).sz = cap := Nat.mul_one _
    have hxl1 : xs.length * (tI .u8).sz = xs.length := Nat.mul_one _
    by_cases hroom : xs.length + s.size ≤ cap
    · have hmid := mid_set (l := cells.toList) (m := off) (n := xs.length + s.size) (r := (cells.toList.drop off).take (xs.length + s.size)) rfl xs.length ((tI .u8).row (ss s)) (by rw [hrow, size_ss]; exact Nat.le_refl _) (by simp; omega)
      obtain ⟨w', hw, H'⟩ := put_cells (P := P) H hr (g := b) (off := off + xs.length) (cs := (tI .u8).row (ss s)) (T := e) rfl hb (by rw [hrow, size_ss]; omega) (Fl.row_one _) (Own (tI .u8) e (.slice (some ⟨b, off, none⟩) (xs.length + s.size) cap) (xs ++ ss s)) (fun b hb => hb) (fun h hh _ => by
        refine .inr ⟨b, off, cap, _, by rw [hlen], by rw [hlen]; exact hroom, hcm, hh, ?_, ?_⟩
        · simp only [List.size_toArray, List.length_append, List.length_take, List.length_drop, Array.length_toList, hrow, size_ss]; omega
        · rw [hlen, show (xs.length + s.size) * (tI .u8).sz = xs.length + s.size from Nat.mul_one _, hmid, Fl.row_append, List.take_take, Nat.min_eq_left (by omega), ← hxl1, hrw]
          rw [List.drop_of_length_le (by rw [List.length_take, List.length_drop, hrow, size_ss]; omega), List.append_nil])
      refine ⟨_, w', ?_, H'⟩
      simp [Builtin.append_, run_underlying ht, run_underlying hu, sizeOf, typeInfo, hinf, hsz, Builtin.lenOf, hroom, hfc, Addr.add_lit, hw]
    · have hn : ¬ (xs.length + s.size ≤ cap) := hroom
      have h63' : ¬ (9223372036854775807 < ((xs.length : Int) + (s.size : Int))) := by omega
      have hgs := growslice_fits (need := xs.length + s.size) (old := cap) (bytes := 1) (by omega) (by omega)
      have hgs' : Builtin.nextslicecap (xs.length + s.size) cap ≤ 281474976710656 := by omega
      refine ⟨.slice (some ⟨w.heap.size, 0, none⟩) (xs.length + s.size) (grownCap w (xs.length + s.size) cap e), _, ?_, grown cap⟩
      have hold' := hold
      simp only [World.drew] at hold'
      simp [Builtin.append_, run_underlying ht, run_underlying hu, sizeOf, typeInfo, zeroValue, hinf, hz, hsz, hby, Builtin.lenOf, hn, h63', Nat.not_lt.2 hgs', Question.forced, newRow, grownCap, hfc, hold, Value.cells]
      rw [← Array.append_assoc]
      have e1 : ((tI .u8).row xs).toArray ++ ((tI .u8).row (ss s)).toArray = ((tI .u8).row xs ++ (tI .u8).row (ss s)).toArray := by simp
      rw [e1]; rfl
theorem d_appS (H : Holds w fm rs) {xs : List Int} (hr : rs[i]? = some (Own (tI .u8) e v xs)) (hop : o.op = .call { callee := .builtin .append, args := #[x, y], argTypes := #[T, U] }) (hx : ρ x = v) (hy : ρ y = .string s) (ht : P.underlying T = some (.slice e)) (hu : P.underlying U = some .string) (he : P.underlying e = some (.int .u8)) {inf : TypeInfo} (hinf : P.info? e = some inf) (hz : inf.zero = some (.int .u8 0)) (hsz : inf.size = 1) (hby : inf.bytes = 1)
    (hl : xs.length + s.size ≤ 140737488355328) : Does P ρ o w fun v' w' => Holds w' fm (rs.set i (Own (tI .u8) e v' (xs ++ ss s))) := by
  obtain ⟨v', w', hr', H'⟩ := run_appS (P := P) (ty := o.type) H hr ht hu hinf hz hsz hby hl
  refine Does.of (v := v') (w' := w') ?_ H'
  simp only [execOp, hop, resolve, invoke, builtin, Sem.run_bind, Sem.run_pure, Result.andThen_ok, List.map_toArray, List.map_cons, List.map_nil, hx, hy, hr']
theorem x_field {fs : Array Field} {fl : Field} {cs : Array Value} (hop : o.op = .field T x i) (ht : P.underlying T = some (.struct fs)) (hf : fs[i]? = some fl) (hA : ∀ w,(isAgg fl.type).run P w = .ok false w) (hx : ρ x = .agg cs) (hc : cs[fl.offset]? = some v) : (execOp ρ o).run P w = .ok (.value v) w:=by
 simp [execOp,hop,Instr.field,run_underlying ht,hf,hx,asAgg,part,hA,hc]
end
section
variable {ρ : Operand→Value} {x1 x2 x3 x4 x5 x6 : Operand} {u1 u2 u3 u4 u5 u6 : Value}
theorem map1 (h1 : ρ x1 = u1) : (#[x1] : Array Operand).map ρ = #[u1]:=by simp [h1]
end
theorem on0 : ∀ u ∈ ([] : List Value),u.oneCell' = true:=fun _ h=>(List.not_mem_nil h).elim
theorem oc {x : Value} {l : List Value} (h : x.oneCell' = true) (hs : ∀ u ∈ l,u.oneCell' = true) : ∀ u ∈ x::l,u.oneCell' = true:=fun u hu=>(List.mem_cons.1 hu).elim (fun e=>e ▸ h) (hs u)
theorem ieq {k : IntKind} {X Y : Int} (h : X = Y) : Value.int k X = .int k Y:=by rw [h]
theorem beq {b c : Bool} (h : b = c) : Value.bool b = .bool c:=by rw [h]
theorem rem_nn {X Y : Int} (h : 0≤X) : X.tmod Y = X % Y:=Int.tmod_eq_emod_of_nonneg h
theorem tdiv_nn {X Y : Int} (h : 0≤X) : X.tdiv Y = X / Y:=Int.tdiv_eq_ediv_of_nonneg h
theorem div_le {X Y : Int} (h : 0≤X) (hy : 0 < Y) : 0≤X / Y∧X / Y≤X:=⟨Int.ediv_nonneg h (by omega),Int.ediv_le_self _ h⟩
theorem quo_i64 {X Y : Int} (h : 0≤X) (hy : 0 < Y) (hx : X≤9223372036854775807) : IntKind.i64.wrap (X.tdiv Y) = X / Y:=by
 rw [tdiv_nn h];have:=div_le h hy;exact wr_i64 ⟨by omega,by omega⟩
theorem bn_and_i64 {a b : Nat} (ha : a≤9223372036854775807) (hb : b≤9223372036854775807) : bits .and .i64 (a : Int) (b : Int) = ((a &&& b : Nat) : Int):=by
 have hx : a &&& b < 2 ^ 63:=Nat.and_lt_two_pow _ (by omega)
 show IntKind.i64.wrap ((BitVec.ofInt 64 (a : Int) &&& BitVec.ofInt 64 (b : Int)).toNat : Int) = _
 rw [BitVec.toNat_and,BitVec.ofInt_natCast,BitVec.ofInt_natCast,BitVec.toNat_ofNat,BitVec.toNat_ofNat,Nat.mod_eq_of_lt (by omega),Nat.mod_eq_of_lt (by omega)]
 exact wr_i64 ⟨by omega,by omega⟩
theorem and_i64 {X : Int} {M m : Nat} (h : 0≤X∧X≤9223372036854775807) (hM : M+1 = 2 ^ m) (hk : M≤9223372036854775807) : bits .and .i64 X (M : Int) = X % ((M+1 : Nat) : Int):=by
 obtain ⟨a,rfl⟩:=Int.eq_ofNat_of_zero_le h.1
 rw [bn_and_i64 (by omega) hk,hM,show M = 2 ^ m - 1 by omega,Nat.and_two_pow_sub_one_eq_mod];rfl
theorem bn_and_u8 {a b : Nat} (ha : a≤255) (hb : b≤255) : bits .and .u8 (a : Int) (b : Int) = ((a &&& b : Nat) : Int):=by
 have hx : a &&& b < 2 ^ 8:=Nat.and_lt_two_pow _ (by omega)
 show IntKind.u8.wrap ((BitVec.ofInt 8 (a : Int) &&& BitVec.ofInt 8 (b : Int)).toNat : Int) = _
 rw [BitVec.toNat_and,BitVec.ofInt_natCast,BitVec.ofInt_natCast,BitVec.toNat_ofNat,BitVec.toNat_ofNat,Nat.mod_eq_of_lt (by omega),Nat.mod_eq_of_lt (by omega)]
 exact wr_u8 ⟨by omega,by omega⟩
theorem bn_or_u8 {a b : Nat} (ha : a≤255) (hb : b≤255) : bits .or .u8 (a : Int) (b : Int) = ((a ||| b : Nat) : Int):=by
 have hx : a ||| b < 2 ^ 8:=Nat.or_lt_two_pow (by omega) (by omega)
 show IntKind.u8.wrap ((BitVec.ofInt 8 (a : Int) ||| BitVec.ofInt 8 (b : Int)).toNat : Int) = _
 rw [BitVec.toNat_or,BitVec.ofInt_natCast,BitVec.ofInt_natCast,BitVec.toNat_ofNat,BitVec.toNat_ofNat,Nat.mod_eq_of_lt (by omega),Nat.mod_eq_of_lt (by omega)]
 exact wr_u8 ⟨by omega,by omega⟩
theorem and_u8 {X : Int} {M m : Nat} (h : 0≤X∧X≤255) (hM : M+1 = 2 ^ m) (hk : M≤255) : bits .and .u8 X (M : Int) = X % ((M+1 : Nat) : Int):=by
 obtain ⟨a,rfl⟩:=Int.eq_ofNat_of_zero_le h.1
 rw [bn_and_u8 (by omega) hk,hM,show M = 2 ^ m - 1 by omega,Nat.and_two_pow_sub_one_eq_mod];rfl
theorem quo_u64 {X Y : Int} (h : 0≤X) (hy : 0 < Y) (hx : X≤18446744073709551615) : IntKind.u64.wrap (X.tdiv Y) = X / Y:=by
 rw [tdiv_nn h];have:=div_le h hy;exact wr_u64 ⟨by omega,by omega⟩
theorem bn_and_u64 {a b : Nat} (ha : a≤18446744073709551615) (hb : b≤18446744073709551615) : bits .and .u64 (a : Int) (b : Int) = ((a &&& b : Nat) : Int):=by
 have hx : a &&& b < 2 ^ 64:=Nat.and_lt_two_pow _ (by omega)
 show IntKind.u64.wrap ((BitVec.ofInt 64 (a : Int) &&& BitVec.ofInt 64 (b : Int)).toNat : Int) = _
 rw [BitVec.toNat_and,BitVec.ofInt_natCast,BitVec.ofInt_natCast,BitVec.toNat_ofNat,BitVec.toNat_ofNat,Nat.mod_eq_of_lt (by omega),Nat.mod_eq_of_lt (by omega)]
 exact wr_u64 ⟨by omega,by omega⟩
theorem bn_or_u64 {a b : Nat} (ha : a≤18446744073709551615) (hb : b≤18446744073709551615) : bits .or .u64 (a : Int) (b : Int) = ((a ||| b : Nat) : Int):=by
 have hx : a ||| b < 2 ^ 64:=Nat.or_lt_two_pow (by omega) (by omega)
 show IntKind.u64.wrap ((BitVec.ofInt 64 (a : Int) ||| BitVec.ofInt 64 (b : Int)).toNat : Int) = _
 rw [BitVec.toNat_or,BitVec.ofInt_natCast,BitVec.ofInt_natCast,BitVec.toNat_ofNat,BitVec.toNat_ofNat,Nat.mod_eq_of_lt (by omega),Nat.mod_eq_of_lt (by omega)]
 exact wr_u64 ⟨by omega,by omega⟩
theorem bn_xor_u64 {a b : Nat} (ha : a≤18446744073709551615) (hb : b≤18446744073709551615) : bits .xor .u64 (a : Int) (b : Int) = ((a ^^^ b : Nat) : Int):=by
 have hx : a ^^^ b < 2 ^ 64:=Nat.xor_lt_two_pow (by omega) (by omega)
 show IntKind.u64.wrap ((BitVec.ofInt 64 (a : Int) ^^^ BitVec.ofInt 64 (b : Int)).toNat : Int) = _
 rw [BitVec.toNat_xor,BitVec.ofInt_natCast,BitVec.ofInt_natCast,BitVec.toNat_ofNat,BitVec.toNat_ofNat,Nat.mod_eq_of_lt (by omega),Nat.mod_eq_of_lt (by omega)]
 exact wr_u64 ⟨by omega,by omega⟩
theorem and_u64 {X : Int} {M m : Nat} (h : 0≤X∧X≤18446744073709551615) (hM : M+1 = 2 ^ m) (hk : M≤18446744073709551615) : bits .and .u64 X (M : Int) = X % ((M+1 : Nat) : Int):=by
 obtain ⟨a,rfl⟩:=Int.eq_ofNat_of_zero_le h.1
 rw [bn_and_u64 (by omega) hk,hM,show M = 2 ^ m - 1 by omega,Nat.and_two_pow_sub_one_eq_mod];rfl
end Sl
end
section
namespace Sl
open RowKit
def upd (i : Nat) (done : Nat→Bool) : Nat→Bool:=fun k=>cond (Nat.beq k i) true (done k)
def updv (i : Nat) (v : Value) (val : Nat→Value) : Nat→Value:=fun k=>cond (Nat.beq k i) v (val k)
theorem beq_ne {a b : Nat} (h : a ≠ b) : Nat.beq a b = false:=by
 cases hb : Nat.beq a b with
 | false=>rfl
 | true=>exact absurd (Nat.eq_of_beq_eq_true hb) h
theorem upd_same (i : Nat) (done : Nat→Bool) : upd i done i = true:=by simp [upd]
theorem upd_ne {i k : Nat} (done : Nat→Bool) (h : k ≠ i) : upd i done k = done k:=by simp [upd,beq_ne h]
theorem updv_same (i : Nat) (v : Value) (val : Nat→Value) : updv i v val i = v:=by simp [updv]
theorem updv_ne {i k : Nat} (v : Value) (val : Nat→Value) (h : k ≠ i) : updv i v val k = val k:=by simp [updv,beq_ne h]
def deps (o : Oper) : List Nat:=(o.after.toList.filter (Region.binds .any)).map (·.on)
theorem mem_deps {o : Oper} {j : Nat} : j ∈ deps o ↔ ∃ e ∈ o.after,Region.binds .any e = true∧e.on = j:=by
 simp only [deps,List.mem_map,List.mem_filter,Array.mem_toList_iff,and_assoc]
def an (An : List (List Nat)) (i : Nat) : List Nat:=An.getD i []
def slotsAt (ops : List Oper) (val : Nat→Value) (l : List Nat) : List (Nat × Value):=l.filterMap fun j=>(ops[j]?).bind fun o=>o.dst.map fun t=>(t,val j)
def safe (ops : List Oper) (An : List (List Nat)) (i : Nat) (L : List (Nat × Value)) : List (Nat × Value):=L.filter fun p=>ops.zipIdx.all fun oj=>oj.1.dst != some p.1 || (an An oj.2).contains i
def okAn (ops : List Oper) (An : List (List Nat)) (n : Nat) : Bool:=
 decide (ops.filterMap (·.dst)).Nodup && (ops.filterMap (·.dst)).all (fun t=>decide (t < n)) && ops.zipIdx.all fun oi=>(deps oi.1).all (fun j=>decide (j < oi.2)) && (an An oi.2).all fun j=>(deps oi.1).contains j || (deps oi.1).any fun k=>(an An k).contains j
def cmp (v : Value) (j : Nat) : Value:=match v with | .tuple vs=>vs.getD j undef | .agg vs=>vs.getD j undef | _=>undef
def ptb (v : Value) : Nat:=match v with | .pointer (some a)=>a.block | _=>0
def intv (v : Value) : Int:=match v with | .int _ n=>n | _=>0
def boolv (v : Value) : Bool:=match v with | .bool b=>b | _=>false
def strv (v : Value) : ByteArray:=match v with | .string s=>s | _=>ByteArray.empty
section
variable {P : Program} {ops : List Oper} {An : List (List Nat)} {L : List (Nat × Value)} {n : Nat} {Ps : List (Value→Prop)} {J : (Nat→Bool)→(Nat→Value)→World→Prop} {a0 : Act} {Q : Exit→Act→World→Prop}
def StepAt (P : Program) (ops : List Oper) (An : List (List Nat)) (L : List (Nat × Value)) (n : Nat) (Ps : List (Value→Prop)) (J : (Nat→Bool)→(Nat→Value)→World→Prop) (i : Nat) (o : Oper) (p : Value→Prop) : Prop:=
 ∀ (done : Nat→Bool) (val : Nat→Value) (a : Act) (w : World),J done val w→done i = false→(∀ j ∈ an An i,done j = true)→(∀ j,i ∈ an An j→done j = false)→(∀ j ∈ an An i,∀ q,Ps[j]? = some q→q (val j)) →
  Fr a n (slotsAt ops val (an An i)++safe ops An i L) →
  if Region.wanted o (yielded ops.toArray a.tmps) = true then Does P a.eval o w (fun v w'=>p v∧J (upd i done) (updv i v val) w') else p undef∧J (upd i done) (updv i undef val) w
def StepsAt (P : Program) (ops : List Oper) (An : List (List Nat)) (L : List (Nat × Value)) (n : Nat) (Ps0 : List (Value→Prop)) (J : (Nat→Bool)→(Nat→Value)→World→Prop) : Nat→List Oper→List (Value→Prop)→Prop
 | _,[],_=>True
 | i,o::os,p::ps=>StepAt P ops An L n Ps0 J i o p∧StepsAt P ops An L n Ps0 J (i+1) os ps
 | _,_::_,[]=>False
theorem StepsAt.get : ∀ {os : List Oper} {ps : List (Value→Prop)} {k i : Nat} {o : Oper},StepsAt P ops An L n Ps J k os ps→os[i]? = some o→∃ p,ps[i]? = some p∧StepAt P ops An L n Ps J (k+i) o p
 | [],_,_,_,_,_,h=>by simp at h
 | _::_,[],_,_,_,h,_=>h.elim
 | o'::os,p::ps,k,0,o,h,hi=>by simp at hi;subst hi;exact ⟨p,rfl,h.1⟩
 | o'::os,p::ps,k,i+1,o,h,hi=>by
  obtain ⟨q,hq,hs⟩:=StepsAt.get (k:=k+1) h.2 (by simpa using hi)
  exact ⟨q,by simpa using hq,by rwa [Nat.add_assoc,Nat.add_comm 1 i] at hs⟩
structure AtR (ops : List Oper) (An : List (List Nat)) (Ps : List (Value→Prop)) (J : (Nat→Bool)→(Nat→Value)→World→Prop) (a0 : Act) (done : Nat→Bool) (val : Nat→Value) (a : Act) (w : World) : Prop where
 j : J done val w
 defs : a.defers = a0.defers
 size : a.tmps.size = a0.tmps.size
 kept : ∀ t : Nat,(∀ (j : Nat) (oj : Oper),ops[j]? = some oj→oj.dst = some t→done j = false)→a.tmps.getD t undef = a0.tmps.getD t undef
 vals : ∀ (j : Nat) (oj : Oper) (t : Nat),ops[j]? = some oj→oj.dst = some t→done j = true→a.tmps.getD t undef = val j
 ps : ∀ (j : Nat) (q : Value→Prop),j < ops.length→Ps[j]? = some q→done j = true→q (val j)
 closed : ∀ j,j < ops.length→done j = true→∀ i ∈ an An j,done i = true
theorem nodup_idx : ∀ (l : List Oper),(l.filterMap (·.dst)).Nodup→∀ (i j : Nat) (oi oj : Oper) (t : Nat),l[i]? = some oi→l[j]? = some oj→oi.dst = some t→oj.dst = some t→i = j
 | [],_,_,_,_,_,_,h,_,_,_=>by simp at h
 | o::l,hn,i,j,oi,oj,t,hi,hj,ei,ej=>by
  have hmem : ∀ (k : Nat) (ok : Oper),l[k]? = some ok→ok.dst = some t→t ∈ l.filterMap (·.dst):=fun k ok hk hd=>List.mem_filterMap.2 ⟨ok,List.mem_of_getElem? hk,hd⟩
  have hl : (l.filterMap (·.dst)).Nodup:=by
   rw [List.filterMap_cons] at hn
   cases hd : o.dst with
   | none=>simpa [hd] using hn
   | some t=>rw [hd] at hn;exact (List.nodup_cons.1 hn).2
  cases i with
  | zero =>
   cases j with
   | zero=>rfl
   | succ j =>
    simp at hi hj
    subst hi
    rw [List.filterMap_cons,ei] at hn
    exact absurd (hmem j oj hj ej) (List.nodup_cons.1 hn).1
  | succ i =>
   cases j with
   | zero =>
    simp at hi hj
    subst hj
    rw [List.filterMap_cons,ej] at hn
    exact absurd (hmem i oi hi ei) (List.nodup_cons.1 hn).1
   | succ j=>rw [nodup_idx l hl i j oi oj t (by simpa using hi) (by simpa using hj) ei ej]
def undone (l : Array Bool) : Nat:=(l.toList.filter (! ·)).length
theorem filter_set : ∀ (l : List Bool) (i : Nat),l[i]? = some false→((l.set i true).filter (! ·)).length+1 = (l.filter (! ·)).length
 | [],_,h=>by simp at h
 | x::l,0,h=>by simp at h;subst h;simp
 | x::l,i+1,h=>by
  have:=filter_set l i (by simpa using h)
  cases x <;> simp at this ⊢ <;> omega
theorem undone_set {l : Array Bool} {i : Nat} (h : l[i]? = some false) : undone (l.setIfInBounds i true)+1 = undone l:=by
 unfold undone
 rw [Array.toList_setIfInBounds]
 exact filter_set l.toList i (by simpa using h)
theorem get_false {l : Array Bool} {i : Nat} (h : l.getD i true = false) : l[i]? = some false:=by
 rw [Array.getD_eq_getD_getElem?] at h
 cases hl : l[i]? with
 | none=>rw [hl] at h;simp at h
 | some b=>rw [hl] at h;simp at h;rw [h]
theorem getD_false {l : Array Bool} {i : Nat} (h : l[i]? = some false) : l.getD i false = false:=by rw [Array.getD_eq_getD_getElem?,h];rfl
theorem undone_zero {l : Array Bool} (h : undone l = 0) : ∀ i : Nat,l[i]? ≠ some false:=by
 intro i hi
 have hm : false ∈ l.toList:=by rw [List.mem_iff_getElem?];exact ⟨i,by simpa using hi⟩
 have : false ∈ l.toList.filter (! ·):=List.mem_filter.2 ⟨hm,rfl⟩
 unfold undone at h
 rw [List.length_eq_zero_iff.1 h] at this
 cases this
theorem all_done {l : Array Bool} (hs : l.size = ops.length) (hacyc : ∀ (i : Nat) (o : Oper),ops[i]? = some o→∀ j ∈ deps o,j < i) (h : Region.ready .any ops.toArray l = []) : ∀ i : Nat,i < ops.length→l.getD i false = true:=by
 intro i
 induction i using Nat.strongRecOn with
 | _ i ih =>
  intro hi
  cases hb : l.getD i false with
  | true=>rfl
  | false =>
   have hi' : i < l.size:=by omega
   have : i ∈ Region.ready .any ops.toArray l:=by
    rw [mem_ready]
    refine ⟨?_,ops[i],by simp [hi],fun e he hbind=>?_⟩
    ·
     rw [Array.getD_eq_getD_getElem?] at hb ⊢
     simp [hi'] at hb ⊢
     exact hb
    ·
     have hlt:=hacyc i ops[i] (by simp [hi]) e.on (mem_deps.2 ⟨e,he,hbind,rfl⟩)
     exact ih e.on hlt (by omega)
   rw [h] at this
   cases this
theorem upd_get {l : Array Bool} {i : Nat} (h : i < l.size) : (fun j=>(l.setIfInBounds i true).getD j false) = upd i (fun j=>l.getD j false):=by
 funext j
 unfold upd
 simp only [Array.getD_eq_getD_getElem?]
 by_cases e : i = j
 ·
  subst e;simp [h]
 ·
  rw [Array.getElem?_setIfInBounds_ne e,beq_ne (fun e'=>e e'.symm)];rfl
theorem put_same {a : Act} {t : Nat} {v : Value} (h : t < a.tmps.size) : (a.put (some t) v).tmps.getD t undef = v:=by simp [Act.put,Array.getD,h]
theorem put_other {a : Act} {d : Option Nat} {t : Nat} {v : Value} (h : d ≠ some t) : (a.put d v).tmps.getD t undef = a.tmps.getD t undef:=by
 cases d with
 | none=>rfl
 | some d =>
  have hne : d ≠ t:=fun e=>h (e ▸ rfl)
  simp only [Act.put,Array.getD_eq_getD_getElem?,Array.getElem?_setIfInBounds_ne hne]
theorem AtR.step {done : Nat → Bool} {val : Nat → Value} {a : Act} {w w' : World} {i : Nat} {o : Oper} {v : Value} {p : Value → Prop} (h : AtR ops An Ps J a0 done val a w) (hi : ops[i]? = some o) (hp : Ps[i]? = some p)
    (hone : ∀ (i j : Nat) (oi oj : Oper) (t : Nat), ops[i]? = some oi → ops[j]? = some oj → oi.dst = some t → oj.dst = some t → i = j) (hin : ∀ t, o.dst = some t → t < a0.tmps.size)
    (han : ∀ j ∈ an An i, done j = true) (hv : p v) (hj : J (upd i done) (updv i v val) w') : AtR ops An Ps J a0 (upd i done) (updv i v val) (a.put o.dst v) w' := by
  refine ⟨hj, by rw [show (a.put o.dst v).defers = a.defers by cases o.dst <;> rfl, h.defs], by rw [show (a.put o.dst v).tmps.size = a.tmps.size by cases o.dst <;> simp [Act.put], h.size], fun t ht => ?_, fun j oj t hoj hd hdn => ?_, fun j q hjl hq hdn => ?_, fun j hjl hdn k hk => ?_⟩
  · have h1 : o.dst ≠ some t := fun e => by have := ht i o hi e; rw [upd_same] at this; cases this
    rw [put_other h1]
    refine h.kept t fun j oj hoj e => ?_
    have := ht j oj hoj e
    by_cases hji : j = i
    · subst hji; rw [upd_same] at this; cases this
    · rwa [upd_ne _ hji] at this
  · by_cases hji : j = i
    · subst hji
      obtain rfl : o = oj := by rw [hi] at hoj; exact Option.some.inj hoj
      rw [hd, put_same (by rw [h.size]; exact hin t hd), updv_same]
    · rw [upd_ne _ hji] at hdn
      rw [updv_ne _ _ hji, put_other (fun e => hji (hone i j o oj t hi hoj e hd).symm)]
      exact h.vals j oj t hoj hd hdn
  · by_cases hji : j = i
    · subst hji
      rw [hp] at hq; obtain rfl := Option.some.inj hq
      rw [updv_same]; exact hv
    · rw [upd_ne _ hji] at hdn; rw [updv_ne _ _ hji]; exact h.ps j q hjl hq hdn
  · have key : done k = true := by
      by_cases hji : j = i
      · subst hji; exact han k hk
      · rw [upd_ne _ hji] at hdn; exact h.closed j hjl hdn k hk
    by_cases hki : k = i
    · subst hki; exact upd_same _ _
    · rw [upd_ne _ hki]; exact key
theorem look_mem : ∀ {L : List (Nat × Value)} {t : Nat} {v : Value},look t L = some v→∃ p ∈ L,p.1 = t
 | [],_,_,h=>by cases h
 | (k,u)::l,t,v,h=>by
  simp only [look] at h
  cases hb : Nat.beq k t with
  | true=>exact ⟨_,List.mem_cons_self,Nat.eq_of_beq_eq_true hb⟩
  | false =>
   rw [hb] at h
   obtain ⟨q,hq,e⟩:=look_mem (L:=l) h
   exact ⟨q,List.mem_cons_of_mem _ hq,e⟩
theorem AtR.fr {done : Nat→Bool} {val : Nat→Value} {a : Act} {w : World} {i : Nat} (h : AtR ops An Ps J a0 done val a w) (F : Fr a0 n L) (l : List Nat) (hl : ∀ j ∈ l,done j = true) (L' : List (Nat × Value)) (hL' : ∀ p ∈ L',∀ (j : Nat) (oj : Oper),ops[j]? = some oj→oj.dst = some p.1→done j = false) (hsub : ∀ t v,look t L' = some v→look t L = some v) : Fr a n (slotsAt ops val l++L'):=by
 refine ⟨by rw [h.size,F.size],by rw [h.defs,F.defers],fun t v hv=>?_⟩
 have key : ∀ (S : List (Nat × Value)),(∀ p ∈ S,a.tmps.getD p.1 undef = p.2)→look t (S++L') = some v→a.tmps.getD t undef = v:=by
  intro S
  induction S with
  | nil =>
   intro _ hv
   have hv' : look t L' = some v:=hv
   have hm:=look_mem hv'
   obtain ⟨p,hp,rfl⟩:=hm
   rw [h.kept p.1 (hL' p hp)]
   exact F.get (hsub _ _ hv')
  | cons p S ih =>
   obtain ⟨k,u⟩:=p
   intro hS hv
   simp only [List.cons_append,look] at hv
   cases hb : Nat.beq k t with
   | true=>rw [hb] at hv;obtain rfl : u = v:=Option.some.inj hv;obtain rfl:=Nat.eq_of_beq_eq_true hb;exact hS _ List.mem_cons_self
   | false=>rw [hb] at hv;exact ih (fun q hq=>hS q (List.mem_cons_of_mem _ hq)) hv
 refine key _ (fun p hp=>?_) hv
 obtain ⟨j,hj,hb⟩:=List.mem_filterMap.1 hp
 cases ho : ops[j]? with
 | none=>rw [ho] at hb;cases hb
 | some oj =>
  rw [ho] at hb
  cases hd : oj.dst with
  | none=>simp [hd] at hb
  | some t'=>simp [hd] at hb;subst hb;exact h.vals j oj t' ho hd (hl j hj)
theorem look_filter (g : Nat→Bool) : ∀ (L : List (Nat × Value)) (t : Nat) (v : Value),look t (L.filter fun p=>g p.1) = some v→look t L = some v
 | [],_,_,h=>h
 | (k,u)::l,t,v,h=>by
  simp only [look]
  cases hb : Nat.beq k t with
  | true =>
   obtain rfl:=Nat.eq_of_beq_eq_true hb
   cases hg : g k with
   | true=>simp only [List.filter_cons,hg,if_true,look,hb] at h;exact h
   | false =>
    simp only [List.filter_cons,hg] at h
    exfalso
    have : ∀ (l : List (Nat × Value)),look k (l.filter fun p=>g p.1) = none:=by
     intro l
     induction l with
     | nil=>rfl
     | cons p l ih =>
      obtain ⟨k',u'⟩:=p
      cases hg' : g k' with
      | true =>
       simp only [List.filter_cons,hg',if_true,look]
       have : k' ≠ k:=fun e=>by subst e;rw [hg] at hg';cases hg'
       rw [beq_ne this];exact ih
      | false=>simp only [List.filter_cons,hg'];exact ih
    rw [if_neg (by simp),this] at h
    cases h
  | false =>
   cases hg : g k with
   | true=>simp only [List.filter_cons,hg,if_true,look,hb] at h;exact look_filter g l t v h
   | false=>simp only [List.filter_cons,hg] at h;exact look_filter g l t v (by simpa using h)
theorem safe_sub {i : Nat} (t : Nat) (v : Value) (h : look t (safe ops An i L) = some v) : look t L = some v:=
 look_filter (fun k=>ops.zipIdx.all fun oj=>oj.1.dst != some k || (an An oj.2).contains i) L t v h
theorem r_any {id : Nat} {a0 : Act} {w : World} (Ps : List (Value → Prop)) (J : (Nat → Bool) → (Nat → Value) → World → Prop) (An : List (List Nat)) (F : Fr a0 n L) (hm : P.follows .mixedOrders = true) (hok : okAn ops An n = true)
    (h0 : J (fun _ => false) (fun _ => undef) w.drew) (hstep : StepsAt P ops An L n Ps J 0 ops Ps)
    (hend : ∀ (done : Nat → Bool) (val : Nat → Value) (a : Act) (w' : World), (∀ j, j < ops.length → done j = true) → J done val w' → (∀ j q, j < ops.length → Ps[j]? = some q → q (val j)) → Fr a n (slotsAt ops val (List.range ops.length) ++ safe ops An ops.length L) → Q .normal a w') :
    (Code.region id ops.toArray true).wp P Q a0 w := by
  simp only [okAn, Bool.and_eq_true, decide_eq_true_eq, List.all_eq_true, Bool.or_eq_true, List.any_eq_true, List.contains_iff_mem] at hok
  obtain ⟨⟨hnd, hin⟩, hall⟩ := hok
  have hone := nodup_idx ops hnd
  have hdst : ∀ (i : Nat) (o : Oper) (t : Nat), ops[i]? = some o → o.dst = some t → t < a0.tmps.size := fun i o t hi hd => by
    rw [F.size]; exact hin t (List.mem_filterMap.2 ⟨o, List.mem_of_getElem? hi, hd⟩)
  have hz : ∀ (i : Nat) (o : Oper), ops[i]? = some o → (o, i) ∈ ops.zipIdx := fun i o hi => List.mk_mem_zipIdx_iff_getElem?.2 hi
  have hacyc : ∀ (i : Nat) (o : Oper), ops[i]? = some o → ∀ j ∈ deps o, j < i := fun i o hi => (hall _ (hz i o hi)).1
  have hanc : ∀ (i : Nat) (o : Oper), ops[i]? = some o → ∀ j ∈ an An i, j ∈ deps o ∨ ∃ k ∈ deps o, j ∈ an An k := fun i o hi => (hall _ (hz i o hi)).2
  have key : ∀ (fuel : Nat) (l : Array Bool) (val : Nat → Value) (a : Act) (w : World), undone l ≤ fuel → l.size = ops.length → AtR ops An Ps J a0 (fun j => l.getD j false) val a w → wpAny P .any ops.toArray Q fuel l a w := by
    intro fuel
    have fin : ∀ (l : Array Bool) (val : Nat → Value) (a : Act) (w : World), l.size = ops.length → AtR ops An Ps J a0 (fun j => l.getD j false) val a w → Region.ready .any ops.toArray l = [] → Q .normal a w := by
      intro l val a w hs hA hn
      have hd := all_done hs hacyc hn
      refine hend _ val a w hd hA.j (fun j q hj hq => hA.ps j q hj hq (hd j hj)) (hA.fr (i := 0) F _ (fun j hj => hd j (List.mem_range.1 hj)) _ (fun p hp j oj hoj hdj => ?_) (fun t v => safe_sub t v))
      have := (List.mem_filter.1 hp).2
      rw [List.all_eq_true] at this
      have := this _ (hz j oj hoj)
      simp only [hdj, Bool.or_eq_true, bne_self_eq_false, Bool.false_eq_true, false_or, List.contains_iff_mem] at this
      have hjl : j < ops.length := (List.getElem?_eq_some_iff.1 hoj).1
      -- the number of operations is none of them
      exfalso
      have hb : ∀ (i : Nat), i < ops.length → ∀ k ∈ an An i, k < ops.length := by
        intro i
        induction i using Nat.strongRecOn with
        | _ i ih =>
          intro hi k hk
          have ho : ops[i]? = some ops[i] := by simp [hi]
          rcases hanc i _ ho k hk with h | ⟨k', hk', h⟩
          · have := hacyc i _ ho k h; omega
          · have := hacyc i _ ho k' hk'; exact ih k' this (by omega) k h
      have := hb j hjl _ this
      omega
    induction fuel with
    | zero =>
      intro l val a w hf hs hA
      have hn : Region.ready .any ops.toArray l = [] := by
        rw [List.eq_nil_iff_forall_not_mem]
        intro i hi
        exact undone_zero (by omega) i (get_false (mem_ready.1 hi).1)
      exact ⟨hn, fin l val a w hs hA hn⟩
    | succ fuel ih =>
      intro l val a w hf hs hA
      refine ⟨fun hn => fin l val a w hs hA hn, fun i hi => ?_⟩
      obtain ⟨hun, o, ho', hdep⟩ := mem_ready.1 hi
      have ho : ops[i]? = some o := by simpa using ho'
      have hg := get_false hun
      have hlt : i < l.size := (Array.getElem?_eq_some_iff.1 hg).1
      have hset := undone_set hg
      have hdeps : ∀ j ∈ deps o, l.getD j false = true := fun j hj => by
        obtain ⟨e, he, hb, rfl⟩ := mem_deps.1 hj
        exact hdep e he hb
      have hil : i < ops.length := by omega
      have han : ∀ j ∈ an An i, l.getD j false = true := fun j hj => by
        rcases hanc i o ho j hj with h | ⟨k, hk, h⟩
        · exact hdeps j h
        · have hki := hacyc i o ho k hk
          exact hA.closed k (by omega) (hdeps k hk) j h
      have hdesc : ∀ j, i ∈ an An j → l.getD j false = false := fun j hj => by
        cases hb : l.getD j false with
        | false => rfl
        | true =>
          have hjl : j < ops.length := by
            rcases Nat.lt_or_ge j ops.length with h | h
            · exact h
            · rw [Array.getD_eq_getD_getElem?, Array.getElem?_eq_none (by omega)] at hb; cases hb
          have := hA.closed j hjl hb i hj
          rw [getD_false hg] at this; cases this
      obtain ⟨p, hp, hs'⟩ := hstep.get ho
      rw [Nat.zero_add] at hs'
      have hstep' := hs' _ val a w hA.j (getD_false hg) han hdesc (fun j hj q hq => hA.ps j q (by
        have hjd := hanc i o ho j hj
        rcases hjd with h | ⟨k, hk, h⟩
        · have := hacyc i o ho j h; omega
        · rcases Nat.lt_or_ge j ops.length with h' | h'
          · exact h'
          · have := han j hj; rw [Array.getD_eq_getD_getElem?, Array.getElem?_eq_none (by omega)] at this; cases this) hq (han j hj)) (hA.fr (i := 0) F _ han _ (fun q hq j oj hoj hdj => by
        have := (List.mem_filter.1 hq).2
        rw [List.all_eq_true] at this
        have := this _ (hz j oj hoj)
        simp only [hdj, Bool.or_eq_true, bne_self_eq_false, Bool.false_eq_true, false_or, List.contains_iff_mem] at this
        exact hdesc j this) (fun t v => safe_sub t v))
      unfold wpOp
      have hgo : ∀ (v : Value) (w' : World), (p v ∧ J (upd i fun j => l.getD j false) (updv i v val) w') → wpAny P .any ops.toArray Q fuel (l.setIfInBounds i true) (a.put o.dst v) w' := fun v w' hv => by
        refine ih _ (updv i v val) _ _ (by omega) (by simp [hs]) ?_
        rw [upd_get hlt]
        exact hA.step ho hp hone (fun t hd => hdst i o t ho hd) han hv.1 hv.2
      simp only [ho']
      by_cases hw : Region.wanted o (yielded ops.toArray a.tmps) = true
      · rw [if_pos hw] at hstep' ⊢
        exact .inl (hstep'.wp fun v w' hv => hgo v w' hv)
      · rw [if_neg hw] at hstep' ⊢
        exact hgo undef w hstep'
  refine wp_region_any hm ?_
  have hinit : AtR ops An Ps J a0 (fun j => (Array.replicate ops.length false).getD j false) (fun _ => undef) a0 w.drew := by
    have e : (fun j => (Array.replicate ops.length false).getD j false) = fun _ => false := by
      funext j; rw [Array.getD_eq_getD_getElem?, Array.getElem?_replicate]; split <;> rfl
    rw [e]
    exact ⟨h0, rfl, rfl, fun _ _ => rfl, fun _ _ _ _ _ h => (by cases h), fun _ _ _ _ h => (by cases h), fun _ _ h => (by cases h)⟩
  have := key ops.length (Array.replicate ops.length false) (fun _ => undef) a0 w.drew (by unfold undone; simp) (by simp) hinit
  have e2 : ops.toArray.size = ops.length := List.size_toArray
  rw [e2]
  exact this
end
end Sl
end
section
namespace Sl
open RowKit Go.ChangeShapes Go.WideShapes Go.Deep
def Opn {α : Type} (P : Program) (T : TypeId) (t : Fl α) (Ok : Hp→α→Prop) : Prop:=
 ∀ (H : Type) (enc : TypeId × Value→H) (w : World) (base : Nat) (spare : Nat→Bool) (held : Bool) (n : Nat) (cs : List Value) (y : DataW H × List MemPlace),DataW.trod enc P w base spare held n T cs = some y→∃ x,cs = t.enc x∧Ok (hp w) x
theorem wf_u8 {x : Int} (h : (Lit.int .u8 x).wf = true) : 0≤x∧x < 256:=by simp [Lit.wf] at h;rw [show IntKind.u8.min = 0 from rfl,show IntKind.u8.max = 255 from rfl] at h;omega
theorem wf_u16 {x : Int} (h : (Lit.int .u16 x).wf = true) : 0≤x∧x < 65536:=by simp [Lit.wf] at h;rw [show IntKind.u16.min = 0 from rfl,show IntKind.u16.max = 65535 from rfl] at h;omega
structure Sv where
 a : Option Addr
 n : Nat
 c : Nat
def Sv.v (s : Sv) : Value:=.slice s.a s.n s.c
theorem Rd.sv {α : Type} {t : Fl α} {f : Hp} {v : Value} {xs : List α} (h : Rd t f v xs) : ∃ s : Sv,v = s.v:=by obtain ⟨A,c,rfl,_⟩:=h;exact ⟨⟨A,_,c⟩,rfl⟩
end Sl
end
section
namespace Sl
open RowKit
section
variable {w w' : World} {f : Fm} {rs : List Res} {r s : Res}
theorem Holds.merge (H : Holds w f (r::s::rs)) (u : Res) (hd : ∀ b,u.dom b→r.dom b ∨ s.dom b) (ho : r.ok (hp w)→s.ok (hp w)→u.ok (hp w)) : Holds w f (u::rs):=by
 refine ⟨H.os,H.tape,H.out,H.kept,?_,?_,?_⟩
 ·
  intro x hx
  rcases List.mem_cons.1 hx with rfl | hx
  ·
   exact ho (H.oks r (by simp)) (H.oks s (by simp))
  ·
   exact H.oks x (by simp [hx])
 ·
  intro x hx b hb
  rcases List.mem_cons.1 hx with rfl | hx
  ·
   rcases hd b hb with h | h
   ·
    exact H.free r (by simp) b h
   ·
    exact H.free s (by simp) b h
  ·
   exact H.free x (by simp [hx]) b hb
 ·
  intro i j x y hne hi hj b hx hy
  cases i with
  | zero =>
   cases j with
   | zero=>exact hne rfl
   | succ j =>
    simp at hi hj;subst hi
    rcases hd b hx with h | h
    ·
     exact H.sep 0 (j+2) r y (by omega) rfl (by simpa using hj) b h hy
    ·
     exact H.sep 1 (j+2) s y (by omega) rfl (by simpa using hj) b h hy
  | succ i =>
   cases j with
   | zero =>
    simp at hi hj;subst hj
    rcases hd b hy with h | h
    ·
     exact H.sep 0 (i+2) r x (by omega) rfl (by simpa using hi) b h hx
    ·
     exact H.sep 1 (i+2) s x (by omega) rfl (by simpa using hi) b h hx
   | succ j =>
    simp at hi hj
    exact H.sep (i+2) (j+2) x y (by omega) (by simpa using hi) (by simpa using hj) b hx hy
end
def Pool {α : Type} (t : Fl α) (ps : List (Value × List α)) : Res where
 dom b:=∃ p,p ∈ ps∧p.1.ownBlock = some b
 ok h:=∀ p,p ∈ ps→(OwnR t p.1 p.2).ok h
 loc:=fun hl ho p hp=>(OwnR t p.1 p.2).loc (fun b hb=>hl b ⟨p,hp,hb⟩) (ho p hp)
 live:=fun ho ⟨p,hp,hb⟩=>(OwnR t p.1 p.2).live (ho p hp) hb
section
variable {α : Type} {t : Fl α} {e : TypeId} {f : Hp} {v : Value} {xs : List α} {w w' : World} {fm : Fm} {rs : List Res} {i : Nat} {ps qs : List (Value × List α)}
theorem Pool.rd (h : (Pool t ps).ok f) {p : Value × List α} (hp : p ∈ ps) : Rd t f p.1 p.2:=OwnR.rd (h p hp)
theorem Holds.poolNil (H : Holds w fm rs) (t : Fl α) : Holds w fm (Pool t []::rs):=H.nob _ (fun b ⟨p,h,_⟩=>(List.not_mem_nil h).elim) (fun p h=>(List.not_mem_nil h).elim)
theorem Holds.poolR (H : Holds w fm (OwnR t v xs::Pool t ps::rs)) : Holds w fm (Pool t (ps++[(v,xs)])::rs):=
 H.merge _ (fun b ⟨p,h,hb⟩=>by
  rcases List.mem_append.1 h with h | h
  ·
   exact .inr ⟨p,h,hb⟩
  ·
   obtain rfl : p = (v,xs):=by simpa using h
   exact .inl hb) (fun h1 h2 p h=>by
  rcases List.mem_append.1 h with h | h
  ·
   exact h2 p h
  ·
   obtain rfl : p = (v,xs):=by simpa using h
   exact h1)
theorem Holds.poolOwn (H : Holds w fm (Own t e v xs::Pool t ps::rs)) : Holds w fm (Pool t (ps++[(v,xs)])::rs):=by
 have:=H.toR (i:=0) rfl
 exact this.poolR
end
def Sv.nil : Sv:=⟨none,0,0⟩
theorem Sv.one (s : Sv) : s.v.oneCell' = true:=rfl
theorem mem_getD {α : Type} {d : α} {l : List α} {i : Nat} (h : i < l.length) : l.getD i d ∈ l:=by
 rw [List.getD_eq_getElem?_getD,List.getElem?_eq_getElem h];exact List.getElem_mem h
theorem take_getD {α : Type} (d : α) {l : List α} {i : Nat} (h : i < l.length) : l.take (i+1) = l.take i++[l.getD i d]:=by
 rw [List.getD_eq_getElem?_getD,List.getElem?_eq_getElem h,List.take_succ_eq_append_getElem h];rfl
theorem drop_getD {α : Type} (d : α) {l : List α} {i : Nat} (h : i < l.length) : l.drop i = l.getD i d::l.drop (i+1):=by
 rw [List.getD_eq_getElem?_getD,List.getElem?_eq_getElem h];exact List.drop_eq_getElem_cons h
end Sl
end
section
namespace Sl
open RowKit
section
variable {P : Program} {ρ : Operand→Value} {o : Oper} {w : World} {x y : Operand} {T T' : TypeId} {k : IntKind} {a b : Value} {xs ys : Array Value} {f : Field} {fs : List Field} {A B : Prop} {n : Nat}
def Qf (P : Program) (t : TypeId) (a b : Value) (c : Bool) : Prop:=∀ d w,(Op.equalIn (d+1) t a b).run P w = .ok c w
def Qs (P : Program) (fs : List Field) (xs ys : Array Value) (c : Bool) : Prop:=∀ d w,(Op.eqFields (d+1) xs ys fs).run P w = .ok c w
theorem q_int {X Y : Int} (ht : P.underlying T = some (.int k)) : Qf P T (.int k X) (.int k Y) (decide (X = Y)):=fun d w=>by rw [run_equalIn_int w d T k k X Y ht];rfl
def Qg (P : Program) (t : TypeId) (xs ys : Array Value) (c : Bool) : Prop:=∀ d w,(Op.equalIn (d+2) t (.agg xs) (.agg ys)).run P w = .ok c w
theorem x_eqA [Decidable A] (hop : o.op = .binOp .eql T x y T') (hg : P.eqGuardType P.depth T = false) (hx : ρ x = .agg xs) (hy : ρ y = .agg ys) (h : ∀ d w,(Op.equalIn (d+2) T (.agg xs) (.agg ys)).run P w = .ok (decide A) w) : (execOp ρ o).run P w = .ok (.value (.bool (decide A))) w:=by
 have h1:=h 9998 w
 simp [execOp,hop,hx,hy,run_eqGuard_agg _ _ _ _ _ _ _ hg,run_eql_struct,h1]
theorem x_neA [Decidable A] (hop : o.op = .binOp .neq T x y T') (hg : P.eqGuardType P.depth T = false) (hx : ρ x = .agg xs) (hy : ρ y = .agg ys) (h : ∀ d w,(Op.equalIn (d+2) T (.agg xs) (.agg ys)).run P w = .ok (decide A) w) : (execOp ρ o).run P w = .ok (.value (.bool (decide (¬ A)))) w:=by
 have h1:=h 9998 w
 simp [execOp,hop,hx,hy,run_eqGuard_agg _ _ _ _ _ _ _ hg,run_neq_struct,h1]
inductive Rv (P : Program) (tmps : Array Value) (w : World) : ResultVar→Value→Prop
 | tmp {t : Nat} {v : Value} (h : tmps.getD t undef = v) : Rv P tmps w (.tmp t) v
 | cell {t : Nat} {T : TypeId} {A : Addr} {v : Value} (h : tmps.getD t undef = .pointer (some A)) (hl : (loadVar T A).run P w = .ok v w) : Rv P tmps w (.cell t T) v
theorem resR1 {fn : Func} {ac : Act} {r : ResultVar} {v : Value} (h : fn.results = #[r]) (h1 : Rv P ac.tmps w r v) : (results fn ac.tmps).run P w = .ok v w:=by
 rcases h1 with h1 | ⟨h1,l1⟩ <;> simp_all [results,asAddr]
theorem resR2 {fn : Func} {ac : Act} {r r' : ResultVar} {v v' : Value} (h : fn.results = #[r,r']) (h1 : Rv P ac.tmps w r v) (h2 : Rv P ac.tmps w r' v') : (results fn ac.tmps).run P w = .ok (.tuple #[v,v']) w:=by
 rcases h1 with h1 | ⟨h1,l1⟩ <;> rcases h2 with h2 | ⟨h2,l2⟩ <;> simp_all [results,asAddr]
theorem resR3 {fn : Func} {ac : Act} {r r' r'' : ResultVar} {v v' v'' : Value} (h : fn.results = #[r,r',r'']) (h1 : Rv P ac.tmps w r v) (h2 : Rv P ac.tmps w r' v') (h3 : Rv P ac.tmps w r'' v'') : (results fn ac.tmps).run P w = .ok (.tuple #[v,v',v'']) w:=by
 rcases h1 with h1 | ⟨h1,l1⟩ <;> rcases h2 with h2 | ⟨h2,l2⟩ <;> rcases h3 with h3 | ⟨h3,l3⟩ <;> simp_all [results,asAddr]
theorem lv_agg {cs : List Value} {p off : Nat} (hA : ∀ w,(isAgg T).run P w = .ok true w) (hs : ∀ w,(sizeOf T).run P w = .ok cs.length w) (hc : ∀ j u,cs[j]? = some u→w.cell? ((⟨p,off,none⟩ : Addr).add j) = some u) : (loadVar T ⟨p,off,none⟩).run P w = .ok (.agg cs.toArray) w:=by
 have hl:=run_loadCells_list (P:=P) w ⟨p,off,none⟩ cs hc
 simp [loadVar,hA,hs,hl]
end
end Sl
end
section
namespace Sl
open RowKit
section
variable {P : Program} {ρ : Operand→Value} {o : Oper} {w : World} {fm : Fm} {rs : List Res} {x y : Operand} {T e : TypeId} {k k' : IntKind} {α : Type}
theorem made_row (t : Fl α) (x0 : α) {zc : Array Value} (h : zc.toList = t.enc x0) (n : Nat) : (madeCells zc (n * t.sz)).toList = t.row (List.replicate n x0):=by
 have hs : zc.size = t.sz:=by rw [← Array.length_toList,h,t.len]
 have hp:=t.pos
 apply List.ext_getElem?
 intro i
 by_cases hi : i < n * t.sz
 ·
  have hm : i % t.sz < t.sz:=Nat.mod_lt _ hp
  have hd : i / t.sz < n:=Nat.div_lt_of_lt_mul (by rw [Nat.mul_comm];exact hi)
  have hlt : i % t.sz < (t.enc x0).length:=by rw [t.len];exact hm
  have h1 : (List.replicate n x0)[i / t.sz]? = some x0:=by rw [List.getElem?_replicate,if_pos hd]
  have h2:=Fl.row_get (t:=t) h1 (List.getElem?_eq_getElem hlt)
  rw [Nat.mul_comm,Nat.div_add_mod] at h2
  rw [h2]
  have hz : i % t.sz < zc.size:=by rw [hs];exact hm
  have h3 : zc[i % t.sz]'hz = (t.enc x0)[i % t.sz]'hlt:=by
   have h4:=Array.getElem_toList (xs:=zc) (h:=by rw [Array.length_toList];exact hz) (i:=i % t.sz)
   rw [← h4]
   congr 1
  simp only [madeCells,Array.toList_map,List.getElem?_map,Array.getElem?_toList]
  rw [show (Array.range (n * t.sz))[i]? = some i by simp [hi]]
  simp only [Option.map_some,hs]
  rw [getElem!_pos zc _ hz,h3]
 ·
  rw [List.getElem?_eq_none (by rw [Array.length_toList,size_madeCells];omega),List.getElem?_eq_none (by rw [Fl.row_len,List.length_replicate];omega)]
theorem d_mk {n : Nat} {zv : Value} (t : Fl α) (x0 : α) (H : Holds w fm rs) (hop : o.op = .makeSlice T x y) (ht : P.underlying T = some (.slice e)) {inf : TypeInfo} (hinf : P.info? e = some inf) (hz : inf.zero = some zv) (hsz : inf.size = t.sz) (hzc : zv.cells.toList = t.enc x0)
    (hx : ρ x = .int k (n : Int)) (hy : ρ y = .int k' (n : Int)) {zb : Nat} (hby : inf.bytes = zb) (hb : zb * n ≤ 281474976710656) (hm : n ≤ 9223372036854775807) : Does P ρ o w fun v' w' => Holds w' fm (Own t e v' (List.replicate n x0) :: rs) := by
  have hb' : (inf.bytes : Int) * (n : Int) ≤ 281474976710656 := by
    rw [hby]
    have h : ((zb * n : Nat) : Int) ≤ 281474976710656 := by omega
    rwa [Int.natCast_mul] at h
  have hr := run_make (P := P) w T e inf zv ht hinf hz k k' n n (by omega) (Int.le_refl _) hb' (by omega)
  simp only [Int.toNat_natCast, hsz] at hr
  refine Does.of (v := .slice (some ⟨w.heap.size, 0, none⟩) n n) (w' := w.alloc (.cells (madeCells zv.cells (n * t.sz)) e)) (by simp only [execOp, hop, hx, hy]; simpa using congrArg (fun r => r.andThen fun a w' => Result.ok (Next.value a) w') hr) (H.alloc _ _ (fun b hb => (Option.some.inj hb).symm) (.inr ⟨w.heap.size, 0, n, _, by rw [List.length_replicate], by rw [List.length_replicate]; exact Nat.le_refl _, by unfold maxLen; omega, alloc_ok _ _, by rw [size_madeCells]; omega, ?_⟩))
  rw [List.drop_zero, List.length_replicate, List.take_of_length_le (by rw [Array.length_toList, size_madeCells]; exact Nat.le_refl _)]
  exact made_row t x0 hzc n
end
end Sl
end
section
namespace Sl
open RowKit
inductive Fk where
 | nx (c : Code)
 | bl (id : Nat)
 | iv (J : Act→World→Prop)
inductive Hd where
 | co (c : Code) (s : List Fk)
 | ex (e : Exit) (s : List Fk)
def stp : Hd→Option Hd
 | .co (.seq a b) s=>some (.co a (.nx b::s))
 | .co (.block id c) s=>some (.co c (.bl id::s))
 | .co .skip s=>some (.ex .normal s)
 | .co (.exit id) s=>some (.ex (.exit id) s)
 | .co .ret s=>some (.ex .ret s)
 | .ex .normal (.nx c::s)=>some (.co c s)
 | .ex .normal (.bl _::s)=>some (.ex .normal s)
 | .ex (.exit id) (.bl id'::s)=>cond (Nat.beq id id') (some (.ex .normal s)) (some (.ex (.exit id) s))
 | .ex (.exit id) (.nx _::s)=>some (.ex (.exit id) s)
 | .ex (.exit id) (.iv _::s)=>some (.ex (.exit id) s)
 | .ex .ret (_::s)=>some (.ex .ret s)
 | _=>none
def run : Nat→Hd→Hd
 | 0,h=>h
 | k+1,h=>match stp h with
  | some h'=>run k h'
  | none=>h
def QS (P : Program) (Q : Exit→Act→World→Prop) : List Fk→Exit→Act→World→Prop
 | []=>Q
 | .nx c::s=>Exit.then (fun a w=>c.wp P (QS P Q s) a w) (QS P Q s)
 | .bl id::s=>Exit.inBlock id (QS P Q s)
 | .iv J::s=>Exit.then J (QS P Q s)
def wpH (P : Program) (Q : Exit→Act→World→Prop) : Hd→Act→World→Prop
 | .co c s,a,w=>c.wp P (QS P Q s) a w
 | .ex e s,a,w=>QS P Q s e a w
section
variable {P : Program} {Q : Exit→Act→World→Prop} {n : Nat} {f : Fm} {rs rs' : List Res} {L L' : List (Nat × Value)} {a : Act} {w : World} {h h' : Hd} {s : List Fk} {c c' : Code}
theorem stp_ok (e : stp h = some h') (k : wpH P Q h' a w) : wpH P Q h a w:=by
 cases h with
 | co c s =>
  cases c <;> first
   | (obtain rfl:=Option.some.inj e;first | exact wp_seq k | exact wp_block k | exact wp_skip k | exact wp_exit k | exact wp_ret k)
   | cases e
 | ex x s =>
  cases s with
  | nil=>cases x <;> cases e
  | cons y s =>
   cases x with
   | normal=>cases y <;> first | (obtain rfl:=Option.some.inj e;exact k) | cases e
   | ret=>obtain rfl:=Option.some.inj e;cases y <;> exact k
   | goto l=>cases y <;> cases e
   | panic=>cases y <;> cases e
   | outgrown=>cases y <;> cases e
   | exit id =>
    cases y with
    | nx c=>obtain rfl:=Option.some.inj e;exact k
    | iv J=>obtain rfl:=Option.some.inj e;exact k
    | bl id' =>
     have e' : cond (Nat.beq id id') (some (Hd.ex .normal s)) (some (Hd.ex (.exit id) s)) = some h':=e
     show Exit.inBlock id' (QS P Q s) (.exit id) a w
     cases hb : Nat.beq id id' with
     | true =>
      rw [hb] at e'
      obtain rfl:=Option.some.inj e'
      obtain rfl:=Nat.eq_of_beq_eq_true hb
      simp only [Exit.inBlock,if_true];exact k
     | false =>
      rw [hb] at e'
      obtain rfl:=Option.some.inj e'
      have hne : id ≠ id':=fun e=>by subst e;rw [Nat.beq_refl] at hb;cases hb
      simp only [Exit.inBlock,hne,if_false];exact k
theorem run_ok : ∀ (k : Nat) (h : Hd),wpH P Q (run k h) a w→wpH P Q h a w
 | 0,h,H=>H
 | k+1,h,H=>by
  unfold run at H
  cases e : stp h with
  | none=>rw [e] at H;exact H
  | some h'=>rw [e] at H;exact stp_ok e (run_ok k h' H)
end
def GH (P : Program) (Q : Exit→Act→World→Prop) (n : Nat) (f : Fm) (h : Hd) (rs : List Res) (L : List (Nat × Value)) : Prop:=∀ a w,Fr a n L→Holds w f rs→wpH P Q h a w
def GO (P : Program) (Q : Exit→Act→World→Prop) (n : Nat) (f : Fm) (s : List Fk) (ops : Array Oper) (l : List Oper) (rs : List Res) (L : List (Nat × Value)) : Prop:=∀ a w,Fr a n L→Holds w f rs→wpList P ops (QS P Q s) l a w
def evL (L : List (Nat × Value)) : Operand→Option Value
 | .tmp t=>look t L
 | .const v=>some v
 | .global g=>some (.pointer (some ⟨g,0,none⟩))
 | .func g=>some (.func (.func g) #[] #[])
theorem evL_ok {a : Act} {n : Nat} {L : List (Nat × Value)} {x : Operand} {v : Value} (F : Fr a n L) (h : evL L x = some v) : a.eval x = v:=by
 cases x with
 | tmp t=>exact F.ev h
 | const u=>exact Option.some.inj h
 | global g=>exact Option.some.inj h
 | func g=>exact Option.some.inj h
def evs (L : List (Nat × Value)) : List Operand→Option (List Value)
 | []=>some []
 | x::xs=>match evL L x with
  | some v=>match evs L xs with
   | some vs=>some (v::vs)
   | none=>none
  | none=>none
theorem evs_ok {a : Act} {n : Nat} {L : List (Nat × Value)} (F : Fr a n L) : ∀ {xs : List Operand} {vs : List Value},evs L xs = some vs→xs.map a.eval = vs
 | [],vs,h=>by obtain rfl:=Option.some.inj h;rfl
 | x::xs,vs,h=>by
  unfold evs at h
  cases hx : evL L x with
  | none=>rw [hx] at h;cases h
  | some v =>
   cases hs : evs L xs with
   | none=>rw [hx,hs] at h;cases h
   | some us =>
    rw [hx,hs] at h
    obtain rfl:=Option.some.inj h
    rw [List.map_cons,evL_ok F hx,evs_ok F hs]
def wantL (ops : Array Oper) (L : List (Nat × Value)) (o : Oper) : Option Bool:=match o.guard with
 | none=>some true
 | some (j,c)=>match ops[j]? with
  | some oj=>match oj.dst with
   | some t=>match look t L with
    | some (.bool b)=>some (b == c)
    | some (.tuple _)=>some false
    | _=>none
   | none=>none
  | none=>none
theorem wantL_ok {ops : Array Oper} {a : Act} {n : Nat} {L : List (Nat × Value)} {o : Oper} {b : Bool} (F : Fr a n L) (h : wantL ops L o = some b) : Region.wanted o (yielded ops a.tmps) = b:=by
 unfold wantL at h
 cases hg : o.guard with
 | none=>rw [hg] at h;obtain rfl:=Option.some.inj h;exact wanted_none hg
 | some g =>
  obtain ⟨j,c⟩:=g
  rw [hg] at h
  simp only at h
  cases hj : ops[j]? with
  | none=>rw [hj] at h;cases h
  | some oj =>
   rw [hj] at h
   simp only at h
   cases hd : oj.dst with
   | none=>rw [hd] at h;cases h
   | some t =>
    rw [hd] at h
    simp only at h
    cases hl : look t L with
    | none=>rw [hl] at h;cases h
    | some v =>
     rw [hl] at h
     have hv:=F.get hl
     cases v <;> simp only at h <;> first | cases h | skip
     ·
      rename_i b'
      exact wanted_some hg hj hd hv
     ·
      rename_i vs
      unfold Region.wanted yielded
      rw [hg]
      simp only [hj,Option.bind_some,hd]
      cases hx : a.tmps[t]? with
      | none=>cases c <;> rfl
      | some u =>
       rw [Array.getD_eq_getD_getElem?,hx] at hv
       simp only [Option.getD_some] at hv
       subst hv
       cases c <;> rfl
section
variable {P : Program} {Q : Exit→Act→World→Prop} {n : Nat} {f : Fm} {rs rs' : List Res} {L L' : List (Nat × Value)} {s s' : List Fk} {h : Hd} {c c' : Code} {ops : Array Oper} {o : Oper} {rest : List Oper} {d : Nat} {v : Value} {b : Bool}
theorem cL {a : Act} {w : World} (F : Fr a n L) (H : Holds w f rs) (k : GO P Q n f s ops rest rs L) : wpList P ops (QS P Q s) rest a w:=k a w F H
theorem clh {a : Act} {w : World} (F : Fr a n L) (H : Holds w f rs) (k : GH P Q n f h rs L) : wpH P Q h a w:=k a w F H
theorem cle {a : Act} {w : World} (F : Fr a n L) (H : Holds w f rs) (k : GH P Q n f (.ex .normal s) rs L) : QS P Q s .normal a w:=k a w F H
theorem rD {id : Nat} {l : List Oper} (hr : run 200 h = .co (.region id l.toArray true) s) (k : ∀ a w,Fr a n L→Holds w f rs→(Code.region id l.toArray true).wp P (QS P Q s) a w) : GH P Q n f h rs L:=fun a w F H=>run_ok 200 h (by rw [hr];exact k a w F H)
theorem en {fn : Func} {g : FuncId} {args : Array Value} {w : World} {R : Ending → World → Prop} (H : Holds w f rs) (hf : P.funcs[g]? = some fn) (hb : fn.body = some c) (hn : fn.ntmps = n) (ha : Nat.ble args.size n = true)
    (k : GH P (bodyPost P fn R) n f (.co c []) rs (args.toList.zipIdx.map fun x => (x.2, x.1))) : Calls P g args w R := c_enter hf hb hn (Nat.le_of_ble_eq_true ha) fun a F => k a w F H
theorem rg {id : Nat} {l : List Oper} (hr : run 200 h = .co (.region id l.toArray false) s) (k : GO P Q n f s l.toArray l rs L) : GH P Q n f h rs L:=fun a w F H=>run_ok 200 h (by rw [hr];exact wp_region_lit (k a w F H))
theorem nr {id : Nat} {l : List Oper} (hr : run 200 (.ex .normal s) = .co (.region id l.toArray false) s') (k : GO P Q n f s' l.toArray l rs L) : GO P Q n f s ops [] rs L:=fun a w F H=>wpList_nil (run_ok 200 (.ex .normal s) (by rw [hr];exact wp_region_lit (k a w F H)))
theorem ne (k : GH P Q n f (.ex .normal s) rs L) : GO P Q n f s ops [] rs L:=fun a w F H=>wpList_nil (k a w F H)
theorem it {x : Operand} {y z : Code} (hr : run 200 h = .co (.cond x y z) s) (hx : evL L x = some (.bool true)) (k : GH P Q n f (.co y s) rs L) : GH P Q n f h rs L:=fun a w F H=>run_ok 200 h (by rw [hr];exact wp_cond_true (evL_ok F hx) (k a w F H))
theorem jf {x : Operand} {y z : Code} (hr : run 200 h = .co (.cond x y z) s) (hx : evL L x = some (.bool false)) (k : GH P Q n f (.co z s) rs L) : GH P Q n f h rs L:=fun a w F H=>run_ok 200 h (by rw [hr];exact wp_cond_false (evL_ok F hx) (k a w F H))
theorem nt {x : Operand} {y z : Code} (hr : run 200 (.ex .normal s) = .co (.cond x y z) s') (hx : evL L x = some (.bool true)) (k : GH P Q n f (.co y s') rs L) : GO P Q n f s ops [] rs L:=ne (it hr hx k)
theorem nf {x : Operand} {y z : Code} (hr : run 200 (.ex .normal s) = .co (.cond x y z) s') (hx : evL L x = some (.bool false)) (k : GH P Q n f (.co z s') rs L) : GO P Q n f s ops [] rs L:=ne (jf hr hx k)
theorem rt {fn : Func} {K : Value→World→Prop} {e : Exit} (hr : run 200 h = .ex e []) (he : e = .ret ∨ e = .normal) (hv : ∀ a w,Fr a n L→Holds w f rs→(results fn a.tmps).run P w = .ok v w) (k : ∀ w,Holds w f rs→K v w) : GH P (bodyPost P fn (Rt K)) n f h rs L:=fun a w F H=>run_ok 200 h (by
 rw [hr]
 rcases he with rfl | rfl
 ·
  exact c_ret F (hv a w F H) (k w H)
 ·
  exact c_end F (hv a w F H) (k w H))
def Al (L : List (Nat × Value)) : List (Nat × Value)→Prop
 | []=>True
 | (t,v)::m=>look t L = some v∧Al L m
theorem Al.fr {a : Act} : ∀ {M : List (Nat × Value)},Al L M→Fr a n L→AllAt a M
 | [],_,_=>trivial
 | (t,v)::m,h,F=>⟨F.get h.1,Al.fr h.2 F⟩
theorem Al.re {a : Act} {M : List (Nat × Value)} (h : Al L M) (F : Fr a n L) : Fr a n M:=F.re M (h.fr F)
theorem lK {t : Nat} {u v : Value} (h : look t L = some u) (e : u = v) : look t L = some v:=e ▸ h
def Jv (n : Nat) (f : Fm) {α : Type} (Lx : α→List (Nat × Value)) (Rx : α→List Res) (p : α→Prop) (m : α→Nat) (k : Nat) : Act→World→Prop:=fun a w=>∃ x,m x < k∧p x∧Fr a n (Lx x)∧Holds w f (Rx x)
def Jj (n : Nat) (f : Fm) {α : Type} (Lx : α→List (Nat × Value)) (Rx : α→List Res) (p : α→Prop) : Act→World→Prop:=fun a w=>∃ x,p x∧Fr a n (Lx x)∧Holds w f (Rx x)
def VS (P : Program) (n : Nat) (f : Fm) (rs : List Res) (L : List (Nat × Value)) (o : Oper) (v : Value) : Prop:=∀ a w,Fr a n L→Holds w f rs→(execOp a.eval o).run P w = .ok (.value v) w
theorem gv (hv : VS P n f rs L o v) (hw : (wantL ops L o,o.dst,Nat.blt d n) = (some true,some d,true)) (k : GO P Q n f s ops rest rs ((d,v)::L)) : GO P Q n f s ops (o::rest) rs L:=fun a w F H=>by
 simp only [Prod.mk.injEq] at hw
 exact go_val F (wantL_ok F hw.1) hw.2.1 (Nat.le_of_ble_eq_true hw.2.2) (hv a w F H) fun a' F'=>k a' w F' H
theorem ps (hw : (wantL ops L o,o.dst,Nat.blt d n) = (some false,some d,true)) (k : GO P Q n f s ops rest rs ((d,undef)::L)) : GO P Q n f s ops (o::rest) rs L:=fun a w F H=>by
 simp only [Prod.mk.injEq] at hw
 exact go_pass F (wantL_ok F hw.1) (fun t ht=>by rw [hw.2.1] at ht;obtain rfl:=Option.some.inj ht;exact Nat.le_of_ble_eq_true hw.2.2) fun a' F'=>k a' w (by rw [hw.2.1] at F';exact F') H
theorem ga {K : Value→World→Prop} (hD : ∀ a w,Fr a n L→Holds w f rs→Does P a.eval o w K) (hw : (wantL ops L o,o.dst,Nat.blt d n) = (some true,some d,true)) (k : ∀ v w a,K v w→Fr a n ((d,v)::L)→wpList P ops (QS P Q s) rest a w) : GO P Q n f s ops (o::rest) rs L:=fun a w F H=>by
 simp only [Prod.mk.injEq] at hw
 exact go_any F (wantL_ok F hw.1) (fun t ht=>by rw [hw.2.1] at ht;obtain rfl:=Option.some.inj ht;exact Nat.le_of_ble_eq_true hw.2.2) (hD a w F H) fun v w' a' hK F'=>k v w' a' hK (by rw [hw.2.1] at F';exact F')
theorem ga0 {K : Value→World→Prop} (hD : ∀ a w,Fr a n L→Holds w f rs→Does P a.eval o w K) (hw : (wantL ops L o,o.dst) = (some true,Option.none)) (k : ∀ v w a,K v w→Fr a n L→wpList P ops (QS P Q s) rest a w) : GO P Q n f s ops (o::rest) rs L:=fun a w F H=>by
 simp only [Prod.mk.injEq] at hw
 exact go_any F (wantL_ok F hw.1) (fun t ht=>by rw [hw.2] at ht;cases ht) (hD a w F H) fun v w' a' hK F'=>k v w' a' hK (by rw [hw.2] at F';exact F')
def DS (P : Program) (n : Nat) (f : Fm) (rs : List Res) (L : List (Nat × Value)) (o : Oper) (v : Value) (rs' : List Res) : Prop:=∀ a w,Fr a n L→Holds w f rs→Does P a.eval o w fun u w'=>u = v∧Holds w' f rs'
theorem gd (hD : DS P n f rs L o v rs') (hw : (wantL ops L o,o.dst,Nat.blt d n) = (some true,some d,true)) (k : GO P Q n f s ops rest rs' ((d,v)::L)) : GO P Q n f s ops (o::rest) rs L:=ga hD hw fun u w a hK F=>by obtain ⟨rfl,H⟩:=hK;exact k a w F H
theorem gd0 (hD : DS P n f rs L o v rs') (hw : (wantL ops L o,o.dst) = (some true,Option.none)) (k : GO P Q n f s ops rest rs' L) : GO P Q n f s ops (o::rest) rs L:=ga0 hD hw fun u w a hK F=>by obtain ⟨rfl,H⟩:=hK;exact k a w F H
def DX (P : Program) (n : Nat) (f : Fm) (rs : List Res) (L : List (Nat × Value)) (o : Oper) {α : Type} (V : α→Value) (R : α→List Res) : Prop:=∀ a w,Fr a n L→Holds w f rs→Does P a.eval o w fun u w'=>∃ x,u = V x∧Holds w' f (R x)
theorem gx {α : Type} {V : α→Value} {R : α→List Res} (hD : DX P n f rs L o V R) (hw : (wantL ops L o,o.dst,Nat.blt d n) = (some true,some d,true)) (k : ∀ x,GO P Q n f s ops rest (R x) ((d,V x)::L)) : GO P Q n f s ops (o::rest) rs L:=ga hD hw fun u w a hK F=>by obtain ⟨x,rfl,H⟩:=hK;exact k x a w F H
theorem gz {R : Value→List Res} (hD : ∀ a w,Fr a n L→Holds w f rs→Does P a.eval o w fun u w'=>Holds w' f (R u)) (hw : (wantL ops L o,o.dst,Nat.blt d n) = (some true,some d,true)) (k : ∀ x,GO P Q n f s ops rest (R x) ((d,x)::L)) : GO P Q n f s ops (o::rest) rs L:=gx (V:=fun v=>v) (fun a w F H=>(hD a w F H).mono fun u w' h=>⟨u,rfl,h⟩) hw k
end
section
variable {P : Program} {n : Nat} {f : Fm} {rs : List Res} {L : List (Nat × Value)} {o : Oper} {y : Operand} {T e : TypeId} {k : IntKind} {X : Int}
theorem bs0X {α : Type} (t : Fl α) {z0 : Value} (ht : P.underlying T = some (.slice e)) {inf : TypeInfo} (hinf : P.info? e = some inf) (h : (o.op,inf.zero,inf.size) = (.buildSlice T 0 #[],some z0,t.sz)) : DX P n f rs L o (fun v=>v) (fun v=>Own t e v []::rs):=by
 simp only [Prod.mk.injEq] at h
 obtain ⟨e1,e2,e3⟩:=h
 intro a w F H
 exact (d_bs (cs:=#[]) t [] H e1 ht hinf e2 e3 rfl (by simp) (by simp [Instr.fill]) rfl).mono fun u w' h=>⟨u,rfl,h⟩
theorem bs1X (ht : P.underlying T = some (.slice e)) {inf : TypeInfo} (hinf : P.info? e = some inf) (h : (o.op,evL L y,inf.zero,inf.size) = (.buildSlice T 1 #[(0,y)],some (.int k X),some (.int k 0),1)) : DX P n f rs L o (fun v=>v) (fun v=>Own (tI k) e v [X]::rs):=by
 simp only [Prod.mk.injEq] at h
 obtain ⟨e1,e2,e3,e4⟩:=h
 intro a w F H
 refine (d_bs (cs:=#[.int k X]) (tI k) [X] H e1 ht hinf e3 e4 rfl (show 1 * 1≤16777216 by decide) ?_ rfl).mono fun u w' h=>⟨u,rfl,h⟩
 simp only [List.map_cons,List.map_nil,evL_ok F e2];kernel_rfl
end
end Sl
end
section
namespace Sl
open RowKit
section
variable {P : Program} {ρ : Operand→Value} {o : Oper} {w : World} {x y : Operand} {T : TypeId} {k : IntKind} {s : ByteArray} {v : Value}
theorem ss_getD {s : ByteArray} {i : Nat} (h : i < s.size) : s[i]? = some s[i]∧(ss s).getD i 0 = (s[i].toNat : Int):=by
 refine ⟨by simp [h],?_⟩
 have hl : i < s.data.toList.length:=by rw [Array.length_toList];exact h
 unfold ss
 rw [List.getD_eq_getElem?_getD,List.getElem?_map,List.getElem?_eq_getElem hl]
 rfl
theorem x_idxS {i : Nat} (hop : o.op = .index T x y) (ht : P.underlying T = some .string) (hx : ρ x = .string s) (hy : ρ y = .int k (i : Int)) (hi : i < s.size) : (execOp ρ o).run P w = .ok (.value (.int .u8 ((ss s).getD i 0))) w:=by
 have h:=ss_getD hi
 rw [h.2]
 have hge : ¬ s.size≤i:=by omega
 simp [execOp,hop,Instr.index,asIntOf,run_underlying ht,hx,hy,hi,h.1,hge]
theorem x_slSL {lo : Nat} {xl : Operand} (hop : o.op = .slice T x (some xl) none none) (ht : P.underlying T = some .string) (hx : ρ x = .string s) (hl : ρ xl = .int k (lo : Nat)) (h1 : lo≤s.size) : (execOp ρ o).run P w = .ok (.value (.string (s.extract lo s.size))) w:=by
 simp [execOp,hop,Instr.sliceAt,Instr.slice,Instr.sliceBounds,Instr.sliceBound,asIntOf,run_underlying ht,hx,hl,h1]
theorem ss_drop (s : ByteArray) (n : Nat) : ss (s.extract n s.size) = (ss s).drop n:=by
 unfold ss
 rw [← List.map_drop]
 congr 1
 simp [ByteArray.data_extract]
 rw [List.take_of_length_le]
 rw [List.length_drop,Array.length_toList]
 exact Nat.le_refl _
theorem d_callc {g : FuncId} {c : Operand} {args caps all : Array Value} {zs : Array Operand} {ts : Array TypeId} {K : Value→World→Prop} (hop : o.op = .call { callee:=.value c,args:=zs,argTypes:=ts }) (hρ : ρ c = .func (.func g) #[] caps) (ha : zs.map ρ = args) (hall : args++caps = all) (hC : ∀ args w,(callFunc g args).run P w = .ok (.enter g args) w) (hc : Calls P g all w (Rt K)) : Does P ρ o w K:=by
 refine Does.call (f:=g) (args:=all) ?_ hc
 subst ha hall
 simp [execOp,hop,resolve,hρ,Deferred.ofValue,invoke,hC]
end
end Sl
end
section
namespace Sl
open RowKit
inductive Si {α : Type} : List α→Nat→α→α→List α→Prop where
 | z {r r' : α} {t : List α} : Si (r::t) 0 r r' (r'::t)
 | s {x r r' : α} {t t' : List α} {i : Nat} (h : Si t i r r' t') : Si (x::t) (i+1) r r' (x::t')
theorem Si.at {α : Type} {l l' : List α} {i : Nat} {r r' : α} (h : Si l i r r' l') : l[i]? = some r∧l' = l.set i r':=by
 induction h with
 | z=>exact ⟨rfl,rfl⟩
 | s _ ih=>exact ⟨by rw [List.getElem?_cons_succ];exact ih.1,by rw [List.set_cons_succ,ih.2]⟩
def nth {α : Type} : List α→Nat→Option α
 | [],_=>none
 | x::_,0=>some x
 | _::l,i+1=>nth l i
theorem nth_get {α : Type} : ∀ {l : List α} {i : Nat},nth l i = l[i]?
 | [],_=>rfl
 | x::l,0=>rfl
 | x::l,i+1=>by rw [nth,nth_get,List.getElem?_cons_succ]
inductive Sp {α : Type} : List α→List α→List α→Prop where
 | Z : Sp [] [] []
 | K {x : α} {l a b : List α} (h : Sp l a b) : Sp (x::l) a (x::b)
 | T {x : α} {l a b : List α} (h : Sp l a b) : Sp (x::l) (x::a) b
 | U {x y : α} {l a b : List α} (h : Sp l (y::a) b) : Sp (x::l) (y::x::a) b
 | V {x y z : α} {l a b : List α} (h : Sp l (y::z::a) b) : Sp (x::l) (y::z::x::a) b
 | W {x y z u : α} {l a b : List α} (h : Sp l (y::z::u::a) b) : Sp (x::l) (y::z::u::x::a) b
 | A {l : List α} : Sp l [] l
theorem Sp.perm {α : Type} {l a b : List α} (h : Sp l a b) : (a++b).Perm l:=by
 induction h with
 | Z=>exact .nil
 | K h ih=>exact List.perm_middle.trans (.cons _ ih)
 | T h ih=>exact .cons _ ih
 | U h ih=>exact (List.Perm.swap _ _ _).trans (.cons _ ih)
 | V h ih=>exact ((List.Perm.cons _ (List.Perm.swap _ _ _)).trans (List.Perm.swap _ _ _)).trans (.cons _ ih)
 | W h ih=>exact ((List.Perm.cons _ ((List.Perm.cons _ (List.Perm.swap _ _ _)).trans (List.Perm.swap _ _ _))).trans (List.Perm.swap _ _ _)).trans (.cons _ ih)
 | A=>exact .refl _
theorem Holds.perm {w : World} {f : Fm} {rs rs' : List Res} (H : Holds w f rs) (p : rs'.Perm rs) : Holds w f rs':=by
 have key : ∀ l : List Res,(∀ (i j : Nat) (r s : Res),i ≠ j→l[i]? = some r→l[j]? = some s→∀ b,r.dom b→¬ s.dom b) ↔ l.Pairwise (fun r s=>∀ b,r.dom b→¬ s.dom b):=fun l=>by
  rw [List.pairwise_iff_getElem]
  constructor
  ·
   intro h i j hi hj hij
   exact h i j _ _ (by omega) (List.getElem?_eq_getElem hi) (List.getElem?_eq_getElem hj)
  ·
   intro h i j r s hne hi hj b hr hs
   obtain ⟨hi',ei⟩:=List.getElem?_eq_some_iff.1 hi
   obtain ⟨hj',ej⟩:=List.getElem?_eq_some_iff.1 hj
   rcases Nat.lt_or_ge i j with h1 | h1
   ·
    exact h i j hi' hj' h1 b (by rw [ei];exact hr) (by rw [ej];exact hs)
   ·
    exact h j i hj' hi' (by omega) b (by rw [ej];exact hs) (by rw [ei];exact hr)
 refine ⟨H.os,H.tape,H.out,H.kept,fun r hr=>H.oks r (p.mem_iff.1 hr),fun r hr=>H.free r (p.mem_iff.1 hr),(key rs').2 ?_⟩
 exact (p.pairwise_iff (fun {x y} hxy b hy hx=>hxy b hx hy)).2 ((key rs).1 H.sep)
theorem i1 {α : Type} {x0 r r' : α} {t : List α} : Si (x0::r::t) 1 r r' (x0::r'::t):=.s .z
theorem i2 {α : Type} {x0 x1 r r' : α} {t : List α} : Si (x0::x1::r::t) 2 r r' (x0::x1::r'::t):=.s i1
theorem i3 {α : Type} {x0 x1 x2 r r' : α} {t : List α} : Si (x0::x1::x2::r::t) 3 r r' (x0::x1::x2::r'::t):=.s i2
theorem i4 {α : Type} {x0 x1 x2 x3 r r' : α} {t : List α} : Si (x0::x1::x2::x3::r::t) 4 r r' (x0::x1::x2::x3::r'::t):=.s i3
theorem i5 {α : Type} {x0 x1 x2 x3 x4 r r' : α} {t : List α} : Si (x0::x1::x2::x3::x4::r::t) 5 r r' (x0::x1::x2::x3::x4::r'::t):=.s i4
theorem i6 {α : Type} {x0 x1 x2 x3 x4 x5 r r' : α} {t : List α} : Si (x0::x1::x2::x3::x4::x5::r::t) 6 r r' (x0::x1::x2::x3::x4::x5::r'::t):=.s i5
theorem i7 {α : Type} {x0 x1 x2 x3 x4 x5 x6 r r' : α} {t : List α} : Si (x0::x1::x2::x3::x4::x5::x6::r::t) 7 r r' (x0::x1::x2::x3::x4::x5::x6::r'::t):=.s i6
theorem i8 {α : Type} {x0 x1 x2 x3 x4 x5 x6 x7 r r' : α} {t : List α} : Si (x0::x1::x2::x3::x4::x5::x6::x7::r::t) 8 r r' (x0::x1::x2::x3::x4::x5::x6::x7::r'::t):=.s i7
theorem i9 {α : Type} {x0 x1 x2 x3 x4 x5 x6 x7 x8 r r' : α} {t : List α} : Si (x0::x1::x2::x3::x4::x5::x6::x7::x8::r::t) 9 r r' (x0::x1::x2::x3::x4::x5::x6::x7::x8::r'::t):=.s i8
theorem i10 {α : Type} {x0 x1 x2 x3 x4 x5 x6 x7 x8 x9 r r' : α} {t : List α} : Si (x0::x1::x2::x3::x4::x5::x6::x7::x8::x9::r::t) 10 r r' (x0::x1::x2::x3::x4::x5::x6::x7::x8::x9::r'::t):=.s i9
theorem i11 {α : Type} {x0 x1 x2 x3 x4 x5 x6 x7 x8 x9 x10 r r' : α} {t : List α} : Si (x0::x1::x2::x3::x4::x5::x6::x7::x8::x9::x10::r::t) 11 r r' (x0::x1::x2::x3::x4::x5::x6::x7::x8::x9::x10::r'::t):=.s i10
theorem i12 {α : Type} {x0 x1 x2 x3 x4 x5 x6 x7 x8 x9 x10 x11 r r' : α} {t : List α} : Si (x0::x1::x2::x3::x4::x5::x6::x7::x8::x9::x10::x11::r::t) 12 r r' (x0::x1::x2::x3::x4::x5::x6::x7::x8::x9::x10::x11::r'::t):=.s i11
theorem i13 {α : Type} {x0 x1 x2 x3 x4 x5 x6 x7 x8 x9 x10 x11 x12 r r' : α} {t : List α} : Si (x0::x1::x2::x3::x4::x5::x6::x7::x8::x9::x10::x11::x12::r::t) 13 r r' (x0::x1::x2::x3::x4::x5::x6::x7::x8::x9::x10::x11::x12::r'::t):=.s i12
theorem i0 {α : Type} {r r' : α} {t : List α} : Si (r::t) 0 r r' (r'::t):=.z
section
variable {α : Type} {t : Fl α} {e : TypeId} {v : Value} {xs : List α} {f : Fm} {rs : List Res} {w : World}
theorem fr (h : Rd t f.hp v xs) : ∀ {w},Holds w f rs→Rd t (hp w) v xs:=fun H=>H.rd h
theorem rN : ∀ {w},Holds w f rs→Rd t (hp w) (.slice none 0 0) []:=fun _=>Rd.nil
theorem o0 : ∀ {w},Holds w f (Own t e v xs::rs)→Rd t (hp w) v xs:=fun H=>H.own (i:=0) rfl
theorem o1 {x0 : Res} : ∀ {w},Holds w f (x0::Own t e v xs::rs)→Rd t (hp w) v xs:=fun H=>H.own (i:=1) rfl
theorem o2 {x0 x1 : Res} : ∀ {w},Holds w f (x0::x1::Own t e v xs::rs)→Rd t (hp w) v xs:=fun H=>H.own (i:=2) rfl
theorem o3 {x0 x1 x2 : Res} : ∀ {w},Holds w f (x0::x1::x2::Own t e v xs::rs)→Rd t (hp w) v xs:=fun H=>H.own (i:=3) rfl
theorem o4 {x0 x1 x2 x3 : Res} : ∀ {w},Holds w f (x0::x1::x2::x3::Own t e v xs::rs)→Rd t (hp w) v xs:=fun H=>H.own (i:=4) rfl
theorem o5 {x0 x1 x2 x3 x4 : Res} : ∀ {w},Holds w f (x0::x1::x2::x3::x4::Own t e v xs::rs)→Rd t (hp w) v xs:=fun H=>H.own (i:=5) rfl
theorem o6 {x0 x1 x2 x3 x4 x5 : Res} : ∀ {w},Holds w f (x0::x1::x2::x3::x4::x5::Own t e v xs::rs)→Rd t (hp w) v xs:=fun H=>H.own (i:=6) rfl
theorem o7 {x0 x1 x2 x3 x4 x5 x6 : Res} : ∀ {w},Holds w f (x0::x1::x2::x3::x4::x5::x6::Own t e v xs::rs)→Rd t (hp w) v xs:=fun H=>H.own (i:=7) rfl
end
section
variable {P : Program} {Q : Exit→Act→World→Prop} {n : Nat} {f : Fm} {rs rs' : List Res} {L : List (Nat × Value)} {s : List Fk} {ops : Array Oper} {o : Oper} {rest : List Oper} {d : Nat} {v u : Value} {x y z : Operand} {T T' e : TypeId} {k k' : IntKind} {X Y Z : Int} {b c : Bool} {α : Type} {t : Fl α} {xs ys : List α} {p i j m : Nat} {cells cells' : List Value} {r r' : ByteArray}
theorem μV (h : (o.op,evL L x) = (.move x,some v)) : VS P n f rs L o (v):=by
 simp only [Prod.mk.injEq] at h
 obtain ⟨e1,e2⟩:=h
 exact fun a w F H=>x_move e1 (evL_ok F e2)
theorem μ (h : (o.op,evL L x,wantL ops L o,o.dst,Nat.blt d n) = (.move x,some v,some true,some d,true)) (k : GO P Q n f s ops rest rs ((d,v)::L)) : GO P Q n f s ops (o::rest) rs L:=by
 simp only [Prod.mk.injEq] at h
 obtain ⟨e1,e2,hww⟩:=h
 exact gv (fun a w F H=>x_move e1 (evL_ok F e2)) (by simp only [hww]) k
theorem νV (h : (o.op,evL L x) = (.assign x,some v)) : VS P n f rs L o (v):=by
 simp only [Prod.mk.injEq] at h
 obtain ⟨e1,e2⟩:=h
 exact fun a w F H=>x_assign e1 (evL_ok F e2)
theorem ν (h : (o.op,evL L x,wantL ops L o,o.dst,Nat.blt d n) = (.assign x,some v,some true,some d,true)) (k : GO P Q n f s ops rest rs ((d,v)::L)) : GO P Q n f s ops (o::rest) rs L:=by
 simp only [Prod.mk.injEq] at h
 obtain ⟨e1,e2,hww⟩:=h
 exact gv (fun a w F H=>x_assign e1 (evL_ok F e2)) (by simp only [hww]) k
theorem nkV {A : Addr} (h : (o.op,evL L x) = (.nilCheck x,some (.pointer (some A)))) : VS P n f rs L o (.pointer (some A)):=by
 simp only [Prod.mk.injEq] at h
 obtain ⟨e1,e2⟩:=h
 exact fun a w F H=>x_nil e1 (evL_ok F e2)
theorem nk {A : Addr} (h : (o.op,evL L x,wantL ops L o,o.dst,Nat.blt d n) = (.nilCheck x,some (.pointer (some A)),some true,some d,true)) (k : GO P Q n f s ops rest rs ((d,.pointer (some A))::L)) : GO P Q n f s ops (o::rest) rs L:=by
 simp only [Prod.mk.injEq] at h
 obtain ⟨e1,e2,hww⟩:=h
 exact gv (fun a w F H=>x_nil e1 (evL_ok F e2)) (by simp only [hww]) k
theorem pTV (h : (o.op,evL L z,evL L x) = (.pick z x y,some (.bool true),some v)) : VS P n f rs L o (v):=by
 simp only [Prod.mk.injEq] at h
 obtain ⟨e1,e2,e3⟩:=h
 exact fun a w F H=>x_pickT e1 (evL_ok F e2) (evL_ok F e3)
theorem pT (h : (o.op,evL L z,evL L x,wantL ops L o,o.dst,Nat.blt d n) = (.pick z x y,some (.bool true),some v,some true,some d,true)) (k : GO P Q n f s ops rest rs ((d,v)::L)) : GO P Q n f s ops (o::rest) rs L:=by
 simp only [Prod.mk.injEq] at h
 obtain ⟨e1,e2,e3,hww⟩:=h
 exact gv (fun a w F H=>x_pickT e1 (evL_ok F e2) (evL_ok F e3)) (by simp only [hww]) k
theorem pFV (h : (o.op,evL L z,evL L y) = (.pick z x y,some (.bool false),some v)) : VS P n f rs L o (v):=by
 simp only [Prod.mk.injEq] at h
 obtain ⟨e1,e2,e3⟩:=h
 exact fun a w F H=>x_pickF e1 (evL_ok F e2) (evL_ok F e3)
theorem pF (h : (o.op,evL L z,evL L y,wantL ops L o,o.dst,Nat.blt d n) = (.pick z x y,some (.bool false),some v,some true,some d,true)) (k : GO P Q n f s ops rest rs ((d,v)::L)) : GO P Q n f s ops (o::rest) rs L:=by
 simp only [Prod.mk.injEq] at h
 obtain ⟨e1,e2,e3,hww⟩:=h
 exact gv (fun a w F H=>x_pickF e1 (evL_ok F e2) (evL_ok F e3)) (by simp only [hww]) k
theorem n1V (h : (o.op,evL L x) = (.unOp .not T x,some (.bool true))) : VS P n f rs L o (.bool false):=by
 simp only [Prod.mk.injEq] at h
 obtain ⟨e1,e2⟩:=h
 exact fun a w F H=>x_not e1 (evL_ok F e2)
theorem n1 (h : (o.op,evL L x,wantL ops L o,o.dst,Nat.blt d n) = (.unOp .not T x,some (.bool true),some true,some d,true)) (k : GO P Q n f s ops rest rs ((d,.bool false)::L)) : GO P Q n f s ops (o::rest) rs L:=by
 simp only [Prod.mk.injEq] at h
 obtain ⟨e1,e2,hww⟩:=h
 exact gv (fun a w F H=>x_not e1 (evL_ok F e2)) (by simp only [hww]) k
theorem n0 (h : (o.op,evL L x,wantL ops L o,o.dst,Nat.blt d n) = (.unOp .not T x,some (.bool false),some true,some d,true)) (k : GO P Q n f s ops rest rs ((d,.bool true)::L)) : GO P Q n f s ops (o::rest) rs L:=by
 simp only [Prod.mk.injEq] at h
 obtain ⟨e1,e2,hww⟩:=h
 exact gv (fun a w F H=>x_not e1 (evL_ok F e2)) (by simp only [hww]) k
theorem nbV (h : (o.op,evL L x) = (.unOp .not T x,some (.bool b))) : VS P n f rs L o (.bool (!b)):=by
 simp only [Prod.mk.injEq] at h
 obtain ⟨e1,e2⟩:=h
 exact fun a w F H=>x_not e1 (evL_ok F e2)
theorem nb (h : (o.op,evL L x,wantL ops L o,o.dst,Nat.blt d n) = (.unOp .not T x,some (.bool b),some true,some d,true)) (k : GO P Q n f s ops rest rs ((d,.bool (!b))::L)) : GO P Q n f s ops (o::rest) rs L:=by
 simp only [Prod.mk.injEq] at h
 obtain ⟨e1,e2,hww⟩:=h
 exact gv (fun a w F H=>x_not e1 (evL_ok F e2)) (by simp only [hww]) k
theorem xtV {vs : List Value} (h : (o.op,evL L x,nth vs i) = (.extract x i,some (.tuple vs.toArray),some v)) : VS P n f rs L o (v):=by
 simp only [Prod.mk.injEq] at h
 obtain ⟨e1,e2,e3⟩:=h
 exact fun a w F H=>x_ext e1 (evL_ok F e2) (by rw [List.getElem?_toArray,← nth_get];exact e3)
theorem xt {vs : List Value} (h : (o.op,evL L x,nth vs i,wantL ops L o,o.dst,Nat.blt d n) = (.extract x i,some (.tuple vs.toArray),some v,some true,some d,true)) (k : GO P Q n f s ops rest rs ((d,v)::L)) : GO P Q n f s ops (o::rest) rs L:=by
 simp only [Prod.mk.injEq] at h
 obtain ⟨e1,e2,e3,hww⟩:=h
 exact gv (fun a w F H=>x_ext e1 (evL_ok F e2) (by rw [List.getElem?_toArray,← nth_get];exact e3)) (by simp only [hww]) k
theorem adV (ht : P.underlying T = some (.int k)) (h : (o.op,evL L x,evL L y) = (.binOp .add T x y T',some (.int k X),some (.int k Y))) (hw : k.wrap (X+Y) = Z) : VS P n f rs L o (.int k Z):=by
 simp only [Prod.mk.injEq] at h
 obtain ⟨e1,e2,e3⟩:=h
 exact fun a w F H=>x_add e1 ht (evL_ok F e2) (evL_ok F e3) hw
theorem ad (ht : P.underlying T = some (.int k)) (h : (o.op,evL L x,evL L y,wantL ops L o,o.dst,Nat.blt d n) = (.binOp .add T x y T',some (.int k X),some (.int k Y),some true,some d,true)) (hw : k.wrap (X+Y) = Z) (k : GO P Q n f s ops rest rs ((d,.int k Z)::L)) : GO P Q n f s ops (o::rest) rs L:=by
 simp only [Prod.mk.injEq] at h
 obtain ⟨e1,e2,e3,hww⟩:=h
 exact gv (fun a w F H=>x_add e1 ht (evL_ok F e2) (evL_ok F e3) hw) (by simp only [hww]) k
theorem adiV (ht : P.underlying T = some (.int .i64)) (h : (o.op,evL L x,evL L y) = (.binOp .add T x y T',some (.int .i64 X),some (.int .i64 Y))) (hw : -9223372036854775808≤X+Y∧X+Y≤9223372036854775807) : VS P n f rs L o (.int .i64 (X+Y)):=by
 simp only [Prod.mk.injEq] at h
 obtain ⟨e1,e2,e3⟩:=h
 exact fun a w F H=>x_add e1 ht (evL_ok F e2) (evL_ok F e3) (wr_i64 hw)
theorem adi (ht : P.underlying T = some (.int .i64)) (h : (o.op,evL L x,evL L y,wantL ops L o,o.dst,Nat.blt d n) = (.binOp .add T x y T',some (.int .i64 X),some (.int .i64 Y),some true,some d,true)) (hw : -9223372036854775808≤X+Y∧X+Y≤9223372036854775807) (k : GO P Q n f s ops rest rs ((d,.int .i64 (X+Y))::L)) : GO P Q n f s ops (o::rest) rs L:=by
 simp only [Prod.mk.injEq] at h
 obtain ⟨e1,e2,e3,hww⟩:=h
 exact gv (fun a w F H=>x_add e1 ht (evL_ok F e2) (evL_ok F e3) (wr_i64 hw)) (by simp only [hww]) k
theorem adu (ht : P.underlying T = some (.int .u64)) (h : (o.op,evL L x,evL L y,wantL ops L o,o.dst,Nat.blt d n) = (.binOp .add T x y T',some (.int .u64 X),some (.int .u64 Y),some true,some d,true)) (hw : 0≤X+Y∧X+Y≤18446744073709551615) (k : GO P Q n f s ops rest rs ((d,.int .u64 (X+Y))::L)) : GO P Q n f s ops (o::rest) rs L:=by
 simp only [Prod.mk.injEq] at h
 obtain ⟨e1,e2,e3,hww⟩:=h
 exact gv (fun a w F H=>x_add e1 ht (evL_ok F e2) (evL_ok F e3) (wr_u64 hw)) (by simp only [hww]) k
theorem suV (ht : P.underlying T = some (.int k)) (h : (o.op,evL L x,evL L y) = (.binOp .sub T x y T',some (.int k X),some (.int k Y))) (hw : k.wrap (X - Y) = Z) : VS P n f rs L o (.int k Z):=by
 simp only [Prod.mk.injEq] at h
 obtain ⟨e1,e2,e3⟩:=h
 exact fun a w F H=>x_sub e1 ht (evL_ok F e2) (evL_ok F e3) hw
theorem su (ht : P.underlying T = some (.int k)) (h : (o.op,evL L x,evL L y,wantL ops L o,o.dst,Nat.blt d n) = (.binOp .sub T x y T',some (.int k X),some (.int k Y),some true,some d,true)) (hw : k.wrap (X - Y) = Z) (k : GO P Q n f s ops rest rs ((d,.int k Z)::L)) : GO P Q n f s ops (o::rest) rs L:=by
 simp only [Prod.mk.injEq] at h
 obtain ⟨e1,e2,e3,hww⟩:=h
 exact gv (fun a w F H=>x_sub e1 ht (evL_ok F e2) (evL_ok F e3) hw) (by simp only [hww]) k
theorem suiV (ht : P.underlying T = some (.int .i64)) (h : (o.op,evL L x,evL L y) = (.binOp .sub T x y T',some (.int .i64 X),some (.int .i64 Y))) (hw : -9223372036854775808≤X - Y∧X - Y≤9223372036854775807) : VS P n f rs L o (.int .i64 (X - Y)):=by
 simp only [Prod.mk.injEq] at h
 obtain ⟨e1,e2,e3⟩:=h
 exact fun a w F H=>x_sub e1 ht (evL_ok F e2) (evL_ok F e3) (wr_i64 hw)
theorem sui (ht : P.underlying T = some (.int .i64)) (h : (o.op,evL L x,evL L y,wantL ops L o,o.dst,Nat.blt d n) = (.binOp .sub T x y T',some (.int .i64 X),some (.int .i64 Y),some true,some d,true)) (hw : -9223372036854775808≤X - Y∧X - Y≤9223372036854775807) (k : GO P Q n f s ops rest rs ((d,.int .i64 (X - Y))::L)) : GO P Q n f s ops (o::rest) rs L:=by
 simp only [Prod.mk.injEq] at h
 obtain ⟨e1,e2,e3,hww⟩:=h
 exact gv (fun a w F H=>x_sub e1 ht (evL_ok F e2) (evL_ok F e3) (wr_i64 hw)) (by simp only [hww]) k
theorem mu (ht : P.underlying T = some (.int k)) (h : (o.op,evL L x,evL L y,wantL ops L o,o.dst,Nat.blt d n) = (.binOp .mul T x y T',some (.int k X),some (.int k Y),some true,some d,true)) (hw : k.wrap (X * Y) = Z) (k : GO P Q n f s ops rest rs ((d,.int k Z)::L)) : GO P Q n f s ops (o::rest) rs L:=by
 simp only [Prod.mk.injEq] at h
 obtain ⟨e1,e2,e3,hww⟩:=h
 exact gv (fun a w F H=>x_mul e1 ht (evL_ok F e2) (evL_ok F e3) hw) (by simp only [hww]) k
theorem muiV (ht : P.underlying T = some (.int .i64)) (h : (o.op,evL L x,evL L y) = (.binOp .mul T x y T',some (.int .i64 X),some (.int .i64 Y))) (hw : -9223372036854775808≤X * Y∧X * Y≤9223372036854775807) : VS P n f rs L o (.int .i64 (X * Y)):=by
 simp only [Prod.mk.injEq] at h
 obtain ⟨e1,e2,e3⟩:=h
 exact fun a w F H=>x_mul e1 ht (evL_ok F e2) (evL_ok F e3) (wr_i64 hw)
theorem mui (ht : P.underlying T = some (.int .i64)) (h : (o.op,evL L x,evL L y,wantL ops L o,o.dst,Nat.blt d n) = (.binOp .mul T x y T',some (.int .i64 X),some (.int .i64 Y),some true,some d,true)) (hw : -9223372036854775808≤X * Y∧X * Y≤9223372036854775807) (k : GO P Q n f s ops rest rs ((d,.int .i64 (X * Y))::L)) : GO P Q n f s ops (o::rest) rs L:=by
 simp only [Prod.mk.injEq] at h
 obtain ⟨e1,e2,e3,hww⟩:=h
 exact gv (fun a w F H=>x_mul e1 ht (evL_ok F e2) (evL_ok F e3) (wr_i64 hw)) (by simp only [hww]) k
theorem vltV (ht : P.underlying T = some (.int k)) (h : (o.op,evL L x,evL L y) = (.binOp .lss T x y T',some (.int k X),some (.int k Y))) : VS P n f rs L o (.bool (decide (X < Y))):=by
 simp only [Prod.mk.injEq] at h
 obtain ⟨e1,e2,e3⟩:=h
 exact fun a w F H=>x_lss e1 ht (evL_ok F e2) (evL_ok F e3)
theorem vlt (ht : P.underlying T = some (.int k)) (h : (o.op,evL L x,evL L y,wantL ops L o,o.dst,Nat.blt d n) = (.binOp .lss T x y T',some (.int k X),some (.int k Y),some true,some d,true)) (k : GO P Q n f s ops rest rs ((d,.bool (decide (X < Y)))::L)) : GO P Q n f s ops (o::rest) rs L:=by
 simp only [Prod.mk.injEq] at h
 obtain ⟨e1,e2,e3,hww⟩:=h
 exact gv (fun a w F H=>x_lss e1 ht (evL_ok F e2) (evL_ok F e3)) (by simp only [hww]) k
theorem zvlt (ht : P.underlying T = some (.int k)) (h : (o.op,evL L x,evL L y,wantL ops L o,o.dst,Nat.blt d n) = (.binOp .lss T x y T',some (.int k X),some (.int k Y),some true,some d,true)) (kt : X < Y→GO P Q n f s ops rest rs ((d,.bool true)::L)) (kf : ¬ (X < Y)→GO P Q n f s ops rest rs ((d,.bool false)::L)) : GO P Q n f s ops (o::rest) rs L:=vlt ht h (by
 by_cases hp : X < Y
 ·
  rw [decide_eq_true hp];exact kt hp
 ·
  rw [decide_eq_false hp];exact kf hp)
theorem vle (ht : P.underlying T = some (.int k)) (h : (o.op,evL L x,evL L y,wantL ops L o,o.dst,Nat.blt d n) = (.binOp .leq T x y T',some (.int k X),some (.int k Y),some true,some d,true)) (k : GO P Q n f s ops rest rs ((d,.bool (decide (X≤Y)))::L)) : GO P Q n f s ops (o::rest) rs L:=by
 simp only [Prod.mk.injEq] at h
 obtain ⟨e1,e2,e3,hww⟩:=h
 exact gv (fun a w F H=>x_leq e1 ht (evL_ok F e2) (evL_ok F e3)) (by simp only [hww]) k
theorem zvle (ht : P.underlying T = some (.int k)) (h : (o.op,evL L x,evL L y,wantL ops L o,o.dst,Nat.blt d n) = (.binOp .leq T x y T',some (.int k X),some (.int k Y),some true,some d,true)) (kt : X≤Y→GO P Q n f s ops rest rs ((d,.bool true)::L)) (kf : ¬ (X≤Y)→GO P Q n f s ops rest rs ((d,.bool false)::L)) : GO P Q n f s ops (o::rest) rs L:=vle ht h (by
 by_cases hp : X≤Y
 ·
  rw [decide_eq_true hp];exact kt hp
 ·
  rw [decide_eq_false hp];exact kf hp)
theorem vgtV (ht : P.underlying T = some (.int k)) (h : (o.op,evL L x,evL L y) = (.binOp .gtr T x y T',some (.int k X),some (.int k Y))) : VS P n f rs L o (.bool (decide (Y < X))):=by
 simp only [Prod.mk.injEq] at h
 obtain ⟨e1,e2,e3⟩:=h
 exact fun a w F H=>x_gtr e1 ht (evL_ok F e2) (evL_ok F e3)
theorem vgt (ht : P.underlying T = some (.int k)) (h : (o.op,evL L x,evL L y,wantL ops L o,o.dst,Nat.blt d n) = (.binOp .gtr T x y T',some (.int k X),some (.int k Y),some true,some d,true)) (k : GO P Q n f s ops rest rs ((d,.bool (decide (Y < X)))::L)) : GO P Q n f s ops (o::rest) rs L:=by
 simp only [Prod.mk.injEq] at h
 obtain ⟨e1,e2,e3,hww⟩:=h
 exact gv (fun a w F H=>x_gtr e1 ht (evL_ok F e2) (evL_ok F e3)) (by simp only [hww]) k
theorem zvgt (ht : P.underlying T = some (.int k)) (h : (o.op,evL L x,evL L y,wantL ops L o,o.dst,Nat.blt d n) = (.binOp .gtr T x y T',some (.int k X),some (.int k Y),some true,some d,true)) (kt : Y < X→GO P Q n f s ops rest rs ((d,.bool true)::L)) (kf : ¬ (Y < X)→GO P Q n f s ops rest rs ((d,.bool false)::L)) : GO P Q n f s ops (o::rest) rs L:=vgt ht h (by
 by_cases hp : Y < X
 ·
  rw [decide_eq_true hp];exact kt hp
 ·
  rw [decide_eq_false hp];exact kf hp)
theorem vgeV (ht : P.underlying T = some (.int k)) (h : (o.op,evL L x,evL L y) = (.binOp .geq T x y T',some (.int k X),some (.int k Y))) : VS P n f rs L o (.bool (decide (Y≤X))):=by
 simp only [Prod.mk.injEq] at h
 obtain ⟨e1,e2,e3⟩:=h
 exact fun a w F H=>x_geq e1 ht (evL_ok F e2) (evL_ok F e3)
theorem vge (ht : P.underlying T = some (.int k)) (h : (o.op,evL L x,evL L y,wantL ops L o,o.dst,Nat.blt d n) = (.binOp .geq T x y T',some (.int k X),some (.int k Y),some true,some d,true)) (k : GO P Q n f s ops rest rs ((d,.bool (decide (Y≤X)))::L)) : GO P Q n f s ops (o::rest) rs L:=by
 simp only [Prod.mk.injEq] at h
 obtain ⟨e1,e2,e3,hww⟩:=h
 exact gv (fun a w F H=>x_geq e1 ht (evL_ok F e2) (evL_ok F e3)) (by simp only [hww]) k
theorem zvge (ht : P.underlying T = some (.int k)) (h : (o.op,evL L x,evL L y,wantL ops L o,o.dst,Nat.blt d n) = (.binOp .geq T x y T',some (.int k X),some (.int k Y),some true,some d,true)) (kt : Y≤X→GO P Q n f s ops rest rs ((d,.bool true)::L)) (kf : ¬ (Y≤X)→GO P Q n f s ops rest rs ((d,.bool false)::L)) : GO P Q n f s ops (o::rest) rs L:=vge ht h (by
 by_cases hp : Y≤X
 ·
  rw [decide_eq_true hp];exact kt hp
 ·
  rw [decide_eq_false hp];exact kf hp)
theorem veqV (ht : P.underlying T = some (.int k)) (h : (o.op,evL L x,evL L y) = (.binOp .eql T x y T',some (.int k X),some (.int k Y))) : VS P n f rs L o (.bool (decide (X = Y))):=by
 simp only [Prod.mk.injEq] at h
 obtain ⟨e1,e2,e3⟩:=h
 exact fun a w F H=>x_eql e1 ht (evL_ok F e2) (evL_ok F e3)
theorem veq (ht : P.underlying T = some (.int k)) (h : (o.op,evL L x,evL L y,wantL ops L o,o.dst,Nat.blt d n) = (.binOp .eql T x y T',some (.int k X),some (.int k Y),some true,some d,true)) (k : GO P Q n f s ops rest rs ((d,.bool (decide (X = Y)))::L)) : GO P Q n f s ops (o::rest) rs L:=by
 simp only [Prod.mk.injEq] at h
 obtain ⟨e1,e2,e3,hww⟩:=h
 exact gv (fun a w F H=>x_eql e1 ht (evL_ok F e2) (evL_ok F e3)) (by simp only [hww]) k
theorem zveq (ht : P.underlying T = some (.int k)) (h : (o.op,evL L x,evL L y,wantL ops L o,o.dst,Nat.blt d n) = (.binOp .eql T x y T',some (.int k X),some (.int k Y),some true,some d,true)) (kt : X = Y→GO P Q n f s ops rest rs ((d,.bool true)::L)) (kf : ¬ (X = Y)→GO P Q n f s ops rest rs ((d,.bool false)::L)) : GO P Q n f s ops (o::rest) rs L:=veq ht h (by
 by_cases hp : X = Y
 ·
  rw [decide_eq_true hp];exact kt hp
 ·
  rw [decide_eq_false hp];exact kf hp)
theorem vnqV (ht : P.underlying T = some (.int k)) (h : (o.op,evL L x,evL L y) = (.binOp .neq T x y T',some (.int k X),some (.int k Y))) : VS P n f rs L o (.bool (decide (X ≠ Y))):=by
 simp only [Prod.mk.injEq] at h
 obtain ⟨e1,e2,e3⟩:=h
 exact fun a w F H=>x_neq e1 ht (evL_ok F e2) (evL_ok F e3)
theorem vnq (ht : P.underlying T = some (.int k)) (h : (o.op,evL L x,evL L y,wantL ops L o,o.dst,Nat.blt d n) = (.binOp .neq T x y T',some (.int k X),some (.int k Y),some true,some d,true)) (k : GO P Q n f s ops rest rs ((d,.bool (decide (X ≠ Y)))::L)) : GO P Q n f s ops (o::rest) rs L:=by
 simp only [Prod.mk.injEq] at h
 obtain ⟨e1,e2,e3,hww⟩:=h
 exact gv (fun a w F H=>x_neq e1 ht (evL_ok F e2) (evL_ok F e3)) (by simp only [hww]) k
theorem zvnq (ht : P.underlying T = some (.int k)) (h : (o.op,evL L x,evL L y,wantL ops L o,o.dst,Nat.blt d n) = (.binOp .neq T x y T',some (.int k X),some (.int k Y),some true,some d,true)) (kt : X ≠ Y→GO P Q n f s ops rest rs ((d,.bool true)::L)) (kf : ¬ (X ≠ Y)→GO P Q n f s ops rest rs ((d,.bool false)::L)) : GO P Q n f s ops (o::rest) rs L:=vnq ht h (by
 by_cases hp : X ≠ Y
 ·
  rw [decide_eq_true hp];exact kt hp
 ·
  rw [decide_eq_false hp];exact kf hp)
theorem yvltV (ht : P.underlying T = some (.int k)) (hp : X < Y) (h : (o.op,evL L x,evL L y) = (.binOp .lss T x y T',some (.int k X),some (.int k Y))) : VS P n f rs L o (.bool true):=by have:=vltV (rs:=rs) (n:=n) (f:=f) ht h;rwa [decide_eq_true hp] at this
theorem yvlt (ht : P.underlying T = some (.int k)) (hp : X < Y) (h : (o.op,evL L x,evL L y,wantL ops L o,o.dst,Nat.blt d n) = (.binOp .lss T x y T',some (.int k X),some (.int k Y),some true,some d,true)) (kt : GO P Q n f s ops rest rs ((d,.bool true)::L)) : GO P Q n f s ops (o::rest) rs L:=vlt ht h (by rw [decide_eq_true hp];exact kt)
theorem xvltV (ht : P.underlying T = some (.int k)) (hp : ¬ (X < Y)) (h : (o.op,evL L x,evL L y) = (.binOp .lss T x y T',some (.int k X),some (.int k Y))) : VS P n f rs L o (.bool false):=by have:=vltV (rs:=rs) (n:=n) (f:=f) ht h;rwa [decide_eq_false hp] at this
theorem xvlt (ht : P.underlying T = some (.int k)) (hp : ¬ (X < Y)) (h : (o.op,evL L x,evL L y,wantL ops L o,o.dst,Nat.blt d n) = (.binOp .lss T x y T',some (.int k X),some (.int k Y),some true,some d,true)) (kt : GO P Q n f s ops rest rs ((d,.bool false)::L)) : GO P Q n f s ops (o::rest) rs L:=vlt ht h (by rw [decide_eq_false hp];exact kt)
theorem yvle (ht : P.underlying T = some (.int k)) (hp : X≤Y) (h : (o.op,evL L x,evL L y,wantL ops L o,o.dst,Nat.blt d n) = (.binOp .leq T x y T',some (.int k X),some (.int k Y),some true,some d,true)) (kt : GO P Q n f s ops rest rs ((d,.bool true)::L)) : GO P Q n f s ops (o::rest) rs L:=vle ht h (by rw [decide_eq_true hp];exact kt)
theorem yvgtV (ht : P.underlying T = some (.int k)) (hp : Y < X) (h : (o.op,evL L x,evL L y) = (.binOp .gtr T x y T',some (.int k X),some (.int k Y))) : VS P n f rs L o (.bool true):=by have:=vgtV (rs:=rs) (n:=n) (f:=f) ht h;rwa [decide_eq_true hp] at this
theorem yvgt (ht : P.underlying T = some (.int k)) (hp : Y < X) (h : (o.op,evL L x,evL L y,wantL ops L o,o.dst,Nat.blt d n) = (.binOp .gtr T x y T',some (.int k X),some (.int k Y),some true,some d,true)) (kt : GO P Q n f s ops rest rs ((d,.bool true)::L)) : GO P Q n f s ops (o::rest) rs L:=vgt ht h (by rw [decide_eq_true hp];exact kt)
theorem xvgtV (ht : P.underlying T = some (.int k)) (hp : ¬ (Y < X)) (h : (o.op,evL L x,evL L y) = (.binOp .gtr T x y T',some (.int k X),some (.int k Y))) : VS P n f rs L o (.bool false):=by have:=vgtV (rs:=rs) (n:=n) (f:=f) ht h;rwa [decide_eq_false hp] at this
theorem xvgt (ht : P.underlying T = some (.int k)) (hp : ¬ (Y < X)) (h : (o.op,evL L x,evL L y,wantL ops L o,o.dst,Nat.blt d n) = (.binOp .gtr T x y T',some (.int k X),some (.int k Y),some true,some d,true)) (kt : GO P Q n f s ops rest rs ((d,.bool false)::L)) : GO P Q n f s ops (o::rest) rs L:=vgt ht h (by rw [decide_eq_false hp];exact kt)
theorem yvge (ht : P.underlying T = some (.int k)) (hp : Y≤X) (h : (o.op,evL L x,evL L y,wantL ops L o,o.dst,Nat.blt d n) = (.binOp .geq T x y T',some (.int k X),some (.int k Y),some true,some d,true)) (kt : GO P Q n f s ops rest rs ((d,.bool true)::L)) : GO P Q n f s ops (o::rest) rs L:=vge ht h (by rw [decide_eq_true hp];exact kt)
theorem xvge (ht : P.underlying T = some (.int k)) (hp : ¬ (Y≤X)) (h : (o.op,evL L x,evL L y,wantL ops L o,o.dst,Nat.blt d n) = (.binOp .geq T x y T',some (.int k X),some (.int k Y),some true,some d,true)) (kt : GO P Q n f s ops rest rs ((d,.bool false)::L)) : GO P Q n f s ops (o::rest) rs L:=vge ht h (by rw [decide_eq_false hp];exact kt)
theorem yveqV (ht : P.underlying T = some (.int k)) (hp : X = Y) (h : (o.op,evL L x,evL L y) = (.binOp .eql T x y T',some (.int k X),some (.int k Y))) : VS P n f rs L o (.bool true):=by have:=veqV (rs:=rs) (n:=n) (f:=f) ht h;rwa [decide_eq_true hp] at this
theorem yveq (ht : P.underlying T = some (.int k)) (hp : X = Y) (h : (o.op,evL L x,evL L y,wantL ops L o,o.dst,Nat.blt d n) = (.binOp .eql T x y T',some (.int k X),some (.int k Y),some true,some d,true)) (kt : GO P Q n f s ops rest rs ((d,.bool true)::L)) : GO P Q n f s ops (o::rest) rs L:=veq ht h (by rw [decide_eq_true hp];exact kt)
theorem xveqV (ht : P.underlying T = some (.int k)) (hp : ¬ (X = Y)) (h : (o.op,evL L x,evL L y) = (.binOp .eql T x y T',some (.int k X),some (.int k Y))) : VS P n f rs L o (.bool false):=by have:=veqV (rs:=rs) (n:=n) (f:=f) ht h;rwa [decide_eq_false hp] at this
theorem xveq (ht : P.underlying T = some (.int k)) (hp : ¬ (X = Y)) (h : (o.op,evL L x,evL L y,wantL ops L o,o.dst,Nat.blt d n) = (.binOp .eql T x y T',some (.int k X),some (.int k Y),some true,some d,true)) (kt : GO P Q n f s ops rest rs ((d,.bool false)::L)) : GO P Q n f s ops (o::rest) rs L:=veq ht h (by rw [decide_eq_false hp];exact kt)
theorem yvnqV (ht : P.underlying T = some (.int k)) (hp : X ≠ Y) (h : (o.op,evL L x,evL L y) = (.binOp .neq T x y T',some (.int k X),some (.int k Y))) : VS P n f rs L o (.bool true):=by have:=vnqV (rs:=rs) (n:=n) (f:=f) ht h;rwa [decide_eq_true hp] at this
theorem yvnq (ht : P.underlying T = some (.int k)) (hp : X ≠ Y) (h : (o.op,evL L x,evL L y,wantL ops L o,o.dst,Nat.blt d n) = (.binOp .neq T x y T',some (.int k X),some (.int k Y),some true,some d,true)) (kt : GO P Q n f s ops rest rs ((d,.bool true)::L)) : GO P Q n f s ops (o::rest) rs L:=vnq ht h (by rw [decide_eq_true hp];exact kt)
theorem xvnqV (ht : P.underlying T = some (.int k)) (hp : ¬ (X ≠ Y)) (h : (o.op,evL L x,evL L y) = (.binOp .neq T x y T',some (.int k X),some (.int k Y))) : VS P n f rs L o (.bool false):=by have:=vnqV (rs:=rs) (n:=n) (f:=f) ht h;rwa [decide_eq_false hp] at this
theorem xvnq (ht : P.underlying T = some (.int k)) (hp : ¬ (X ≠ Y)) (h : (o.op,evL L x,evL L y,wantL ops L o,o.dst,Nat.blt d n) = (.binOp .neq T x y T',some (.int k X),some (.int k Y),some true,some d,true)) (kt : GO P Q n f s ops rest rs ((d,.bool false)::L)) : GO P Q n f s ops (o::rest) rs L:=vnq ht h (by rw [decide_eq_false hp];exact kt)
theorem vqS (ht : P.underlying T = some .string) (h : (o.op,evL L x,evL L y,wantL ops L o,o.dst,Nat.blt d n) = (.binOp .eql T x y T',some (.string r),some (.string r'),some true,some d,true)) (k : GO P Q n f s ops rest rs ((d,.bool (decide (r = r')))::L)) : GO P Q n f s ops (o::rest) rs L:=by
 simp only [Prod.mk.injEq] at h
 obtain ⟨e1,e2,e3,hww⟩:=h
 exact gv (fun a w F H=>x_eqlS e1 ht (evL_ok F e2) (evL_ok F e3)) (by simp only [hww]) k
theorem vnSV (ht : P.underlying T = some .string) (h : (o.op,evL L x,evL L y) = (.binOp .neq T x y T',some (.string r),some (.string r'))) : VS P n f rs L o (.bool (decide (r ≠ r'))):=by
 simp only [Prod.mk.injEq] at h
 obtain ⟨e1,e2,e3⟩:=h
 exact fun a w F H=>x_neqS e1 ht (evL_ok F e2) (evL_ok F e3)
theorem vnS (ht : P.underlying T = some .string) (h : (o.op,evL L x,evL L y,wantL ops L o,o.dst,Nat.blt d n) = (.binOp .neq T x y T',some (.string r),some (.string r'),some true,some d,true)) (k : GO P Q n f s ops rest rs ((d,.bool (decide (r ≠ r')))::L)) : GO P Q n f s ops (o::rest) rs L:=by
 simp only [Prod.mk.injEq] at h
 obtain ⟨e1,e2,e3,hww⟩:=h
 exact gv (fun a w F H=>x_neqS e1 ht (evL_ok F e2) (evL_ok F e3)) (by simp only [hww]) k
theorem xvqS (ht : P.underlying T = some .string) (hp : ¬ (r = r')) (h : (o.op,evL L x,evL L y,wantL ops L o,o.dst,Nat.blt d n) = (.binOp .eql T x y T',some (.string r),some (.string r'),some true,some d,true)) (kt : GO P Q n f s ops rest rs ((d,.bool false)::L)) : GO P Q n f s ops (o::rest) rs L:=vqS ht h (by rw [decide_eq_false hp];exact kt)
theorem xvnSV (ht : P.underlying T = some .string) (hp : ¬ (r ≠ r')) (h : (o.op,evL L x,evL L y) = (.binOp .neq T x y T',some (.string r),some (.string r'))) : VS P n f rs L o (.bool false):=by have:=vnSV (rs:=rs) (n:=n) (f:=f) ht h;rwa [decide_eq_false hp] at this
theorem xvnS (ht : P.underlying T = some .string) (hp : ¬ (r ≠ r')) (h : (o.op,evL L x,evL L y,wantL ops L o,o.dst,Nat.blt d n) = (.binOp .neq T x y T',some (.string r),some (.string r'),some true,some d,true)) (kt : GO P Q n f s ops rest rs ((d,.bool false)::L)) : GO P Q n f s ops (o::rest) rs L:=vnS ht h (by rw [decide_eq_false hp];exact kt)
theorem cvV (ht : P.underlying T = some (.int k)) (ht' : P.underlying T' = some (.int k')) (h : (o.op,evL L x) = (.convert T T' x,some (.int k X))) (hw : k'.wrap X = Z) : VS P n f rs L o (.int k' Z):=by
 simp only [Prod.mk.injEq] at h
 obtain ⟨e1,e2⟩:=h
 exact fun a w F H=>x_cvI e1 ht ht' (evL_ok F e2) hw
theorem cv (ht : P.underlying T = some (.int k)) (ht' : P.underlying T' = some (.int k')) (h : (o.op,evL L x,wantL ops L o,o.dst,Nat.blt d n) = (.convert T T' x,some (.int k X),some true,some d,true)) (hw : k'.wrap X = Z) (k : GO P Q n f s ops rest rs ((d,.int k' Z)::L)) : GO P Q n f s ops (o::rest) rs L:=by
 simp only [Prod.mk.injEq] at h
 obtain ⟨e1,e2,hww⟩:=h
 exact gv (fun a w F H=>x_cvI e1 ht ht' (evL_ok F e2) hw) (by simp only [hww]) k
theorem cviV (ht : P.underlying T = some (.int k)) (ht' : P.underlying T' = some (.int .i64)) (h : (o.op,evL L x) = (.convert T T' x,some (.int k X))) (hw : -9223372036854775808≤X∧X≤9223372036854775807) : VS P n f rs L o (.int .i64 X):=by
 simp only [Prod.mk.injEq] at h
 obtain ⟨e1,e2⟩:=h
 exact fun a w F H=>x_cvI e1 ht ht' (evL_ok F e2) (wr_i64 hw)
theorem cvi (ht : P.underlying T = some (.int k)) (ht' : P.underlying T' = some (.int .i64)) (h : (o.op,evL L x,wantL ops L o,o.dst,Nat.blt d n) = (.convert T T' x,some (.int k X),some true,some d,true)) (hw : -9223372036854775808≤X∧X≤9223372036854775807) (k : GO P Q n f s ops rest rs ((d,.int .i64 X)::L)) : GO P Q n f s ops (o::rest) rs L:=by
 simp only [Prod.mk.injEq] at h
 obtain ⟨e1,e2,hww⟩:=h
 exact gv (fun a w F H=>x_cvI e1 ht ht' (evL_ok F e2) (wr_i64 hw)) (by simp only [hww]) k
theorem cvuV (ht : P.underlying T = some (.int k)) (ht' : P.underlying T' = some (.int .u64)) (h : (o.op,evL L x) = (.convert T T' x,some (.int k X))) (hw : 0≤X∧X≤18446744073709551615) : VS P n f rs L o (.int .u64 X):=by
 simp only [Prod.mk.injEq] at h
 obtain ⟨e1,e2⟩:=h
 exact fun a w F H=>x_cvI e1 ht ht' (evL_ok F e2) (wr_u64 hw)
theorem cvu (ht : P.underlying T = some (.int k)) (ht' : P.underlying T' = some (.int .u64)) (h : (o.op,evL L x,wantL ops L o,o.dst,Nat.blt d n) = (.convert T T' x,some (.int k X),some true,some d,true)) (hw : 0≤X∧X≤18446744073709551615) (k : GO P Q n f s ops rest rs ((d,.int .u64 X)::L)) : GO P Q n f s ops (o::rest) rs L:=by
 simp only [Prod.mk.injEq] at h
 obtain ⟨e1,e2,hww⟩:=h
 exact gv (fun a w F H=>x_cvI e1 ht ht' (evL_ok F e2) (wr_u64 hw)) (by simp only [hww]) k
theorem cvbV (ht : P.underlying T = some (.int k)) (ht' : P.underlying T' = some (.int .u8)) (h : (o.op,evL L x) = (.convert T T' x,some (.int k X))) (hw : 0≤X∧X≤255) : VS P n f rs L o (.int .u8 X):=by
 simp only [Prod.mk.injEq] at h
 obtain ⟨e1,e2⟩:=h
 exact fun a w F H=>x_cvI e1 ht ht' (evL_ok F e2) (wr_u8 hw)
theorem cvb (ht : P.underlying T = some (.int k)) (ht' : P.underlying T' = some (.int .u8)) (h : (o.op,evL L x,wantL ops L o,o.dst,Nat.blt d n) = (.convert T T' x,some (.int k X),some true,some d,true)) (hw : 0≤X∧X≤255) (k : GO P Q n f s ops rest rs ((d,.int .u8 X)::L)) : GO P Q n f s ops (o::rest) rs L:=by
 simp only [Prod.mk.injEq] at h
 obtain ⟨e1,e2,hww⟩:=h
 exact gv (fun a w F H=>x_cvI e1 ht ht' (evL_ok F e2) (wr_u8 hw)) (by simp only [hww]) k
theorem lnV (hR : ∀ {w},Holds w f rs→Rd t (hp w) v xs) (ht : P.underlying T = some (.slice e)) (h : (o.op,evL L x) = (.call { callee:=.builtin .len,args:=#[x],argTypes:=#[T] },some v)) : VS P n f rs L o (.int .i64 (xs.length : Nat)):=by
 simp only [Prod.mk.injEq] at h
 obtain ⟨e1,e2⟩:=h
 exact fun a w F H=>x_len (hR H) e1 (evL_ok F e2) ht
theorem ln (hR : ∀ {w},Holds w f rs→Rd t (hp w) v xs) (ht : P.underlying T = some (.slice e)) (h : (o.op,evL L x,wantL ops L o,o.dst,Nat.blt d n) = (.call { callee:=.builtin .len,args:=#[x],argTypes:=#[T] },some v,some true,some d,true)) (k : GO P Q n f s ops rest rs ((d,.int .i64 (xs.length : Nat))::L)) : GO P Q n f s ops (o::rest) rs L:=by
 simp only [Prod.mk.injEq] at h
 obtain ⟨e1,e2,hww⟩:=h
 exact gv (fun a w F H=>x_len (hR H) e1 (evL_ok F e2) ht) (by simp only [hww]) k
theorem lsV (ht : P.underlying T = some .string) (h : (o.op,evL L x) = (.call { callee:=.builtin .len,args:=#[x],argTypes:=#[T] },some (.string r))) : VS P n f rs L o (.int .i64 (r.size : Nat)):=by
 simp only [Prod.mk.injEq] at h
 obtain ⟨e1,e2⟩:=h
 exact fun a w F H=>x_lenS e1 (evL_ok F e2) ht
theorem ls (ht : P.underlying T = some .string) (h : (o.op,evL L x,wantL ops L o,o.dst,Nat.blt d n) = (.call { callee:=.builtin .len,args:=#[x],argTypes:=#[T] },some (.string r),some true,some d,true)) (k : GO P Q n f s ops rest rs ((d,.int .i64 (r.size : Nat))::L)) : GO P Q n f s ops (o::rest) rs L:=by
 simp only [Prod.mk.injEq] at h
 obtain ⟨e1,e2,hww⟩:=h
 exact gv (fun a w F H=>x_lenS e1 (evL_ok F e2) ht) (by simp only [hww]) k
theorem faV {fs : List Field} {fl : Field} {q off : Nat} (m : Nat) (ht : P.underlying T = some (.struct fs.toArray)) (h : (o.op,evL L x,nth fs i,off+fl.offset) = (.fieldAddr T x i,some (.pointer (some ⟨p,off,none⟩)),some fl,m)) (hs : ∀ w,(sizeOf fl.type).run P w = .ok (q+1) w) : VS P n f rs L o (.pointer (some ⟨p,m,none⟩)):=by
 simp only [Prod.mk.injEq] at h
 obtain ⟨e1,e2,e3,e4⟩:=h
 exact fun a w F H=>x_fa e1 ht (by rw [List.getElem?_toArray,← nth_get];exact e3) hs (evL_ok F e2) (by rw [Addr.add_lit,e4])
theorem fa {fs : List Field} {fl : Field} {q off : Nat} (m : Nat) (ht : P.underlying T = some (.struct fs.toArray)) (h : (o.op,evL L x,nth fs i,off+fl.offset,wantL ops L o,o.dst,Nat.blt d n) = (.fieldAddr T x i,some (.pointer (some ⟨p,off,none⟩)),some fl,m,some true,some d,true)) (hs : ∀ w,(sizeOf fl.type).run P w = .ok (q+1) w) (k : GO P Q n f s ops rest rs ((d,.pointer (some ⟨p,m,none⟩))::L)) : GO P Q n f s ops (o::rest) rs L:=by
 simp only [Prod.mk.injEq] at h
 obtain ⟨e1,e2,e3,e4,hww⟩:=h
 exact gv (fun a w F H=>x_fa e1 ht (by rw [List.getElem?_toArray,← nth_get];exact e3) hs (evL_ok F e2) (by rw [Addr.add_lit,e4])) (by simp only [hww]) k
theorem feV {fs : List Field} {fl : Field} {q q0 : Nat} (m : Nat) (ht : P.underlying T = some (.struct fs.toArray)) (h : (o.op,evL L x,nth fs i,q0+fl.offset) = (.fieldAddr T x i,some (.pointer (some (elp v q0))),some fl,m)) (hs : ∀ w,(sizeOf fl.type).run P w = .ok (q+1) w) : VS P n f rs L o (.pointer (some (elp v m))):=by
 simp only [Prod.mk.injEq] at h
 obtain ⟨e1,e2,e3,e4⟩:=h
 exact fun a w F H=>x_fae e1 ht (by rw [List.getElem?_toArray,← nth_get];exact e3) hs (evL_ok F e2) e4
theorem fe {fs : List Field} {fl : Field} {q q0 : Nat} (m : Nat) (ht : P.underlying T = some (.struct fs.toArray)) (h : (o.op,evL L x,nth fs i,q0+fl.offset,wantL ops L o,o.dst,Nat.blt d n) = (.fieldAddr T x i,some (.pointer (some (elp v q0))),some fl,m,some true,some d,true)) (hs : ∀ w,(sizeOf fl.type).run P w = .ok (q+1) w) (k : GO P Q n f s ops rest rs ((d,.pointer (some (elp v m)))::L)) : GO P Q n f s ops (o::rest) rs L:=by
 simp only [Prod.mk.injEq] at h
 obtain ⟨e1,e2,e3,e4,hww⟩:=h
 exact gv (fun a w F H=>x_fae e1 ht (by rw [List.getElem?_toArray,← nth_get];exact e3) hs (evL_ok F e2) e4) (by simp only [hww]) k
theorem ldV (i : Nat) (hA : ∀ w,(isAgg T).run P w = .ok false w) (h : (o.op,evL L x,nth rs i,nth cells j) = (.load T x,some (.pointer (some ⟨p,j,none⟩)),some (Pt p T' cells),some v)) : VS P n f rs L o (v):=by
 simp only [Prod.mk.injEq] at h
 obtain ⟨e1,e2,e3,e4⟩:=h
 exact fun a w F H=>x_ld e1 hA (evL_ok F e2) (H.ptCell (by rw [← nth_get];exact e3) (by rw [← nth_get];exact e4))
theorem ld (i : Nat) (hA : ∀ w,(isAgg T).run P w = .ok false w) (h : (o.op,evL L x,nth rs i,nth cells j,wantL ops L o,o.dst,Nat.blt d n) = (.load T x,some (.pointer (some ⟨p,j,none⟩)),some (Pt p T' cells),some v,some true,some d,true)) (k : GO P Q n f s ops rest rs ((d,v)::L)) : GO P Q n f s ops (o::rest) rs L:=by
 simp only [Prod.mk.injEq] at h
 obtain ⟨e1,e2,e3,e4,hww⟩:=h
 exact gv (fun a w F H=>x_ld e1 hA (evL_ok F e2) (H.ptCell (by rw [← nth_get];exact e3) (by rw [← nth_get];exact e4))) (by simp only [hww]) k
theorem laV (cs : List Value) (i : Nat) (hA : ∀ w,(isAgg T).run P w = .ok true w) (h : (o.op,evL L x,nth rs i,(cells.drop j).take cs.length) = (.load T x,some (.pointer (some ⟨p,j,none⟩)),some (Pt p T' cells),cs)) (hs : ∀ w,(sizeOf T).run P w = .ok cs.length w) : VS P n f rs L o (.agg cs.toArray):=by
 simp only [Prod.mk.injEq] at h
 obtain ⟨e1,e2,e3,e4⟩:=h
 exact fun a w F H=>x_ldA e1 hA hs (evL_ok F e2) (H.ptCells (by rw [← nth_get];exact e3) j e4)
theorem la (cs : List Value) (i : Nat) (hA : ∀ w,(isAgg T).run P w = .ok true w) (h : (o.op,evL L x,nth rs i,(cells.drop j).take cs.length,wantL ops L o,o.dst,Nat.blt d n) = (.load T x,some (.pointer (some ⟨p,j,none⟩)),some (Pt p T' cells),cs,some true,some d,true)) (hs : ∀ w,(sizeOf T).run P w = .ok cs.length w) (k : GO P Q n f s ops rest rs ((d,.agg cs.toArray)::L)) : GO P Q n f s ops (o::rest) rs L:=by
 simp only [Prod.mk.injEq] at h
 obtain ⟨e1,e2,e3,e4,hww⟩:=h
 exact gv (fun a w F H=>x_ldA e1 hA hs (evL_ok F e2) (H.ptCells (by rw [← nth_get];exact e3) j e4)) (by simp only [hww]) k
theorem elV (j : Nat) (x0 : α) (hR : ∀ {w},Holds w f rs→Rd t (hp w) v xs) (hA : ∀ w,(isAgg T).run P w = .ok false w) (h : (o.op,evL L x,i * t.sz+j,nth (t.enc (xs.getD i x0)) j) = (.load T x,some (.pointer (some (elp v m))),m,some u)) (hi : i < xs.length) : VS P n f rs L o (u):=by
 simp only [Prod.mk.injEq] at h
 obtain ⟨e1,e2,e3,e4⟩:=h
 exact fun a w F H=>x_ld e1 hA (by rw [e3];exact (evL_ok F e2)) ((hR H).cw (getD_get x0 hi) (by rw [← nth_get];exact e4))
theorem el (j : Nat) (x0 : α) (hR : ∀ {w},Holds w f rs→Rd t (hp w) v xs) (hA : ∀ w,(isAgg T).run P w = .ok false w) (h : (o.op,evL L x,i * t.sz+j,nth (t.enc (xs.getD i x0)) j,wantL ops L o,o.dst,Nat.blt d n) = (.load T x,some (.pointer (some (elp v m))),m,some u,some true,some d,true)) (hi : i < xs.length) (k : GO P Q n f s ops rest rs ((d,u)::L)) : GO P Q n f s ops (o::rest) rs L:=by
 simp only [Prod.mk.injEq] at h
 obtain ⟨e1,e2,e3,e4,hww⟩:=h
 exact gv (fun a w F H=>x_ld e1 hA (by rw [e3];exact (evL_ok F e2)) ((hR H).cw (getD_get x0 hi) (by rw [← nth_get];exact e4))) (by simp only [hww]) k
theorem ixV (hR : ∀ {w},Holds w f rs→Rd t (hp w) v xs) (ht : P.underlying T = some (.slice e)) (hs : ∀ w,(sizeOf e).run P w = .ok t.sz w) (h : (o.op,evL L x,evL L y) = (.indexAddr T x y,some v,some (.int k (i : Nat)))) (hi : i < xs.length) : VS P n f rs L o (.pointer (some (elp v (i * t.sz)))):=by
 simp only [Prod.mk.injEq] at h
 obtain ⟨e1,e2,e3⟩:=h
 exact fun a w F H=>x_ixa (hR H) e1 ht hs (evL_ok F e2) (evL_ok F e3) rfl hi
theorem ix (hR : ∀ {w},Holds w f rs→Rd t (hp w) v xs) (ht : P.underlying T = some (.slice e)) (hs : ∀ w,(sizeOf e).run P w = .ok t.sz w) (h : (o.op,evL L x,evL L y,wantL ops L o,o.dst,Nat.blt d n) = (.indexAddr T x y,some v,some (.int k (i : Nat)),some true,some d,true)) (hi : i < xs.length) (k : GO P Q n f s ops rest rs ((d,.pointer (some (elp v (i * t.sz))))::L)) : GO P Q n f s ops (o::rest) rs L:=by
 simp only [Prod.mk.injEq] at h
 obtain ⟨e1,e2,e3,hww⟩:=h
 exact gv (fun a w F H=>x_ixa (hR H) e1 ht hs (evL_ok F e2) (evL_ok F e3) rfl hi) (by simp only [hww]) k
theorem iyV (i : Nat) (hR : ∀ {w},Holds w f rs→Rd t (hp w) v xs) (ht : P.underlying T = some (.slice e)) (hs : ∀ w,(sizeOf e).run P w = .ok t.sz w) (h : (o.op,evL L x,evL L y) = (.indexAddr T x y,some v,some (.int k X))) (hX : X = (i : Nat)) (hi : i < xs.length) : VS P n f rs L o (.pointer (some (elp v (i * t.sz)))):=by
 simp only [Prod.mk.injEq] at h
 obtain ⟨e1,e2,e3⟩:=h
 exact fun a w F H=>x_ixa (hR H) e1 ht hs (evL_ok F e2) (evL_ok F e3) hX hi
theorem iy (i : Nat) (hR : ∀ {w},Holds w f rs→Rd t (hp w) v xs) (ht : P.underlying T = some (.slice e)) (hs : ∀ w,(sizeOf e).run P w = .ok t.sz w) (h : (o.op,evL L x,evL L y,wantL ops L o,o.dst,Nat.blt d n) = (.indexAddr T x y,some v,some (.int k X),some true,some d,true)) (hX : X = (i : Nat)) (hi : i < xs.length) (k : GO P Q n f s ops rest rs ((d,.pointer (some (elp v (i * t.sz))))::L)) : GO P Q n f s ops (o::rest) rs L:=by
 simp only [Prod.mk.injEq] at h
 obtain ⟨e1,e2,e3,hww⟩:=h
 exact gv (fun a w F H=>x_ixa (hR H) e1 ht hs (evL_ok F e2) (evL_ok F e3) hX hi) (by simp only [hww]) k
theorem bsTV {U : TypeId} {xs : List Int} (hR : ∀ {w},Holds w f rs→Rd (tI .u8) (hp w) v xs) (ht : P.underlying T = some (.slice e)) (he : P.underlying e = some (.int .u8)) (hu : P.underlying U = some .string) (h : (o.op,evL L x) = (.convert T U x,some v)) : VS P n f rs L o (.string (bs xs)):=by
 simp only [Prod.mk.injEq] at h
 obtain ⟨e1,e2⟩:=h
 exact fun a w F H=>x_bs (hR H) e1 ht he hu (evL_ok F e2)
theorem bsT {U : TypeId} {xs : List Int} (hR : ∀ {w},Holds w f rs→Rd (tI .u8) (hp w) v xs) (ht : P.underlying T = some (.slice e)) (he : P.underlying e = some (.int .u8)) (hu : P.underlying U = some .string) (h : (o.op,evL L x,wantL ops L o,o.dst,Nat.blt d n) = (.convert T U x,some v,some true,some d,true)) (k : GO P Q n f s ops rest rs ((d,.string (bs xs))::L)) : GO P Q n f s ops (o::rest) rs L:=by
 simp only [Prod.mk.injEq] at h
 obtain ⟨e1,e2,hww⟩:=h
 exact gv (fun a w F H=>x_bs (hR H) e1 ht he hu (evL_ok F e2)) (by simp only [hww]) k
theorem st (hz : ∀ w,(sizeOf T).run P w = .ok 1 w) (hr : Si rs i (Pt p T' cells) (Pt p T' cells') rs') (hc : Si cells j u v cells') (h : (o.op,evL L x,evL L y,wantL ops L o,o.dst) = (.store T x y,some (.pointer (some ⟨p,j,none⟩)),some v,some true,none)) (h1 : v.oneCell' = true) (k : GO P Q n f s ops rest rs' L) : GO P Q n f s ops (o::rest) rs L:=by
 simp only [Prod.mk.injEq] at h
 obtain ⟨e1,e2,e3,hww⟩:=h
 refine gd0 (v:=undef) (rs':=rs') (fun a w F H=>?_) (by simp only [hww]) k
 obtain ⟨c1,c2⟩:=hc.at;obtain ⟨r1,r2⟩:=hr.at;subst c2;subst r2
 exact d_stPt1 H r1 e1 hz (evL_ok F e2) (evL_ok F e3) h1 (List.getElem?_eq_some_iff.1 c1).1
theorem staD (cells' : List Value) (hz : ∀ w,(sizeOf T).run P w = .ok v.cells.size w) (hr : Si rs i (Pt p T' cells) (Pt p T' cells') rs') (h : (o.op,evL L x,evL L y) = (.store T x y,some (.pointer (some ⟨p,j,none⟩)),some v)) (h1 : ∀ u ∈ v.cells.toList,u.oneCell' = true) (hj : Nat.ble (j+v.cells.size) cells.length = true) (hc : cells.take j++v.cells.toList++cells.drop (j+v.cells.size) = cells') : DS P n f rs L o undef rs':=by
 simp only [Prod.mk.injEq] at h
 obtain ⟨e1,e2,e3⟩:=h
 intro a w F H
 obtain ⟨r1,r2⟩:=hr.at;subst r2
 exact d_stPt H r1 e1 hz (evL_ok F e2) (evL_ok F e3) h1 (Nat.le_of_ble_eq_true hj) hc
theorem sta (cells' : List Value) (hz : ∀ w,(sizeOf T).run P w = .ok v.cells.size w) (hr : Si rs i (Pt p T' cells) (Pt p T' cells') rs') (h : (o.op,evL L x,evL L y,wantL ops L o,o.dst) = (.store T x y,some (.pointer (some ⟨p,j,none⟩)),some v,some true,none)) (h1 : ∀ u ∈ v.cells.toList,u.oneCell' = true) (hj : Nat.ble (j+v.cells.size) cells.length = true) (hc : cells.take j++v.cells.toList++cells.drop (j+v.cells.size) = cells') (k : GO P Q n f s ops rest rs' L) : GO P Q n f s ops (o::rest) rs L:=by
 simp only [Prod.mk.injEq] at h
 obtain ⟨e1,e2,e3,hww⟩:=h
 refine gd0 (v:=undef) (rs':=rs') (fun a w F H=>?_) (by simp only [hww]) k
 obtain ⟨r1,r2⟩:=hr.at;subst r2
 exact d_stPt H r1 e1 hz (evL_ok F e2) (evL_ok F e3) h1 (Nat.le_of_ble_eq_true hj) hc
theorem seD (x0 : α) (hz : ∀ w,(sizeOf T).run P w = .ok 1 w) {x' : α} {q : Nat} (hr : Si rs i (Own t e u xs) (Own t e u (xs.set q x')) rs') (h : (o.op,evL L x,evL L y) = (.store T x y,some (.pointer (some (elp u m))),some v)) (j : Nat) (hm : q * t.sz+j = m) (h1 : v.oneCell' = true) (hq : q < xs.length) (hj : Nat.ble (j+1) t.sz = true) (hx' : t.enc x' = (t.enc (xs.getD q x0)).set j v) : DS P n f rs L o undef rs':=by
 simp only [Prod.mk.injEq] at h
 obtain ⟨e1,e2,e3⟩:=h
 intro a w F H
 obtain ⟨r1,r2⟩:=hr.at;subst r2;subst hm
 have hc : v.cells = #[v]:=by cases v <;> first | rfl | cases h1
 have hj':=Nat.le_of_ble_eq_true hj
 exact d_stEl (q:=q) (j:=j) (x0:=xs.getD q x0) H r1 e1 (by rw [hc];exact hz) (evL_ok F e2) (evL_ok F e3) (by rw [hc];simpa using h1) (getD_get x0 hq) (by rw [hc];exact hj') (by rw [hc,hx'];exact (take_set_drop _ j v (by rw [t.len];omega)).symm)
theorem se (x0 : α) (hz : ∀ w,(sizeOf T).run P w = .ok 1 w) {x' : α} {q : Nat} (hr : Si rs i (Own t e u xs) (Own t e u (xs.set q x')) rs') (h : (o.op,evL L x,evL L y,wantL ops L o,o.dst) = (.store T x y,some (.pointer (some (elp u m))),some v,some true,none)) (j : Nat) (hm : q * t.sz+j = m) (h1 : v.oneCell' = true) (hq : q < xs.length) (hj : Nat.ble (j+1) t.sz = true) (hx' : t.enc x' = (t.enc (xs.getD q x0)).set j v) (k : GO P Q n f s ops rest rs' L) : GO P Q n f s ops (o::rest) rs L:=by
 simp only [Prod.mk.injEq] at h
 obtain ⟨e1,e2,e3,hww⟩:=h
 refine gd0 (v:=undef) (rs':=rs') (fun a w F H=>?_) (by simp only [hww]) k
 obtain ⟨r1,r2⟩:=hr.at;subst r2;subst hm
 have hc : v.cells = #[v]:=by cases v <;> first | rfl | cases h1
 have hj':=Nat.le_of_ble_eq_true hj
 exact d_stEl (q:=q) (j:=j) (x0:=xs.getD q x0) H r1 e1 (by rw [hc];exact hz) (evL_ok F e2) (evL_ok F e3) (by rw [hc];simpa using h1) (getD_get x0 hq) (by rw [hc];exact hj') (by rw [hc,hx'];exact (take_set_drop _ j v (by rw [t.len];omega)).symm)
theorem sb (kt : b = true→GO P Q n f s ops rest rs ((d,.bool true)::L)) (kf : b = false→GO P Q n f s ops rest rs ((d,.bool false)::L)) : GO P Q n f s ops rest rs ((d,.bool b)::L):=by
 cases b with
 | true=>exact kt rfl
 | false=>exact kf rfl
theorem dsB (h : b = c) (hv : DS P n f rs L o (.bool b) rs') : DS P n f rs L o (.bool c) rs':=by rw [← h];exact hv
theorem aL {z0 : Value} (hz : ∀ w,(zeroValue T).run P w = .ok z0 w) (h : (o.op,wantL ops L o,o.dst,Nat.blt d n) = (.alloc T,some true,some d,true)) (k : ∀ p,GO P Q n f s ops rest (Pt p T z0.cells.toList::rs) ((d,.pointer (some ⟨p,0,none⟩))::L)) : GO P Q n f s ops (o::rest) rs L:=by
 simp only [Prod.mk.injEq] at h
 obtain ⟨e1,hw⟩:=h
 exact gx (fun a w F H=>d_alloc H e1 hz) (by simp only [hw]) k
theorem bx (h : (o.op,evL L x,wantL ops L o,o.dst,Nat.blt d n) = (.box T x,some v,some true,some d,true)) (k : ∀ p,GO P Q n f s ops rest (Pt p T v.cells.toList::rs) ((d,.pointer (some ⟨p,0,none⟩))::L)) : GO P Q n f s ops (o::rest) rs L:=by
 simp only [Prod.mk.injEq] at h
 obtain ⟨e1,e2,hw⟩:=h
 exact gx (fun a w F H=>d_box H e1 (evL_ok F e2)) (by simp only [hw]) k
theorem aLX {z0 : Value} (hz : ∀ w,(zeroValue T).run P w = .ok z0 w) (h : o.op = .alloc T) : DX P n f rs L o (fun p=>.pointer (some ⟨p,0,none⟩)) (fun p=>Pt p T z0.cells.toList::rs):=fun a w F H=>d_alloc H h hz
theorem apX (zb : Nat) {zv : Value} {inf : TypeInfo} {R : Value → List Res} (hr : ∀ v', Si rs i (Own t e v xs) (Own t e v' (xs ++ ys)) (R v')) (hR : ∀ {w}, Holds w f rs → Rd t (hp w) u ys) (ht : P.underlying T = some (.slice e)) (hi : P.info? e = some inf)
    (h : (o.op, evL L x, evL L y, inf.zero, inf.size, inf.bytes, zv.cells.size, Nat.blt 0 zb) = (.call { callee := .builtin .append, args := #[x, y], argTypes := #[T, T] }, some v, some u, some zv, t.sz, zb, t.sz, true)) (hl : (xs.length + ys.length) * zb ≤ 140737488355328) : DX P n f rs L o (fun v => v) R := by
  simp only [Prod.mk.injEq] at h
  obtain ⟨e1, e2, e3, e4, e5, e6, e7, e8⟩ := h
  exact fun a w F H => (d_app (ys := ys) H (hr v).at.1 (hR H) e1 (evL_ok F e2) (evL_ok F e3) ht hi e4 e5 e6 e7 hl (Nat.le_of_ble_eq_true e8)).mono fun v' w' H' => ⟨v', rfl, by rw [(hr v').at.2]; exact H'⟩
theorem apsX {R : Value → List Res} {U : TypeId} {xs : List Int} {inf : TypeInfo} (hr : ∀ v', Si rs i (Own (tI .u8) e v xs) (Own (tI .u8) e v' (xs ++ ss r)) (R v')) (ht : P.underlying T = some (.slice e)) (hu : P.underlying U = some .string) (he : P.underlying e = some (.int .u8)) (hi : P.info? e = some inf)
    (h : (o.op, evL L x, evL L y, inf.zero, inf.size, inf.bytes) = (.call { callee := .builtin .append, args := #[x, y], argTypes := #[T, U] }, some v, some (.string r), some (.int .u8 0), 1, 1)) (hl : xs.length + r.size ≤ 140737488355328) : DX P n f rs L o (fun v => v) R := by
  simp only [Prod.mk.injEq] at h
  obtain ⟨e1, e2, e3, e4, e5, e6⟩ := h
  exact fun a w F H => (d_appS (s := r) H (hr v).at.1 e1 (evL_ok F e2) (evL_ok F e3) ht hu he hi e4 e5 e6 hl).mono fun v' w' H' => ⟨v', rfl, by rw [(hr v').at.2]; exact H'⟩
theorem ap (zb : Nat) {zv : Value} {inf : TypeInfo} {R : Value → List Res} (hr : ∀ v', Si rs i (Own t e v xs) (Own t e v' (xs ++ ys)) (R v')) (hR : ∀ {w}, Holds w f rs → Rd t (hp w) u ys) (ht : P.underlying T = some (.slice e)) (hi : P.info? e = some inf)
    (h : (o.op, evL L x, evL L y, inf.zero, inf.size, inf.bytes, zv.cells.size, Nat.blt 0 zb, wantL ops L o, o.dst, Nat.blt d n) = (.call { callee := .builtin .append, args := #[x, y], argTypes := #[T, T] }, some v, some u, some zv, t.sz, zb, t.sz, true, some true, some d, true)) (hl : (xs.length + ys.length) * zb ≤ 140737488355328)
    (k : ∀ v', GO P Q n f s ops rest (R v') ((d, v') :: L)) : GO P Q n f s ops (o :: rest) rs L := by
  simp only [Prod.mk.injEq] at h
  obtain ⟨e1, e2, e3, e4, e5, e6, e7, e8, hw⟩ := h
  refine gx (V := fun v => v) (R := R) (fun a w F H => (d_app (ys := ys) H (hr v).at.1 (hR H) e1 (evL_ok F e2) (evL_ok F e3) ht hi e4 e5 e6 e7 hl (Nat.le_of_ble_eq_true e8)).mono fun v' w' H' => ⟨v', rfl, ?_⟩) (by simp only [hw]) k
  rw [(hr v').at.2]; exact H'
theorem no (t : Fl α) (e : TypeId) {l : List Oper} (k : GO P Q n f s ops l (Own t e (.slice none 0 0) []::rs) L) : GO P Q n f s ops l rs L:=fun a w F H=>k a w F (H.nilOwn t e)
def Bk (f f1 : Fm) (rem : List Res) : Prop:=∀ (w' : World) (rout : List Res),Holds w' f1 rout→Holds w' f (rout++rem)
theorem Bk.b0 {f1 : Fm} {w : World} (b : Bk f f1 rs) (H : Holds w f1 []) : Holds w f rs:=b _ _ H
theorem Bk.b1 {f1 : Fm} {w : World} {r1 : Res} (b : Bk f f1 rs) (H : Holds w f1 [r1]) : Holds w f (r1::rs):=b _ _ H
theorem Bk.b2 {f1 : Fm} {w : World} {r1 r2 : Res} (b : Bk f f1 rs) (H : Holds w f1 [r1,r2]) : Holds w f (r1::r2::rs):=b _ _ H
theorem Bk.b3 {f1 : Fm} {w : World} {r1 r2 r3 : Res} (b : Bk f f1 rs) (H : Holds w f1 [r1,r2,r3]) : Holds w f (r1::r2::r3::rs):=b _ _ H
theorem Bk.b4 {f1 : Fm} {w : World} {r1 r2 r3 r4 : Res} (b : Bk f f1 rs) (H : Holds w f1 [r1,r2,r3,r4]) : Holds w f (r1::r2::r3::r4::rs):=b _ _ H
theorem Bk.b5 {f1 : Fm} {w : World} {r1 r2 r3 r4 r5 : Res} (b : Bk f f1 rs) (H : Holds w f1 [r1,r2,r3,r4,r5]) : Holds w f (r1::r2::r3::r4::r5::rs):=b _ _ H
theorem Bk.b6 {f1 : Fm} {w : World} {r1 r2 r3 r4 r5 r6 : Res} (b : Bk f f1 rs) (H : Holds w f1 [r1,r2,r3,r4,r5,r6]) : Holds w f (r1::r2::r3::r4::r5::r6::rs):=b _ _ H
def Kp (f1 : Fm) (rem : List Res) : Prop:=∀ r ∈ rem,r.ok f1.hp
section
variable {f1 : Fm} {w : World} {r0 : Res} {e : TypeId} {xs : List α} {v : Value}
theorem Kp.ow (h : Kp f1 (Own t e v xs::rs)) : Rd t f1.hp v xs:=Own.rd (h _ List.mem_cons_self)
theorem Kp.nx (h : Kp f1 (r0::rs)) : Kp f1 rs:=fun r hr=>h r (List.mem_cons_of_mem _ hr)
end
theorem ca {xs : List Operand} {vs : List Value} {ts : Array TypeId} {g : FuncId} {post : Fm → Value → World → Prop} {rin rem : List Res} (hC : ∀ args w, (callFunc g args).run P w = .ok (.enter g args) w) (hsp : Sp rs rin rem)
    (h : (o.op, evs L xs, wantL ops L o, o.dst, Nat.blt d n) = (.call { callee := .value (.func g), args := xs.toArray, argTypes := ts }, some vs, some true, some d, true))
    (hc : ∀ (f1 : Fm) (w : World), Holds w f1 rin → f.le f1 → Kp f1 rem → Calls P g vs.toArray w (Rt (post f1)))
    (k : ∀ (f1 : Fm), Bk f f1 rem → ∀ (v : Value) (w : World) (a : Act), post f1 v w → Fr a n ((d, v) :: L) → wpList P ops (QS P Q s) rest a w) : GO P Q n f s ops (o :: rest) rs L := by
  simp only [Prod.mk.injEq] at h
  obtain ⟨e1, e2, hw⟩ := h
  refine ga (K := fun v w' => ∃ f1, Bk f f1 rem ∧ post f1 v w') (fun a w F H => ?_) (by simp only [hw]) (fun v w a ⟨f1, hb, hp⟩ F => k f1 hb v w a hp F)
  obtain ⟨f1, le, Hc, ho, hb⟩ := Holds.split rin rem (H.perm hsp.perm)
  exact d_call (args := vs.toArray) e1 rfl (by rw [List.map_toArray, evs_ok F e2]) hC ((hc f1 w Hc le ho).mono fun e w' ⟨v, he, hv⟩ => ⟨v, he, f1, hb, hv⟩)
theorem cP {xs : List Operand} {vs : List Value} {ts : Array TypeId} {g : FuncId} (hC : ∀ args w, (callFunc g args).run P w = .ok (.enter g args) w)
    (h : (o.op, evs L xs, wantL ops L o, o.dst, Nat.blt d n) = (.call { callee := .value (.func g), args := xs.toArray, argTypes := ts }, some vs, some true, some d, true))
    (hc : ∀ (f1 : Fm) (w : World), Holds w f1 [] → f.le f1 → Kp f1 rs → Calls P g vs.toArray w (Rt fun r w' => r = v ∧ Holds w' f1 []))
    (k : GO P Q n f s ops rest rs ((d, v) :: L)) : GO P Q n f s ops (o :: rest) rs L := ca hC .A h hc fun f1 hb u w a ⟨e, H⟩ F => by subst e; exact k a w F (hb.b0 H)
theorem cPD {xs : List Operand} {vs : List Value} {ts : Array TypeId} {g : FuncId} (hC : ∀ args w, (callFunc g args).run P w = .ok (.enter g args) w)
    (h : (o.op, evs L xs) = (.call { callee := .value (.func g), args := xs.toArray, argTypes := ts }, some vs))
    (hc : ∀ (f1 : Fm) (w : World), Holds w f1 [] → f.le f1 → Kp f1 rs → Calls P g vs.toArray w (Rt fun r w' => r = v ∧ Holds w' f1 [])) : DS P n f rs L o v rs := by
  simp only [Prod.mk.injEq] at h
  intro a w F H
  obtain ⟨f1, le, Hc, ho, hb⟩ := Holds.split [] rs H
  exact d_call (args := vs.toArray) h.1 rfl (by rw [List.map_toArray, evs_ok F h.2]) hC ((hc f1 w Hc le ho).mono fun e w' ⟨v, he, hv, hh⟩ => ⟨v, he, hv, hb _ _ hh⟩)
theorem caX {xs : List Operand} {vs : List Value} {ts : Array TypeId} {g : FuncId} {α : Type} {V : α → Value} {R : α → List Res} {R2 : α → List Res} {rin rem : List Res} (hC : ∀ args w, (callFunc g args).run P w = .ok (.enter g args) w) (hsp : Sp rs rin rem)
    (h : (o.op, evs L xs) = (.call { callee := .value (.func g), args := xs.toArray, argTypes := ts }, some vs)) (hR : ∀ x, R x ++ rem = R2 x)
    (hc : ∀ (f1 : Fm) (w : World), Holds w f1 rin → f.le f1 → Kp f1 rem → Calls P g vs.toArray w (Rt fun r w' => ∃ x, r = V x ∧ Holds w' f1 (R x))) : DX P n f rs L o V R2 := by
  simp only [Prod.mk.injEq] at h
  intro a w F H
  obtain ⟨f1, le, Hc, ho, hb⟩ := Holds.split rin rem (H.perm hsp.perm)
  exact d_call (args := vs.toArray) h.1 rfl (by rw [List.map_toArray, evs_ok F h.2]) hC ((hc f1 w Hc le ho).mono fun e w' ⟨v, he, x, hv, hh⟩ => ⟨v, he, x, hv, by rw [← hR]; exact hb _ _ hh⟩)
theorem caV {xs : List Operand} {c : Operand} {vs caps all : List Value} {ts : Array TypeId} {g : FuncId} {post : Fm → Value → World → Prop} {rin rem : List Res} (hall : vs ++ caps = all) (hC : ∀ args w, (callFunc g args).run P w = .ok (.enter g args) w) (hsp : Sp rs rin rem)
    (h : (o.op, evs L xs, evL L c, wantL ops L o, o.dst, Nat.blt d n) = (.call { callee := .value c, args := xs.toArray, argTypes := ts }, some vs, some (.func (.func g) #[] caps.toArray), some true, some d, true))
    (hc : ∀ (f1 : Fm) (w : World), Holds w f1 rin → f.le f1 → Kp f1 rem → Calls P g all.toArray w (Rt (post f1)))
    (k : ∀ (f1 : Fm), Bk f f1 rem → ∀ (v : Value) (w : World) (a : Act), post f1 v w → Fr a n ((d, v) :: L) → wpList P ops (QS P Q s) rest a w) : GO P Q n f s ops (o :: rest) rs L := by
  simp only [Prod.mk.injEq] at h
  obtain ⟨e1, e2, e3, hw⟩ := h
  refine ga (K := fun v w' => ∃ f1, Bk f f1 rem ∧ post f1 v w') (fun a w F H => ?_) (by simp only [hw]) (fun v w a ⟨f1, hb, hp⟩ F => k f1 hb v w a hp F)
  obtain ⟨f1, le, Hc, ho, hb⟩ := Holds.split rin rem (H.perm hsp.perm)
  exact d_callc (args := vs.toArray) (all := all.toArray) e1 (evL_ok F e3) (by rw [List.map_toArray, evs_ok F e2]) (by rw [List.append_toArray, hall]) hC ((hc f1 w Hc le ho).mono fun e w' ⟨v, he, hv⟩ => ⟨v, he, f1, hb, hv⟩)
theorem cPV {xs : List Operand} {c : Operand} {vs caps all : List Value} {ts : Array TypeId} {g : FuncId} (hall : vs ++ caps = all) (hC : ∀ args w, (callFunc g args).run P w = .ok (.enter g args) w)
    (h : (o.op, evs L xs, evL L c, wantL ops L o, o.dst, Nat.blt d n) = (.call { callee := .value c, args := xs.toArray, argTypes := ts }, some vs, some (.func (.func g) #[] caps.toArray), some true, some d, true))
    (hc : ∀ (f1 : Fm) (w : World), Holds w f1 [] → f.le f1 → Kp f1 rs → Calls P g all.toArray w (Rt fun r w' => r = v ∧ Holds w' f1 []))
    (k : GO P Q n f s ops rest rs ((d, v) :: L)) : GO P Q n f s ops (o :: rest) rs L := caV hall hC .A h hc fun f1 hb u w a ⟨e, H⟩ F => by subst e; exact k a w F (hb.b0 H)
def isE : Exit→Bool
 | .ret=>true
 | .normal=>true
 | _=>false
theorem isE_ok {x : Exit} (h : isE x = true) : x = .ret ∨ x = .normal:=by cases x <;> first | exact .inl rfl | exact .inr rfl | cases h
variable {fn : Func} {K : Value→World→Prop} {hd : Hd} {x0 : Exit} {t1 t2 t3 t4 : Nat} {v1 v2 v3 v4 : Value}
theorem rt0 (hf : fn.results = #[]) (h : (run 200 hd,isE x0) = (.ex x0 [],true)) (k : ∀ w,Holds w f rs→K (.tuple #[]) w) : GH P (bodyPost P fn (Rt K)) n f hd rs L:=by
 simp only [Prod.mk.injEq] at h
 exact rt h.1 (isE_ok h.2) (fun a w F H=>res0 hf) k
theorem rt1 (hf : fn.results = #[.tmp t1]) (h : (run 200 hd,isE x0,look t1 L) = (.ex x0 [],true,some v1)) (k : ∀ w,Holds w f rs→K v1 w) : GH P (bodyPost P fn (Rt K)) n f hd rs L:=by
 simp only [Prod.mk.injEq] at h
 exact rt h.1 (isE_ok h.2.1) (fun a w F H=>res1 hf (F.get h.2.2)) k
theorem rt2 (hf : fn.results = #[.tmp t1,.tmp t2]) (h : (run 200 hd,isE x0,look t1 L,look t2 L) = (.ex x0 [],true,some v1,some v2)) (k : ∀ w,Holds w f rs→K (.tuple #[v1,v2]) w) : GH P (bodyPost P fn (Rt K)) n f hd rs L:=by
 simp only [Prod.mk.injEq] at h
 exact rt h.1 (isE_ok h.2.1) (fun a w F H=>res2 hf (F.get h.2.2.1) (F.get h.2.2.2)) k
theorem rt3 (hf : fn.results = #[.tmp t1,.tmp t2,.tmp t3]) (h : (run 200 hd,isE x0,look t1 L,look t2 L,look t3 L) = (.ex x0 [],true,some v1,some v2,some v3)) (k : ∀ w,Holds w f rs→K (.tuple #[v1,v2,v3]) w) : GH P (bodyPost P fn (Rt K)) n f hd rs L:=by
 simp only [Prod.mk.injEq] at h
 exact rt h.1 (isE_ok h.2.1) (fun a w F H=>res3 hf (F.get h.2.2.1) (F.get h.2.2.2.1) (F.get h.2.2.2.2)) k
def Jl (n : Nat) (f : Fm) (I : List Res→List (Nat × Value)→Nat→Prop) (m : Nat) : Act→World→Prop:=fun a w=>∃ rs L m',m' < m∧I rs L m'∧Fr a n L∧Holds w f rs
theorem lo {c : Code} {rs0 : List Res} {L0 : List (Nat × Value)} {m0 : Nat} (I : List Res → List (Nat × Value) → Nat → Prop) (hr : run 200 hd = .co (.loop c) s) (h0 : I rs0 L0 m0) (hL : Al L L0) (hR : ∀ w, Holds w f rs → Holds w f rs0)
    (k : ∀ rs L m, I rs L m → GH P Q n f (.co c (.iv (Jl n f I m) :: s)) rs L) : GH P Q n f hd rs L := fun a w F H => run_ok 200 hd (by
  rw [hr]
  refine c_loop (fun j a w => ∃ rs L, I rs L j ∧ Fr a n L ∧ Holds w f rs) m0 ⟨rs0, L0, h0, hL.re F, hR w H⟩ ?_
  rintro j a w ⟨rs, L, hI, F, H⟩
  refine Code.wp_mono (fun e a w hq => ?_) (k rs L j hI a w F H)
  cases e <;> first | exact hq | (obtain ⟨rs', L', m', h1, h2, h3, h4⟩ := hq; exact ⟨m', h1, rs', L', h2, h3, h4⟩))
theorem lr {rs0 : List Res} {L0 : List (Nat × Value)} {I : List Res→List (Nat × Value)→Nat→Prop} {m m0 : Nat} (hr : run 200 hd = .ex .normal (.iv (Jl n f I m)::s)) (h0 : I rs0 L0 m0) (hm : m0 < m) (hL : Al L L0) (hR : ∀ w,Holds w f rs→Holds w f rs0) : GH P Q n f hd rs L:=fun a w F H=>run_ok 200 hd (by
 rw [hr];exact ⟨rs0,L0,m0,hm,h0,hL.re F,hR w H⟩)
def Jo (n : Nat) (f : Fm) (I : List Res→List (Nat × Value)→Prop) : Act→World→Prop:=fun a w=>∃ rs L,I rs L∧Fr a n L∧Holds w f rs
theorem jo {c c' : Code} (j : Nat) (I : List Res→List (Nat × Value)→Prop) (hr : run j hd = .co (.seq c c') s) (k1 : GH P Q n f (.co c (.iv (Jo n f I)::s)) rs L) (k2 : ∀ rs L,I rs L→GH P Q n f (.co c' s) rs L) : GH P Q n f hd rs L:=fun a w F H=>run_ok j hd (by
 rw [hr]
 refine wp_seq (Code.wp_mono (fun e a w hq=>?_) (k1 a w F H))
 cases e <;> first | exact hq | (obtain ⟨rs,L,h1,h2,h3⟩:=hq;exact k2 rs L h1 a w h2 h3))
theorem jr {rs0 : List Res} {L0 : List (Nat × Value)} {I : List Res→List (Nat × Value)→Prop} (hr : run 200 hd = .ex .normal (.iv (Jo n f I)::s)) (h0 : I rs0 L0) (hL : Al L L0) (hR : ∀ w,Holds w f rs→Holds w f rs0) : GH P Q n f hd rs L:=fun a w F H=>run_ok 200 hd (by
 rw [hr];exact ⟨rs0,L0,h0,hL.re F,hR w H⟩)
end
end Sl
end
abbrev C129 := @Tryz.call129
abbrev C13 := @Tryz.call13
abbrev C14 := @Tryz.call14
abbrev C154 := @Tryz.call154
abbrev C229 := @Tryz.call229
abbrev C233 := @Tryz.call233
abbrev C234 := @Tryz.call234
abbrev C241 := @Tryz.call241
abbrev C242 := @Tryz.call242
abbrev C263 := @Tryz.call263
abbrev C28 := @Tryz.call28
abbrev C291 := @Tryz.call291
abbrev C65 := @Tryz.call65
abbrev C82 := @Tryz.call82
abbrev G127 := @Tryz.isAgg127
abbrev G148 := @Tryz.isAgg148
abbrev G2 := @Tryz.isAgg2
abbrev G200 := @Tryz.isAgg200
abbrev G22 := @Tryz.isAgg22
abbrev G228 := @Tryz.isAgg228
abbrev G257 := @Tryz.isAgg257
abbrev G26 := @Tryz.isAgg26
abbrev G3 := @Tryz.isAgg3
abbrev G328 := @Tryz.isAgg328
abbrev G331 := @Tryz.isAgg331
abbrev G35 := @Tryz.isAgg35
abbrev G36 := @Tryz.isAgg36
abbrev G38 := @Tryz.isAgg38
abbrev G418 := @Tryz.isAgg418
abbrev G421 := @Tryz.isAgg421
abbrev G44 := @Tryz.isAgg44
abbrev G49 := @Tryz.isAgg49
abbrev G5 := @Tryz.isAgg5
abbrev G53 := @Tryz.isAgg53
abbrev G76 := @Tryz.isAgg76
abbrev G80 := @Tryz.isAgg80
abbrev G9 := @Tryz.isAgg9
abbrev O3 := @Tryz.zeroValue3
abbrev O331 := @Tryz.zeroValue331
abbrev O38 := @Tryz.zeroValue38
abbrev O406 := @Tryz.zeroValue406
abbrev O409 := @Tryz.zeroValue409
abbrev O44 := @Tryz.zeroValue44
abbrev O49 := @Tryz.zeroValue49
abbrev R150 := @Tryz.results150
abbrev R221 := @Tryz.results221
abbrev R231 := @Tryz.results231
abbrev R232 := @Tryz.results232
abbrev R233 := @Tryz.results233
abbrev R279 := @Tryz.results279
abbrev R292 := @Tryz.results292
abbrev R294 := @Tryz.results294
abbrev R295 := @Tryz.results295
abbrev R323 := @Tryz.results323
abbrev R325 := @Tryz.results325
abbrev R40 := @Tryz.results40
abbrev R82 := @Tryz.results82
abbrev S127 := @Tryz.sizeOf127
abbrev S129 := @Tryz.sizeOf129
abbrev S132 := @Tryz.sizeOf132
abbrev S148 := @Tryz.sizeOf148
abbrev S2 := @Tryz.sizeOf2
abbrev S200 := @Tryz.sizeOf200
abbrev S201 := @Tryz.sizeOf201
abbrev S203 := @Tryz.sizeOf203
abbrev S218 := @Tryz.sizeOf218
abbrev S22 := @Tryz.sizeOf22
abbrev S228 := @Tryz.sizeOf228
abbrev S23 := @Tryz.sizeOf23
abbrev S257 := @Tryz.sizeOf257
abbrev S26 := @Tryz.sizeOf26
abbrev S3 := @Tryz.sizeOf3
abbrev S328 := @Tryz.sizeOf328
abbrev S331 := @Tryz.sizeOf331
abbrev S344 := @Tryz.sizeOf344
abbrev S35 := @Tryz.sizeOf35
abbrev S36 := @Tryz.sizeOf36
abbrev S38 := @Tryz.sizeOf38
abbrev S4 := @Tryz.sizeOf4
abbrev S406 := @Tryz.sizeOf406
abbrev S409 := @Tryz.sizeOf409
abbrev S414 := @Tryz.sizeOf414
abbrev S418 := @Tryz.sizeOf418
abbrev S421 := @Tryz.sizeOf421
abbrev S425 := @Tryz.sizeOf425
abbrev S44 := @Tryz.sizeOf44
abbrev S49 := @Tryz.sizeOf49
abbrev S5 := @Tryz.sizeOf5
abbrev S53 := @Tryz.sizeOf53
abbrev S54 := @Tryz.sizeOf54
abbrev S56 := @Tryz.sizeOf56
abbrev S76 := @Tryz.sizeOf76
abbrev S80 := @Tryz.sizeOf80
abbrev S9 := @Tryz.sizeOf9
abbrev U116 := @Tryz.underlying116
abbrev U123 := @Tryz.underlying123
abbrev U127 := @Tryz.underlying127
abbrev U129 := @Tryz.underlying129
abbrev U130 := @Tryz.underlying130
abbrev U132 := @Tryz.underlying132
abbrev U133 := @Tryz.underlying133
abbrev U136 := @Tryz.underlying136
abbrev U148 := @Tryz.underlying148
abbrev U199 := @Tryz.underlying199
abbrev U2 := @Tryz.underlying2
abbrev U200 := @Tryz.underlying200
abbrev U201 := @Tryz.underlying201
abbrev U203 := @Tryz.underlying203
abbrev U205 := @Tryz.underlying205
abbrev U22 := @Tryz.underlying22
abbrev U230 := @Tryz.underlying230
abbrev U232 := @Tryz.underlying232
abbrev U239 := @Tryz.underlying239
abbrev U246 := @Tryz.underlying246
abbrev U25 := @Tryz.underlying25
abbrev U26 := @Tryz.underlying26
abbrev U260 := @Tryz.underlying260
abbrev U261 := @Tryz.underlying261
abbrev U269 := @Tryz.underlying269
abbrev U3 := @Tryz.underlying3
abbrev U328 := @Tryz.underlying328
abbrev U331 := @Tryz.underlying331
abbrev U335 := @Tryz.underlying335
abbrev U337 := @Tryz.underlying337
abbrev U342 := @Tryz.underlying342
abbrev U344 := @Tryz.underlying344
abbrev U345 := @Tryz.underlying345
abbrev U348 := @Tryz.underlying348
abbrev U35 := @Tryz.underlying35
abbrev U359 := @Tryz.underlying359
abbrev U36 := @Tryz.underlying36
abbrev U367 := @Tryz.underlying367
abbrev U38 := @Tryz.underlying38
abbrev U395 := @Tryz.underlying395
abbrev U406 := @Tryz.underlying406
abbrev U409 := @Tryz.underlying409
abbrev U412 := @Tryz.underlying412
abbrev U414 := @Tryz.underlying414
abbrev U416 := @Tryz.underlying416
abbrev U420 := @Tryz.underlying420
abbrev U421 := @Tryz.underlying421
abbrev U423 := @Tryz.underlying423
abbrev U425 := @Tryz.underlying425
abbrev U44 := @Tryz.underlying44
abbrev U464 := @Tryz.underlying464
abbrev U49 := @Tryz.underlying49
abbrev U5 := @Tryz.underlying5
abbrev U53 := @Tryz.underlying53
abbrev U54 := @Tryz.underlying54
abbrev U56 := @Tryz.underlying56
abbrev U58 := @Tryz.underlying58
abbrev U72 := @Tryz.underlying72
abbrev U73 := @Tryz.underlying73
abbrev U76 := @Tryz.underlying76
abbrev U77 := @Tryz.underlying77
abbrev U80 := @Tryz.underlying80
abbrev U9 := @Tryz.underlying9
abbrev Y3 := @Tryz.type3
abbrev Y38 := @Tryz.type38
abbrev Y5 := @Tryz.type5
abbrev Y76 := @Tryz.type76
abbrev Y9 := @Tryz.type9
section
namespace Sl
open RowKit
structure Bd where
 α : Type
 V : α→Value
 R : α→Res
 n0 : Nonempty α
inductive Cl where | P | F | V | R | A | E | B (D : Bd)
def cf : Cl→Cl→Bool
 | .P,_=>false
 | .F,_=>false
 | _,.P=>false
 | _,.F=>false
 | .V,.V=>false
 | .V,.R=>false
 | .R,.V=>false
 | .R,.R=>false
 | .V,.A=>false
 | .V,.B _=>false
 | .B _,.B _=>false
 | _,_=>true
abbrev Hs:=List (Cl × Nat)
abbrev Mp':=Nat→Option Value
structure FrM (a : Act) (n : Nat) (m : Mp') : Prop where
 size : a.tmps.size = n
 defers : a.defers = []
 all : ∀ t v,m t = some v→a.tmps.getD t undef = v
def putM (d : Option Nat) (v : Value) (m : Mp') : Mp':=match d with
 | some d=>fun t=>if t = d then some v else m t
 | none=>m
def okS (ops : List Oper) (An : List (List Nat)) (i t : Nat) : Bool:=ops.zipIdx.all fun oj=>oj.1.dst != some t || (an An i).contains oj.2 || (an An oj.2).contains i || Nat.beq oj.2 i
def limM (ops : List Oper) (An : List (List Nat)) (i : Nat) (m : Mp') : Mp':=fun t=>if okS ops An i t then m t else none
theorem FrM.put {a : Act} {n : Nat} {m : Mp'} (F : FrM a n m) (d : Option Nat) (v : Value) (hd : ∀ t,d = some t→t < n) : FrM (a.put d v) n (putM d v m):=by
 cases d with
 | none=>exact F
 | some d =>
  have hs : d < a.tmps.size:=by rw [F.size];exact hd d rfl
  refine ⟨by rw [← F.size];simp [Act.put],F.defers,fun t u h=>?_⟩
  show (a.tmps.setIfInBounds d v).getD t undef = u
  simp only [putM] at h
  split at h
  ·
   rename_i e;subst e;obtain rfl:=Option.some.inj h;simp [Array.getD,hs]
  ·
   rename_i e
   rw [Array.getD_eq_getD_getElem?,Array.getElem?_setIfInBounds_ne (fun e'=>e e'.symm),← Array.getD_eq_getD_getElem?]
   exact F.all t u h
theorem FrM.lim {a : Act} {n : Nat} {m : Mp'} (F : FrM a n m) (ops : List Oper) (An : List (List Nat)) (i : Nat) : FrM a n (limM ops An i m):=⟨F.size,F.defers,fun t v h=>by
 unfold limM at h
 split at h
 ·
  exact F.all t v h
 ·
  cases h⟩
section
variable (P : Program) (Q : Exit→Act→World→Prop) (n : Nat) (f : Fm) (ops : List Oper) (An : List (List Nat))
def Wt (b : Bool) (i : Nat) (o : Oper) (m : Mp') : Prop:=∀ a,FrM a n (limM ops An i m)→Region.wanted o (yielded ops.toArray a.tmps) = b
def okH (h : Hs) (c : Cl) (i : Nat) : Prop:=∀ x ∈ h,cf x.1 c = true→x.2 < i→x.2 ∈ an An i
def RM : List (Cl × Nat × Oper)→Hs→Mp'→List Res→Prop
 | [],h,m,rs=>∀ a w,FrM a n m→Holds w f rs→Q .normal a w
 | (.P,i,o)::U,h,m,rs=>Wt n ops An false i o m∧RM U h (putM o.dst undef m) rs
 | (.F,i,o)::U,h,m,rs=>∃ v,Wt n ops An true i o m∧(∀ rs' a w,FrM a n (limM ops An i m)→Holds w f rs'→(execOp a.eval o).run P w = .ok (.value v) w)∧RM U h (putM o.dst v m) rs
 | (.V,i,o)::U,h,m,rs=>∃ v,Wt n ops An true i o m∧(∀ a w,FrM a n (limM ops An i m)→Holds w f rs→(execOp a.eval o).run P w = .ok (.value v) w)∧okH An h .V i∧RM U ((.V,i)::h) (putM o.dst v m) rs
 | (.R,i,o)::U,h,m,rs=>∃ v,Wt n ops An true i o m∧(∀ a w,FrM a n (limM ops An i m)→Holds w f rs→Does P a.eval o w fun u w'=>u = v∧Holds w' f rs)∧okH An h .R i∧RM U ((.R,i)::h) (putM o.dst v m) rs
 | (.A,i,o)::U,h,m,rs=>∃ (α : Type) (V : α→Value) (R : α→Res),Nonempty α∧Wt n ops An true i o m∧(∀ rs' a w,FrM a n (limM ops An i m)→Holds w f rs'→Does P a.eval o w fun u w'=>∃ x,u = V x∧Holds w' f (R x::rs'))∧okH An h .A i∧∀ x,RM U ((.A,i)::h) (putM o.dst (V x) m) (R x::rs)
 | (.B D,i,o)::U,h,m,rs=>Wt n ops An true i o m∧(∀ rs' a w,FrM a n (limM ops An i m)→Holds w f rs'→Does P a.eval o w fun u w'=>∃ x,u = D.V x∧Holds w' f (D.R x::rs'))∧okH An h (.B D) i∧∀ x,RM U ((.B D,i)::h) (putM o.dst (D.V x) m) (D.R x::rs)
 | (.E,i,o)::U,h,m,rs=>∃ (α : Type) (V : α→Value) (R : α→List Res),Nonempty α∧Wt n ops An true i o m∧(∀ a w,FrM a n (limM ops An i m)→Holds w f rs→Does P a.eval o w fun u w'=>∃ x,u = V x∧Holds w' f (R x))∧okH An h .E i∧∀ x,RM U ((.E,i)::h) (putM o.dst (V x) m) (R x)
end
section
variable {P : Program} {Q : Exit→Act→World→Prop} {n : Nat} {f : Fm} {ops : List Oper} {An : List (List Nat)}
theorem okH.sub {h h' : Hs} {c : Cl} {i : Nat} (hs : ∀ x ∈ h',x ∈ h) (k : okH An h c i) : okH An h' c i:=fun x hx=>k x (hs x hx)
theorem subc {h h' : Hs} {y : Cl × Nat} (hs : ∀ x ∈ h',x ∈ h) : ∀ x ∈ y::h',x ∈ y::h:=fun e he=>by
 rcases List.mem_cons.1 he with rfl | he
 ·
  exact List.mem_cons_self
 ·
  exact List.mem_cons_of_mem _ (hs e he)
theorem RM.sub : ∀ {U : List (Cl × Nat × Oper)} {h h' : Hs} {m : Mp'} {rs : List Res},(∀ x ∈ h',x ∈ h)→RM P Q n f ops An U h m rs→RM P Q n f ops An U h' m rs
 | [],_,_,_,_,_,h=>h
 | (.P,i,o)::U,_,_,_,_,h1,h=>⟨h.1,RM.sub h1 h.2⟩
 | (.F,i,o)::U,_,_,_,_,h1,h=>by obtain ⟨v,a,b,c⟩:=h;exact ⟨v,a,b,RM.sub h1 c⟩
 | (.V,i,o)::U,_,_,_,_,h1,h=>by obtain ⟨v,a,b,c,d⟩:=h;exact ⟨v,a,b,c.sub h1,RM.sub (subc h1) d⟩
 | (.R,i,o)::U,_,_,_,_,h1,h=>by obtain ⟨v,a,b,c,d⟩:=h;exact ⟨v,a,b,c.sub h1,RM.sub (subc h1) d⟩
 | (.A,i,o)::U,_,_,_,_,h1,h=>by obtain ⟨α,V,R,n0,a,b,c,d⟩:=h;exact ⟨α,V,R,n0,a,b,c.sub h1,fun x=>RM.sub (subc h1) (d x)⟩
 | (.E,i,o)::U,_,_,_,_,h1,h=>by obtain ⟨α,V,R,n0,a,b,c,d⟩:=h;exact ⟨α,V,R,n0,a,b,c.sub h1,fun x=>RM.sub (subc h1) (d x)⟩
 | (.B D,i,o)::U,_,_,_,_,h1,h=>by obtain ⟨a,b,c,d⟩:=h;exact ⟨a,b,c.sub h1,fun x=>RM.sub (subc h1) (d x)⟩
theorem RM.perm : ∀ {U : List (Cl × Nat × Oper)} {h : Hs} {m : Mp'} {rs rs' : List Res},rs.Perm rs'→RM P Q n f ops An U h m rs→RM P Q n f ops An U h m rs'
 | [],_,_,_,_,p,h=>fun a w F H=>h a w F (H.perm p)
 | (.P,i,o)::U,_,_,_,_,p,h=>⟨h.1,RM.perm p h.2⟩
 | (.F,i,o)::U,_,_,_,_,p,h=>by obtain ⟨v,a,b,c⟩:=h;exact ⟨v,a,fun rs' x w F H=>b rs' x w F H,RM.perm p c⟩
 | (.V,i,o)::U,_,_,_,_,p,h=>by obtain ⟨v,a,b,c,d⟩:=h;exact ⟨v,a,fun x w F H=>b x w F (H.perm p),c,RM.perm p d⟩
 | (.R,i,o)::U,_,_,_,_,p,h=>by obtain ⟨v,a,b,c,d⟩:=h;exact ⟨v,a,fun x w F H=>(b x w F (H.perm p)).mono fun u w' hu=>⟨hu.1,hu.2.perm p.symm⟩,c,RM.perm p d⟩
 | (.A,i,o)::U,_,_,_,_,p,h=>by obtain ⟨α,V,R,n0,a,b,c,d⟩:=h;exact ⟨α,V,R,n0,a,b,c,fun x=>RM.perm (p.cons _) (d x)⟩
 | (.E,i,o)::U,_,_,_,_,p,h=>by obtain ⟨α,V,R,n0,a,b,c,d⟩:=h;exact ⟨α,V,R,n0,a,fun x w F H=>b x w F (H.perm p),c,d⟩
 | (.B D,i,o)::U,_,_,_,_,p,h=>by obtain ⟨a,b,c,d⟩:=h;exact ⟨a,b,c,fun x=>RM.perm (p.cons _) (d x)⟩
theorem sw2 {h : Hs} {y z : Cl × Nat} : ∀ x ∈ y::z::h,x ∈ z::y::h:=fun e he=>by simp only [List.mem_cons] at he ⊢;rcases he with h | h | h <;> simp [h]
theorem okH.tl {h : Hs} {y : Cl × Nat} {c : Cl} {i : Nat} (k : okH An (y::h) c i) : okH An h c i:=fun x hx=>k x (List.mem_cons_of_mem _ hx)
theorem okH.put {h : Hs} {y : Cl × Nat} {c : Cl} {i : Nat} (k : okH An h c i) (hy : cf y.1 c = false) : okH An (y::h) c i:=fun x hx hc=>by
 rcases List.mem_cons.1 hx with rfl | hx
 ·
  rw [hy] at hc;cases hc
 ·
  exact k x hx hc
theorem okH.put' {h : Hs} {y : Cl × Nat} {c : Cl} {i : Nat} (k : okH An h c i) (hy : i < y.2) : okH An (y::h) c i:=fun x hx hc hl=>by
 rcases List.mem_cons.1 hx with rfl | hx
 ·
  omega
 ·
  exact k x hx hc hl
theorem okH.no {h : Hs} {y : Cl × Nat} {c : Cl} {i : Nat} (k : okH An (y::h) c i) (hy : cf y.1 c = true) (hl : y.2 < i) : y.2 ∈ an An i:=k y List.mem_cons_self hy hl
theorem Holds.tail {w : World} {f : Fm} {r0 : Res} {rs : List Res} (H : Holds w f (r0::rs)) : Holds w f rs:=⟨H.os,H.tape,H.out,H.kept,fun r hr=>H.oks r (List.mem_cons_of_mem _ hr),fun r hr=>H.free r (List.mem_cons_of_mem _ hr),fun i j r s hij hi hj=>H.sep (i+1) (j+1) r s (by omega) (by simpa using hi) (by simpa using hj)⟩
structure Ap' (ops : List Oper) (An : List (List Nat)) (i j : Nat) (o o' : Oper) : Prop where
 lt : j < i
 ij : i ∉ an An j
 ji : j ∉ an An i
 li : ∀ v m,limM ops An i (putM o'.dst v m) = limM ops An i m
 lj : ∀ v m,limM ops An j (putM o.dst v m) = limM ops An j m
 co : ∀ v u m,putM o.dst v (putM o'.dst u m) = putM o'.dst u (putM o.dst v m)
theorem wt_put {b : Bool} {i j : Nat} {o o' : Oper} {m : Mp'} {v : Value} (A : Ap' ops An i j o o') : Wt n ops An b i o (putM o'.dst v m) ↔ Wt n ops An b i o m:=by unfold Wt;rw [A.li]
theorem swap {c c' : Cl} {i j : Nat} {o o' : Oper} (A : Ap' ops An i j o o') {U : List (Cl × Nat × Oper)} {h0 : Hs} {m : Mp'} {rs : List Res} (hex : ∃ a w rs', FrM a n (limM ops An i m) ∧ Holds w f rs')
    (h : RM P Q n f ops An ((c', j, o') :: (c, i, o) :: U) h0 m rs) : RM P Q n f ops An ((c, i, o) :: (c', j, o') :: U) h0 m rs := by
  have fin : ∀ {β : Type} {V' : β → Value} {y0 : Cl × Nat} {R' : β → List Res} (x0 : β), (∀ x, ∃ v, Wt n ops An true i o (putM o'.dst (V' x) m) ∧ (∀ rs' a w, FrM a n (limM ops An i (putM o'.dst (V' x) m)) → Holds w f rs' → (execOp a.eval o).run P w = .ok (.value v) w) ∧ RM P Q n f ops An U (y0 :: h0) (putM o.dst v (putM o'.dst (V' x) m)) (R' x)) →
      ∃ v, Wt n ops An true i o m ∧ (∀ rs' a w, FrM a n (limM ops An i m) → Holds w f rs' → (execOp a.eval o).run P w = .ok (.value v) w) ∧ ∀ x, RM P Q n f ops An U (y0 :: h0) (putM o'.dst (V' x) (putM o.dst v m)) (R' x) := by
    intro β V' y0 R' x0 h
    obtain ⟨v, k1, k2, _⟩ := h x0
    rw [A.li] at k2
    refine ⟨v, (wt_put A).1 k1, k2, fun x => ?_⟩
    obtain ⟨v', _, k2', k'⟩ := h x
    rw [A.li] at k2'
    obtain ⟨a, w, rs', hF, hH⟩ := hex
    have e : v = v' := by
      have e1 := k2 rs' a w hF hH
      rw [k2' rs' a w hF hH] at e1
      injection e1 with e1 _
      injection e1 with e1
      exact e1.symm
    subst e
    rw [← A.co]; exact k'
  cases c' with
  | P =>
    obtain ⟨h1, h⟩ := h
    have h1' : ∀ v, Wt n ops An false j o' (putM o.dst v m) := fun v => by unfold Wt; rw [A.lj]; exact h1
    cases c with
    | P => obtain ⟨k1, k⟩ := h; exact ⟨(wt_put A).1 k1, h1' _, by rw [← A.co]; exact k⟩
    | F => obtain ⟨v, k1, k2, k⟩ := h; exact ⟨v, (wt_put A).1 k1, by rw [← A.li undef]; exact k2, h1' _, by rw [← A.co]; exact k⟩
    | V => obtain ⟨v, k1, k2, k3, k⟩ := h; exact ⟨v, (wt_put A).1 k1, by rw [← A.li undef]; exact k2, k3, h1' _, by rw [← A.co]; exact k⟩
    | R => obtain ⟨v, k1, k2, k3, k⟩ := h; exact ⟨v, (wt_put A).1 k1, by rw [← A.li undef]; exact k2, k3, h1' _, by rw [← A.co]; exact k⟩
    | A => obtain ⟨α, V, R, n0, k1, k2, k3, k⟩ := h; exact ⟨α, V, R, n0, (wt_put A).1 k1, by rw [← A.li undef]; exact k2, k3, fun x => ⟨h1' _, by rw [← A.co]; exact k x⟩⟩
    | E => obtain ⟨α, V, R, n0, k1, k2, k3, k⟩ := h; exact ⟨α, V, R, n0, (wt_put A).1 k1, by rw [← A.li undef]; exact k2, k3, fun x => ⟨h1' _, by rw [← A.co]; exact k x⟩⟩
    | B D => obtain ⟨k1, k2, k3, k⟩ := h; exact ⟨(wt_put A).1 k1, by rw [← A.li undef]; exact k2, k3, fun x => ⟨h1' _, by rw [← A.co]; exact k x⟩⟩
  | F =>
    obtain ⟨u, h1, h2, h⟩ := h
    have h2' : ∀ v, ∀ rs' a w, FrM a n (limM ops An j (putM o.dst v m)) → Holds w f rs' → (execOp a.eval o').run P w = .ok (.value u) w := fun v => by rw [A.lj]; exact h2
    have h1' : ∀ v, Wt n ops An true j o' (putM o.dst v m) := fun v => by unfold Wt; rw [A.lj]; exact h1
    cases c with
    | P => obtain ⟨k1, k⟩ := h; exact ⟨(wt_put A).1 k1, u, h1' _, h2' _, by rw [← A.co]; exact k⟩
    | F => obtain ⟨v, k1, k2, k⟩ := h; exact ⟨v, (wt_put A).1 k1, by rw [← A.li u]; exact k2, u, h1' _, h2' _, by rw [← A.co]; exact k⟩
    | V => obtain ⟨v, k1, k2, k3, k⟩ := h; exact ⟨v, (wt_put A).1 k1, by rw [← A.li u]; exact k2, k3, u, h1' _, h2' _, by rw [← A.co]; exact k⟩
    | R => obtain ⟨v, k1, k2, k3, k⟩ := h; exact ⟨v, (wt_put A).1 k1, by rw [← A.li u]; exact k2, k3, u, h1' _, h2' _, by rw [← A.co]; exact k⟩
    | A => obtain ⟨α, V, R, n0, k1, k2, k3, k⟩ := h; exact ⟨α, V, R, n0, (wt_put A).1 k1, by rw [← A.li u]; exact k2, k3, fun x => ⟨u, h1' _, h2' _, by rw [← A.co]; exact k x⟩⟩
    | E => obtain ⟨α, V, R, n0, k1, k2, k3, k⟩ := h; exact ⟨α, V, R, n0, (wt_put A).1 k1, by rw [← A.li u]; exact k2, k3, fun x => ⟨u, h1' _, h2' _, by rw [← A.co]; exact k x⟩⟩
    | B D => obtain ⟨k1, k2, k3, k⟩ := h; exact ⟨(wt_put A).1 k1, by rw [← A.li u]; exact k2, k3, fun x => ⟨u, h1' _, h2' _, by rw [← A.co]; exact k x⟩⟩
  | V =>
    obtain ⟨u, h1, h2, h3, h⟩ := h
    have h2' : ∀ v, ∀ a w, FrM a n (limM ops An j (putM o.dst v m)) → Holds w f rs → (execOp a.eval o').run P w = .ok (.value u) w := fun v => by rw [A.lj]; exact h2
    have h1' : ∀ v, Wt n ops An true j o' (putM o.dst v m) := fun v => by unfold Wt; rw [A.lj]; exact h1
    cases c with
    | P => obtain ⟨k1, k⟩ := h; exact ⟨(wt_put A).1 k1, u, h1' _, h2' _, h3, by rw [← A.co]; exact k⟩
    | F => obtain ⟨v, k1, k2, k⟩ := h; exact ⟨v, (wt_put A).1 k1, by rw [← A.li u]; exact k2, u, h1' _, h2' _, h3, by rw [← A.co]; exact k⟩
    | V => obtain ⟨v, k1, k2, k3, k⟩ := h; exact ⟨v, (wt_put A).1 k1, by rw [← A.li u]; exact k2, k3.tl, u, h1' _, h2' _, h3.put rfl, by rw [← A.co]; exact RM.sub sw2 k⟩
    | R => obtain ⟨v, k1, k2, k3, k⟩ := h; exact ⟨v, (wt_put A).1 k1, by rw [← A.li u]; exact k2, k3.tl, u, h1' _, h2' _, h3.put rfl, by rw [← A.co]; exact RM.sub sw2 k⟩
    | A => obtain ⟨α, V, R, n0, k1, k2, k3, k⟩ := h; exact ⟨α, V, R, n0, (wt_put A).1 k1, by rw [← A.li u]; exact k2, k3.tl, fun x => ⟨u, h1' _, fun a w F H => h2' _ a w F H.tail, h3.put' A.lt, by rw [← A.co]; exact RM.sub sw2 (k x)⟩⟩
    | E => obtain ⟨α, V, R, n0, k1, k2, k3, k⟩ := h; exact absurd (k3.no rfl A.lt) A.ji
    | B D => obtain ⟨k1, k2, k3, k⟩ := h; exact ⟨(wt_put A).1 k1, by rw [← A.li u]; exact k2, k3.tl, fun x => ⟨u, h1' _, fun a w F H => h2' _ a w F H.tail, h3.put' A.lt, by rw [← A.co]; exact RM.sub sw2 (k x)⟩⟩
  | R =>
    obtain ⟨u, h1, h2, h3, h⟩ := h
    have h2' : ∀ v, ∀ a w, FrM a n (limM ops An j (putM o.dst v m)) → Holds w f rs → Does P a.eval o' w fun x w' => x = u ∧ Holds w' f rs := fun v => by rw [A.lj]; exact h2
    have h1' : ∀ v, Wt n ops An true j o' (putM o.dst v m) := fun v => by unfold Wt; rw [A.lj]; exact h1
    cases c with
    | P => obtain ⟨k1, k⟩ := h; exact ⟨(wt_put A).1 k1, u, h1' _, h2' _, h3, by rw [← A.co]; exact k⟩
    | F => obtain ⟨v, k1, k2, k⟩ := h; exact ⟨v, (wt_put A).1 k1, by rw [← A.li u]; exact k2, u, h1' _, h2' _, h3, by rw [← A.co]; exact k⟩
    | V => obtain ⟨v, k1, k2, k3, k⟩ := h; exact ⟨v, (wt_put A).1 k1, by rw [← A.li u]; exact k2, k3.tl, u, h1' _, h2' _, h3.put rfl, by rw [← A.co]; exact RM.sub sw2 k⟩
    | R => obtain ⟨v, k1, k2, k3, k⟩ := h; exact ⟨v, (wt_put A).1 k1, by rw [← A.li u]; exact k2, k3.tl, u, h1' _, h2' _, h3.put rfl, by rw [← A.co]; exact RM.sub sw2 k⟩
    | A => obtain ⟨α, V, R, n0, k1, k2, k3, k⟩ := h; exact absurd (k3.no rfl A.lt) A.ji
    | E => obtain ⟨α, V, R, n0, k1, k2, k3, k⟩ := h; exact absurd (k3.no rfl A.lt) A.ji
    | B D => obtain ⟨k1, k2, k3, k⟩ := h; exact absurd (k3.no rfl A.lt) A.ji
  | A =>
    obtain ⟨β, V', R', ⟨x0⟩, h1, h2, h3, h⟩ := h
    cases c with
    | P => exact ⟨(wt_put A).1 (h x0).1, β, V', R', ⟨x0⟩, by unfold Wt; rw [A.lj]; exact h1, by rw [A.lj]; exact h2, h3, fun x => by rw [← A.co]; exact (h x).2⟩
    | F =>
      obtain ⟨v, k1, k2, k⟩ := fin (y0 := (.A, j)) x0 h
      exact ⟨v, k1, k2, β, V', R', ⟨x0⟩, by unfold Wt; rw [A.lj]; exact h1, by rw [A.lj]; exact h2, h3, k⟩
    | V => obtain ⟨v, k1, k2, k3, k⟩ := h x0; exact absurd (k3.no rfl A.lt) A.ji
    | R => obtain ⟨v, k1, k2, k3, k⟩ := h x0; exact absurd (k3.no rfl A.lt) A.ji
    | A => obtain ⟨α, V, R, n0, k1, k2, k3, k⟩ := h x0; exact absurd (k3.no rfl A.lt) A.ji
    | E => obtain ⟨α, V, R, n0, k1, k2, k3, k⟩ := h x0; exact absurd (k3.no rfl A.lt) A.ji
    | B D => obtain ⟨k1, k2, k3, k⟩ := h x0; exact absurd (k3.no rfl A.lt) A.ji
  | E =>
    obtain ⟨β, V', R', ⟨x0⟩, h1, h2, h3, h⟩ := h
    cases c with
    | P => exact ⟨(wt_put A).1 (h x0).1, β, V', R', ⟨x0⟩, by unfold Wt; rw [A.lj]; exact h1, by rw [A.lj]; exact h2, h3, fun x => by rw [← A.co]; exact (h x).2⟩
    | F =>
      obtain ⟨v, k1, k2, k⟩ := fin (y0 := (.E, j)) x0 h
      exact ⟨v, k1, k2, β, V', R', ⟨x0⟩, by unfold Wt; rw [A.lj]; exact h1, by rw [A.lj]; exact h2, h3, k⟩
    | V => obtain ⟨v, k1, k2, k3, k⟩ := h x0; exact absurd (k3.no rfl A.lt) A.ji
    | R => obtain ⟨v, k1, k2, k3, k⟩ := h x0; exact absurd (k3.no rfl A.lt) A.ji
    | A => obtain ⟨α, V, R, n0, k1, k2, k3, k⟩ := h x0; exact absurd (k3.no rfl A.lt) A.ji
    | E => obtain ⟨α, V, R, n0, k1, k2, k3, k⟩ := h x0; exact absurd (k3.no rfl A.lt) A.ji
    | B D => obtain ⟨k1, k2, k3, k⟩ := h x0; exact absurd (k3.no rfl A.lt) A.ji
  | B D' =>
    obtain ⟨h1, h2, h3, h⟩ := h
    obtain ⟨x0⟩ := D'.n0
    have h2' : ∀ v, ∀ rs' a w, FrM a n (limM ops An j (putM o.dst v m)) → Holds w f rs' → Does P a.eval o' w fun u w' => ∃ x, u = D'.V x ∧ Holds w' f (D'.R x :: rs') := fun v => by rw [A.lj]; exact h2
    have h1' : ∀ v, Wt n ops An true j o' (putM o.dst v m) := fun v => by unfold Wt; rw [A.lj]; exact h1
    cases c with
    | P => exact ⟨(wt_put A).1 (h x0).1, h1' _, h2' _, h3, fun x => by rw [← A.co]; exact (h x).2⟩
    | F =>
      obtain ⟨v, k1, k2, k⟩ := fin (y0 := (.B D', j)) x0 h
      exact ⟨v, k1, k2, h1' _, h2' _, h3, k⟩
    | V => obtain ⟨v, k1, k2, k3, k⟩ := h x0; exact absurd (k3.no rfl A.lt) A.ji
    | R => obtain ⟨v, k1, k2, k3, k⟩ := h x0; exact absurd (k3.no rfl A.lt) A.ji
    | A => obtain ⟨α, V, R, n0, k1, k2, k3, k⟩ := h x0; exact absurd (k3.no rfl A.lt) A.ji
    | E => obtain ⟨α, V, R, n0, k1, k2, k3, k⟩ := h x0; exact absurd (k3.no rfl A.lt) A.ji
    | B D =>
      obtain ⟨k1, k2, k3, k⟩ := h x0
      refine ⟨(wt_put A).1 k1, by rw [← A.li (D'.V x0)]; exact k2, k3.tl, fun x => ⟨h1' _, h2' _, h3.put rfl, fun x' => ?_⟩⟩
      obtain ⟨_, _, _, k'⟩ := h x'
      rw [← A.co]; exact RM.perm (List.Perm.swap _ _ _) (RM.sub sw2 (k' x))
theorem pull {c : Cl} {i : Nat} {o : Oper} {U2 : List (Cl × Nat × Oper)} : ∀ {U1 : List (Cl × Nat × Oper)} {h0 : Hs} {m : Mp'} {rs : List Res}, (∀ x ∈ U1, Ap' ops An i x.2.1 o x.2.2) → (∃ a w rs', FrM a n (limM ops An i m) ∧ Holds w f rs') →
    RM P Q n f ops An (U1 ++ (c, i, o) :: U2) h0 m rs → RM P Q n f ops An ((c, i, o) :: (U1 ++ U2)) h0 m rs
  | [], _, _, _, _, _, h => h
  | (c', j, o') :: U1, h0, m, rs, hA, hex, h => by
    have A := hA _ List.mem_cons_self
    have hA' : ∀ x ∈ U1, Ap' ops An i x.2.1 o x.2.2 := fun x hx => hA x (List.mem_cons_of_mem _ hx)
    have hx' : ∀ v, ∃ a w rs', FrM a n (limM ops An i (putM o'.dst v m)) ∧ Holds w f rs' := fun v => by rw [A.li]; exact hex
    refine swap A hex ?_
    cases c' with
    | P => exact ⟨h.1, pull hA' (hx' _) h.2⟩
    | F => obtain ⟨v, a, b, c⟩ := h; exact ⟨v, a, b, pull hA' (hx' _) c⟩
    | V => obtain ⟨v, a, b, c, d⟩ := h; exact ⟨v, a, b, c, pull hA' (hx' _) d⟩
    | R => obtain ⟨v, a, b, c, d⟩ := h; exact ⟨v, a, b, c, pull hA' (hx' _) d⟩
    | A => obtain ⟨α, V, R, n0, a, b, c, d⟩ := h; exact ⟨α, V, R, n0, a, b, c, fun x => pull hA' (hx' _) (d x)⟩
    | E => obtain ⟨α, V, R, n0, a, b, c, d⟩ := h; exact ⟨α, V, R, n0, a, b, c, fun x => pull hA' (hx' _) (d x)⟩
    | B D => obtain ⟨a, b, c, d⟩ := h; exact ⟨a, b, c, fun x => pull hA' (hx' _) (d x)⟩
theorem RM.head {c : Cl} {i : Nat} {o : Oper} {U : List (Cl × Nat × Oper)} {h0 : Hs} {m : Mp'} {rs : List Res} {a : Act} {w : World} (h : RM P Q n f ops An ((c, i, o) :: U) h0 m rs) (F : FrM a n m) (H : Holds w f rs) :
    if Region.wanted o (yielded ops.toArray a.tmps) = true then Does P a.eval o w (fun v w' => ∃ h' rs', Holds w' f rs' ∧ RM P Q n f ops An U h' (putM o.dst v m) rs') else RM P Q n f ops An U h0 (putM o.dst undef m) rs := by
  have F' := F.lim ops An i
  cases c with
  | P => obtain ⟨h1, h⟩ := h; rw [if_neg (by rw [h1 a F']; decide)]; exact h
  | F =>
    obtain ⟨v, h1, h2, h⟩ := h
    rw [if_pos (h1 a F')]
    exact Does.of (h2 rs a w F' H) ⟨h0, rs, H, h⟩
  | V =>
    obtain ⟨v, h1, h2, h3, h⟩ := h
    rw [if_pos (h1 a F')]
    exact Does.of (h2 a w F' H) ⟨_, rs, H, h⟩
  | R =>
    obtain ⟨v, h1, h2, h3, h⟩ := h
    rw [if_pos (h1 a F')]
    refine (h2 a w F' H).mono fun u w' hu => ?_
    obtain ⟨rfl, H'⟩ := hu
    exact ⟨_, rs, H', h⟩
  | A =>
    obtain ⟨α, V, R, n0, h1, h2, h3, h⟩ := h
    rw [if_pos (h1 a F')]
    refine (h2 rs a w F' H).mono fun u w' hu => ?_
    obtain ⟨x, rfl, H'⟩ := hu
    exact ⟨_, _, H', h x⟩
  | E =>
    obtain ⟨α, V, R, n0, h1, h2, h3, h⟩ := h
    rw [if_pos (h1 a F')]
    refine (h2 a w F' H).mono fun u w' hu => ?_
    obtain ⟨x, rfl, H'⟩ := hu
    exact ⟨_, R x, H', h x⟩
  | B D =>
    obtain ⟨h1, h2, h3, h⟩ := h
    rw [if_pos (h1 a F')]
    refine (h2 rs a w F' H).mono fun u w' hu => ?_
    obtain ⟨x, rfl, H'⟩ := hu
    exact ⟨_, _, H', h x⟩
def mkU : List Cl→Nat→List Oper→List (Cl × Nat × Oper)
 | c::cs,i,o::l=>(c,i,o)::mkU cs (i+1) l
 | _,_,_=>[]
theorem mkU_mem : ∀ {cs : List Cl} {k : Nat} {l : List Oper} {x : Cl × Nat × Oper},x ∈ mkU cs k l→k≤x.2.1∧l[x.2.1 - k]? = some x.2.2
 | [],_,_,_,h=>(List.not_mem_nil h).elim
 | _::_,_,[],_,h=>(List.not_mem_nil h).elim
 | c::cs,k,o::l,x,h=>by
  rcases List.mem_cons.1 h with rfl | h
  ·
   exact ⟨Nat.le_refl _,by simp⟩
  ·
   obtain ⟨h1,h2⟩:=mkU_mem h
   refine ⟨by omega,?_⟩
   rw [show x.2.1 - k = (x.2.1 - (k+1))+1 by omega,List.getElem?_cons_succ];exact h2
theorem mkU_sorted : ∀ (cs : List Cl) (k : Nat) (l : List Oper),(mkU cs k l).Pairwise fun x y=>x.2.1 < y.2.1
 | [],_,_=>.nil
 | _::_,_,[]=>.nil
 | c::cs,k,o::l=>.cons (fun y hy=>by have:=(mkU_mem hy).1;show k < _;omega) (mkU_sorted cs (k+1) l)
theorem mkU_all : ∀ {cs : List Cl} {k : Nat} {l : List Oper} {i : Nat} {o : Oper},cs.length = l.length→l[i]? = some o→∃ c,(c,k+i,o) ∈ mkU cs k l
 | _,_,[],_,_,_,h=>by simp at h
 | [],_,_::_,_,_,h,_=>by simp at h
 | c::cs,k,o'::l,0,o,_,h=>by
  obtain rfl : o' = o:=by simpa using h
  exact ⟨c,List.mem_cons_self⟩
 | c::cs,k,o'::l,i+1,o,hl,h=>by
  obtain ⟨c',hc⟩:=mkU_all (cs:=cs) (k:=k+1) (by simpa using hl) (by simpa using h : l[i]? = some o)
  exact ⟨c',List.mem_cons_of_mem _ (by rw [show k+(i+1) = k+1+i by omega];exact hc)⟩
def und (l : Array Bool) (x : Cl × Nat × Oper) : Bool:=!(l.getD x.2.1 false)
theorem putM_co {d d' : Option Nat} (h : ∀ t,d = some t→d' ≠ some t) (v u : Value) (m : Mp') : putM d v (putM d' u m) = putM d' u (putM d v m):=by
 cases d with
 | none=>rfl
 | some t =>
  cases d' with
  | none=>rfl
  | some t' =>
   have hne : t' ≠ t:=fun e=>h t rfl (by rw [e])
   funext q
   simp only [putM]
   split
   ·
    rename_i e;subst e;rw [if_neg (fun e=>hne e.symm)]
   ·
    rfl
theorem limM_put {i j : Nat} {o' : Oper} (hz : (o',j) ∈ ops.zipIdx) (h1 : j ∉ an An i) (h2 : i ∉ an An j) (h3 : j ≠ i) (v : Value) (m : Mp') : limM ops An i (putM o'.dst v m) = limM ops An i m:=by
 funext t
 unfold limM
 by_cases hk : okS ops An i t = true
 ·
  rw [if_pos hk,if_pos hk]
  cases hd : o'.dst with
  | none=>rfl
  | some t' =>
   have hne : t ≠ t':=fun e=>by
    subst e
    have:=List.all_eq_true.1 hk _ hz
    have hb : Nat.beq j i = false:=beq_ne h3
    simp [hd,h1,h2,hb] at this
   simp only [putM,if_neg hne]
 ·
  rw [if_neg hk,if_neg hk]
theorem r_ch {id : Nat} {a0 : Act} {w : World} {m : Mp'} {rs : List Res} (cls : List Cl) (F : FrM a0 n m) (H : Holds w f rs) (hm : P.follows .mixedOrders = true) (hok : okAn ops An n = true) (hc : cls.length = ops.length)
    (h : RM P Q n f ops An (mkU cls 0 ops) [] m rs) : (Code.region id ops.toArray true).wp P Q a0 w := by
  simp only [okAn, Bool.and_eq_true, decide_eq_true_eq, List.all_eq_true, Bool.or_eq_true, List.any_eq_true, List.contains_iff_mem] at hok
  obtain ⟨⟨hnd, hin⟩, hall⟩ := hok
  have hone := nodup_idx ops hnd
  have hdst : ∀ (i : Nat) (o : Oper) (t : Nat), ops[i]? = some o → o.dst = some t → t < n := fun i o t hi hd => hin t (List.mem_filterMap.2 ⟨o, List.mem_of_getElem? hi, hd⟩)
  have hz : ∀ (i : Nat) (o : Oper), ops[i]? = some o → (o, i) ∈ ops.zipIdx := fun i o hi => List.mk_mem_zipIdx_iff_getElem?.2 hi
  have hacyc : ∀ (i : Nat) (o : Oper), ops[i]? = some o → ∀ j ∈ deps o, j < i := fun i o hi => (hall _ (hz i o hi)).1
  have hanc : ∀ (i : Nat) (o : Oper), ops[i]? = some o → ∀ j ∈ an An i, j ∈ deps o ∨ ∃ k ∈ deps o, j ∈ an An k := fun i o hi => (hall _ (hz i o hi)).2
  have hlt : ∀ (i : Nat), i < ops.length → ∀ k ∈ an An i, k < i := by
    intro i
    induction i using Nat.strongRecOn with
    | _ i ih =>
      intro hi k hk
      have ho : ops[i]? = some ops[i] := by simp [hi]
      rcases hanc i _ ho k hk with h | ⟨k', hk', h⟩
      · exact hacyc i _ ho k h
      · have h1 := hacyc i _ ho k' hk'
        have h2 := ih k' h1 (by omega) k h
        omega
  have key : ∀ (fuel : Nat) (l : Array Bool) (a : Act) (w : World) (m : Mp') (rs : List Res) (h0 : Hs), undone l ≤ fuel → l.size = ops.length → FrM a n m → Holds w f rs → (∀ j, j < ops.length → l.getD j false = true → ∀ k ∈ an An j, l.getD k false = true) →
      RM P Q n f ops An ((mkU cls 0 ops).filter (und l)) h0 m rs → wpAny P .any ops.toArray Q fuel l a w := by
    intro fuel
    have fin : ∀ (l : Array Bool) (a : Act) (w : World) (m : Mp') (rs : List Res) (h0 : Hs), l.size = ops.length → FrM a n m → Holds w f rs → RM P Q n f ops An ((mkU cls 0 ops).filter (und l)) h0 m rs → Region.ready .any ops.toArray l = [] → Q .normal a w := by
      intro l a w m rs h0 hs F H hR hn
      have hd := all_done hs hacyc hn
      have he : (mkU cls 0 ops).filter (und l) = [] := by
        rw [List.filter_eq_nil_iff]
        intro x hx
        have h2 := (mkU_mem hx).2
        rw [Nat.sub_zero] at h2
        have h3 := hd x.2.1 (List.getElem?_eq_some_iff.1 h2).1
        unfold und
        rw [h3]; decide
      rw [he] at hR
      exact hR a w F H
    induction fuel with
    | zero =>
      intro l a w m rs h0 hf hs F H hcl hR
      have hn : Region.ready .any ops.toArray l = [] := by
        rw [List.eq_nil_iff_forall_not_mem]
        intro i hi
        exact undone_zero (by omega) i (get_false (mem_ready.1 hi).1)
      exact ⟨hn, fin l a w m rs h0 hs F H hR hn⟩
    | succ fuel ih =>
      intro l a w m rs h0 hf hs F H hcl hR
      refine ⟨fun hn => fin l a w m rs h0 hs F H hR hn, fun i hi => ?_⟩
      obtain ⟨hun, o, ho', hdep⟩ := mem_ready.1 hi
      have ho : ops[i]? = some o := by simpa using ho'
      have hg := get_false hun
      have hil : i < ops.length := (List.getElem?_eq_some_iff.1 ho).1
      have hset := undone_set hg
      have hdeps : ∀ j ∈ deps o, l.getD j false = true := fun j hj => by
        obtain ⟨e, he, hb, rfl⟩ := mem_deps.1 hj
        exact hdep e he hb
      have han : ∀ j ∈ an An i, l.getD j false = true := fun j hj => by
        rcases hanc i o ho j hj with h | ⟨k, hk, h⟩
        · exact hdeps j h
        · have hki := hacyc i o ho k hk
          exact hcl k (by omega) (hdeps k hk) j h
      obtain ⟨c, hc1⟩ := mkU_all (cs := cls) (k := 0) hc ho
      rw [Nat.zero_add] at hc1
      have hmem : (c, i, o) ∈ (mkU cls 0 ops).filter (und l) := List.mem_filter.2 ⟨hc1, by unfold und; rw [getD_false hg]; rfl⟩
      obtain ⟨U1, U2, hU⟩ := List.append_of_mem hmem
      have hsort : ((mkU cls 0 ops).filter (und l)).Pairwise fun x y => x.2.1 < y.2.1 := (mkU_sorted cls 0 ops).filter _
      have hof : ∀ x ∈ (mkU cls 0 ops).filter (und l), ops[x.2.1]? = some x.2.2 ∧ l.getD x.2.1 false = false := fun x hx => by
        obtain ⟨h1, h2⟩ := List.mem_filter.1 hx
        have h3 := (mkU_mem h1).2
        rw [Nat.sub_zero] at h3
        refine ⟨h3, ?_⟩
        unfold und at h2
        cases hb : l.getD x.2.1 false with
        | false => rfl
        | true => rw [hb] at h2; cases h2
      rw [hU] at hR hsort hof
      rw [List.pairwise_append] at hsort
      obtain ⟨hs1, hs2, hs3⟩ := hsort
      have hlt1 : ∀ x ∈ U1, x.2.1 < i := fun x hx => hs3 x hx _ List.mem_cons_self
      have hlt2 : ∀ x ∈ U2, i < x.2.1 := fun x hx => (List.pairwise_cons.1 hs2).1 x hx
      have hAp : ∀ x ∈ U1, Ap' ops An i x.2.1 o x.2.2 := fun x hx => by
        obtain ⟨hx1, hx2⟩ := hof x (List.mem_append_left _ hx)
        have hxi := hlt1 x hx
        have n1 : i ∉ an An x.2.1 := fun hk => by have := hlt x.2.1 (by omega) i hk; omega
        have n2 : x.2.1 ∉ an An i := fun hk => by have := han _ hk; rw [hx2] at this; cases this
        refine ⟨hxi, n1, n2, fun v m => limM_put (hz _ _ hx1) n2 n1 (by omega) v m, fun v m => limM_put (hz _ _ ho) n1 n2 (by omega) v m, fun v u m => putM_co (fun t h1 h2 => ?_) v u m⟩
        have := hone i x.2.1 o x.2.2 t ho hx1 h1 h2
        omega
      have hfilt : (mkU cls 0 ops).filter (und (l.setIfInBounds i true)) = U1 ++ U2 := by
        have e1 : (mkU cls 0 ops).filter (und (l.setIfInBounds i true)) = ((mkU cls 0 ops).filter (und l)).filter (fun x => !(Nat.beq x.2.1 i)) := by
          rw [List.filter_filter]
          refine List.filter_congr fun x hx => ?_
          unfold und
          simp only [Array.getD_eq_getD_getElem?]
          by_cases e : i = x.2.1
          · have hil' : i < l.size := by omega
            subst e
            simp [hil']
          · rw [Array.getElem?_setIfInBounds_ne e, beq_ne (fun e' => e e'.symm)]; simp
        rw [e1, hU, List.filter_append, List.filter_cons_of_neg (by simp)]
        congr 1
        · rw [List.filter_eq_self]; intro x hx; rw [beq_ne (by have := hlt1 x hx; omega)]; rfl
        · rw [List.filter_eq_self]; intro x hx; rw [beq_ne (by have := hlt2 x hx; omega)]; rfl
      have hP := pull hAp ⟨a, w, rs, F.lim ops An i, H⟩ hR
      have hH := hP.head F H
      have hcl' : ∀ j, j < ops.length → (l.setIfInBounds i true).getD j false = true → ∀ k ∈ an An j, (l.setIfInBounds i true).getD k false = true := fun j hj hd k hk => by
        have hmono : ∀ q, l.getD q false = true → (l.setIfInBounds i true).getD q false = true := fun q hq => by
          by_cases e : i = q
          · subst e; rw [getD_false hg] at hq; cases hq
          · rw [Array.getD_eq_getD_getElem?, Array.getElem?_setIfInBounds_ne e, ← Array.getD_eq_getD_getElem?]; exact hq
        by_cases e : i = j
        · subst e; exact hmono k (han k hk)
        · rw [Array.getD_eq_getD_getElem?, Array.getElem?_setIfInBounds_ne e, ← Array.getD_eq_getD_getElem?] at hd
          exact hmono k (hcl j hj hd k hk)
      have go : ∀ (v : Value) (w' : World) (m' : Mp') (h' : Hs) (rs' : List Res), m' = putM o.dst v m → Holds w' f rs' → RM P Q n f ops An (U1 ++ U2) h' m' rs' → wpAny P .any ops.toArray Q fuel (l.setIfInBounds i true) (a.put o.dst v) w' := by
        rintro v w' m' h' rs' rfl H' hR'
        refine ih _ _ _ _ rs' h' (by omega) (by simp [hs]) (F.put o.dst v (fun t hd => hdst i o t ho hd)) H' hcl' ?_
        rw [hfilt]; exact hR'
      unfold wpOp
      simp only [ho']
      by_cases hw : Region.wanted o (yielded ops.toArray a.tmps) = true
      · rw [if_pos hw] at hH ⊢
        exact .inl (hH.wp fun v w' ⟨h', rs', H', hR'⟩ => go v w' _ h' rs' rfl H' hR')
      · rw [if_neg hw] at hH ⊢
        exact go undef w _ h0 rs rfl H hH
  refine wp_region_any hm ?_
  have hsz : ops.toArray.size = ops.length := List.size_toArray
  rw [hsz]
  have e0 : ∀ j : Nat, (Array.replicate ops.length false).getD j false = false := fun j => by
    rw [Array.getD_eq_getD_getElem?, Array.getElem?_replicate]; split <;> rfl
  refine key ops.length (Array.replicate ops.length false) a0 _ m rs [] (by unfold undone; simp) (by simp) F H.drew (fun j _ hd => by rw [e0] at hd; cases hd) ?_
  rw [List.filter_eq_self.2 (fun x _ => by unfold und; rw [e0]; rfl)]
  exact h
end
def inB (b : List (Nat × Nat)) (t : Nat) : Bool:=b.any fun q=>Nat.ble q.1 t && Nat.ble t q.2
def limB (b : List (Nat × Nat)) (m : Mp') : Mp':=fun t=>if inB b t then none else m t
abbrev Cb:=Cl × List (Nat × Nat)
def anc (l : List Oper) : List (List Nat):=l.foldl (fun A o=>A++[((deps o).flatMap fun j=>j::A.getD j []).eraseDups]) []
def okB (An : List (List Nat)) (h : Hs) (c : Cl) (i : Nat) : Bool:=h.all fun x=>!(cf x.1 c) || (an An i).contains x.2
theorem okB_ok {An : List (List Nat)} {h : Hs} {c : Cl} {i : Nat} (k : okB An h c i = true) : okH An h c i:=fun x hx hc _=>by
 have:=List.all_eq_true.1 k x hx
 rw [hc] at this
 simpa using this
def isPF : Cl→Bool
 | .P=>true
 | .F=>true
 | _=>false
def chk (ops : List Oper) (An : List (List Nat)) : List Cb→Nat→Hs→Bool
 | [],_,_=>true
 | (c,b)::t,i,h=>(ops.filterMap (·.dst)).all (fun t=>okS ops An i t || inB b t) && cond (isPF c) (chk ops An t (i+1) h) (okB An h c i && chk ops An t (i+1) ((c,i)::h))
section
variable (P : Program) (Q : Exit→Act→World→Prop) (n : Nat) (f : Fm) (ops : List Oper)
def WB (t : Bool) (b : List (Nat × Nat)) (o : Oper) (m : Mp') : Prop:=∀ a,FrM a n (limB b m)→Region.wanted o (yielded ops.toArray a.tmps) = t
def RB : List Cb→List Oper→Mp'→List Res→Prop
 | (c,b)::U,o::l,m,rs=>match c with
  | .P=>WB n ops false b o m∧RB U l (putM o.dst undef m) rs
  | .F=>∃ v,WB n ops true b o m∧(∀ rs' a w,FrM a n (limB b m)→Holds w f rs'→(execOp a.eval o).run P w = .ok (.value v) w)∧RB U l (putM o.dst v m) rs
  | .V=>∃ v,WB n ops true b o m∧(∀ a w,FrM a n (limB b m)→Holds w f rs→(execOp a.eval o).run P w = .ok (.value v) w)∧RB U l (putM o.dst v m) rs
  | .A=>∃ (α : Type) (V : α→Value) (R : α→Res),Nonempty α∧WB n ops true b o m∧(∀ rs' a w,FrM a n (limB b m)→Holds w f rs'→Does P a.eval o w fun u w'=>∃ x,u = V x∧Holds w' f (R x::rs'))∧∀ x,RB U l (putM o.dst (V x) m) (R x::rs)
  | .B D=>WB n ops true b o m∧(∀ rs' a w,FrM a n (limB b m)→Holds w f rs'→Does P a.eval o w fun u w'=>∃ x,u = D.V x∧Holds w' f (D.R x::rs'))∧∀ x,RB U l (putM o.dst (D.V x) m) (D.R x::rs)
  | .R=>∃ v,WB n ops true b o m∧(∀ a w,FrM a n (limB b m)→Holds w f rs→Does P a.eval o w fun u w'=>u = v∧Holds w' f rs)∧RB U l (putM o.dst v m) rs
  | .E=>∃ (α : Type) (V : α→Value) (R : α→List Res),Nonempty α∧WB n ops true b o m∧(∀ a w,FrM a n (limB b m)→Holds w f rs→Does P a.eval o w fun u w'=>∃ x,u = V x∧Holds w' f (R x))∧∀ x,RB U l (putM o.dst (V x) m) (R x)
 | _,_,m,rs=>∀ a w,FrM a n m→Holds w f rs→Q .normal a w
end
section
variable {P : Program} {Q : Exit→Act→World→Prop} {n : Nat} {f : Fm} {ops : List Oper} {An : List (List Nat)}
theorem lim_le {i : Nat} {b : List (Nat × Nat)} {m : Mp'} {a : Act} (h : (ops.filterMap (·.dst)).all (fun t=>okS ops An i t || inB b t) = true) (F : FrM a n (limM ops An i m)) : FrM a n (limB b m):=⟨F.size,F.defers,fun t v hv=>by
 unfold limB at hv
 split at hv
 ·
  cases hv
 ·
  rename_i hb
  refine F.all t v ?_
  unfold limM
  by_cases hk : okS ops An i t = true
  ·
   rw [if_pos hk];exact hv
  ·
   exfalso
   have hex : ∃ o ∈ ops,o.dst = some t:=by
    have hk' : ¬ ∀ x ∈ ops.zipIdx,(x.1.dst != some t || (an An i).contains x.2 || (an An x.2).contains i || Nat.beq x.2 i) = true:=fun h'=>hk (List.all_eq_true.2 h')
    simp only [Classical.not_forall] at hk'
    obtain ⟨x,hx,hx2⟩:=hk'
    refine ⟨x.1,?_,?_⟩
    ·
     have:=List.mk_mem_zipIdx_iff_getElem?.1 (show (x.1,x.2) ∈ ops.zipIdx from hx)
     exact List.mem_of_getElem? this
    ·
     cases hd : x.1.dst with
     | none=>simp [hd] at hx2
     | some t'=>simp [hd] at hx2;rw [hx2.1.1.1]
   obtain ⟨o,ho,hd⟩:=hex
   have:=List.all_eq_true.1 h t (List.mem_filterMap.2 ⟨o,ho,hd⟩)
   simp [hk,hb] at this⟩
theorem RB.to : ∀ {cb : List Cb} {l : List Oper} {i : Nat} {h0 : Hs} {m : Mp'} {rs : List Res},chk ops An cb i h0 = true→cb.length = l.length→RB P Q n f ops cb l m rs→RM P Q n f ops An (mkU (cb.map (·.1)) i l) h0 m rs
 | [],[],_,_,_,_,_,_,h=>by
  rw [RB] at h
  ·
   exact h
  ·
   intro _ _ _ _ _ h;cases h
 | [],_::_,_,_,_,_,_,hl,_=>by cases hl
 | _::_,[],_,_,_,_,_,hl,_=>by cases hl
 | (c,b)::cb,o::l,i,h0,m,rs,hc,hl,h=>by
  have hl' : cb.length = l.length:=by simpa using hl
  show RM P Q n f ops An ((c,i,o)::mkU (cb.map (·.1)) (i+1) l) h0 m rs
  cases c with
  | P =>
   simp only [chk,isPF,cond,Bool.and_eq_true] at hc
   exact ⟨fun a F=>h.1 a (lim_le hc.1 F),RB.to hc.2 hl' h.2⟩
  | F =>
   simp only [chk,isPF,cond,Bool.and_eq_true] at hc
   obtain ⟨v,w1,w2,h⟩:=h
   exact ⟨v,fun a F=>w1 a (lim_le hc.1 F),fun rs' a w F H=>w2 rs' a w (lim_le hc.1 F) H,RB.to hc.2 hl' h⟩
  | V =>
   obtain ⟨v,w1,w2,h⟩:=h
   simp only [chk,isPF,cond,Bool.and_eq_true] at hc
   exact ⟨v,fun a F=>w1 a (lim_le hc.1 F),fun a w F H=>w2 a w (lim_le hc.1 F) H,okB_ok hc.2.1,RB.to hc.2.2 hl' h⟩
  | R =>
   obtain ⟨v,w1,w2,h⟩:=h
   simp only [chk,isPF,cond,Bool.and_eq_true] at hc
   exact ⟨v,fun a F=>w1 a (lim_le hc.1 F),fun a w F H=>w2 a w (lim_le hc.1 F) H,okB_ok hc.2.1,RB.to hc.2.2 hl' h⟩
  | A =>
   obtain ⟨α,V,R,n0,w1,w2,h⟩:=h
   simp only [chk,isPF,cond,Bool.and_eq_true] at hc
   exact ⟨α,V,R,n0,fun a F=>w1 a (lim_le hc.1 F),fun rs' a w F H=>w2 rs' a w (lim_le hc.1 F) H,okB_ok hc.2.1,fun x=>RB.to hc.2.2 hl' (h x)⟩
  | E =>
   obtain ⟨α,V,R,n0,w1,w2,h⟩:=h
   simp only [chk,isPF,cond,Bool.and_eq_true] at hc
   exact ⟨α,V,R,n0,fun a F=>w1 a (lim_le hc.1 F),fun a w F H=>w2 a w (lim_le hc.1 F) H,okB_ok hc.2.1,fun x=>RB.to hc.2.2 hl' (h x)⟩
  | B D =>
   obtain ⟨w1,w2,h⟩:=h
   simp only [chk,isPF,cond,Bool.and_eq_true] at hc
   exact ⟨fun a F=>w1 a (lim_le hc.1 F),fun rs' a w F H=>w2 rs' a w (lim_le hc.1 F) H,okB_ok hc.2.1,fun x=>RB.to hc.2.2 hl' (h x)⟩
def lim' : List (Nat × Nat)→List (Nat × Value)→List (Nat × Value)
 | [],L=>L
 | q::b,L=>L.filter fun p=>!(inB (q::b) p.1)
theorem look_lim (g : Nat→Bool) : ∀ (L : List (Nat × Value)) (t : Nat),look t (L.filter fun p=>g p.1) = if g t then look t L else none
 | [],t=>by simp [look]
 | (k,u)::l,t=>by
  have ih:=look_lim g l t
  by_cases hk : g k = true
  ·
   rw [List.filter_cons_of_pos (by simpa using hk)]
   simp only [look]
   cases hb : Nat.beq k t with
   | true=>obtain rfl:=Nat.eq_of_beq_eq_true hb;rw [if_pos hk];rfl
   | false=>exact ih
  ·
   rw [List.filter_cons_of_neg (by simpa using hk),ih]
   simp only [look]
   cases hb : Nat.beq k t with
   | true=>obtain rfl:=Nat.eq_of_beq_eq_true hb;rw [if_neg hk,if_neg hk]
   | false=>rfl
theorem FrM.fr {a : Act} {b : List (Nat × Nat)} {L : List (Nat × Value)} (F : FrM a n (limB b fun t=>look t L)) : Fr a n (lim' b L):=⟨F.size,F.defers,fun t v h=>F.all t v (by
 cases b with
 | nil=>exact h
 | cons q b =>
  unfold lim' at h
  rw [look_lim (fun t=>!(inB (q::b) t))] at h
  unfold limB
  cases hb : inB (q::b) t with
  | true=>rw [hb] at h;cases h
  | false=>rw [hb] at h;exact h)⟩
theorem look_put (d : Nat) (v : Value) (L : List (Nat × Value)) : (fun t=>look t ((d,v)::L)) = putM (some d) v fun t=>look t L:=by
 funext t
 simp only [putM,look]
 cases hb : Nat.beq d t with
 | true=>obtain rfl:=Nat.eq_of_beq_eq_true hb;rw [if_pos rfl];rfl
 | false=>rw [if_neg (fun e=>by subst e;rw [Nat.beq_refl] at hb;cases hb)];rfl
def exs : List (Nat × Cb)→Nat→Cb
 | [],_=>(.F,[])
 | (j,c)::l,i=>cond (Nat.beq j i) c (exs l i)
def mkC (ex : List (Nat × Cb)) : Nat→List Oper→List Cb
 | _,[]=>[]
 | i,_::l=>exs ex i::mkC ex (i+1) l
theorem mkC_len (ex : List (Nat × Cb)) : ∀ (i : Nat) (l : List Oper),(mkC ex i l).length = l.length
 | _,[]=>rfl
 | i,_::l=>by rw [mkC,List.length_cons,List.length_cons,mkC_len ex (i+1) l]
def GD (P : Program) (Q : Exit→Act→World→Prop) (n : Nat) (f : Fm) (ops : List Oper) (ex : List (Nat × Cb)) (i : Nat) (l : List Oper) (rs : List Res) (L : List (Nat × Value)) : Prop:=RB P Q n f ops (mkC ex i l) l (fun t=>look t L) rs
variable {ex : List (Nat × Cb)} {b : List (Nat × Nat)} {l : List Oper} {rs rs' : List Res} {L : List (Nat × Value)} {i d : Nat} {o : Oper} {v : Value} {s : List Fk}
theorem gdE {c : Cl} {m : Mp'} (hx : exs ex i = (c,b)) (h : RB P Q n f ops ((c,b)::mkC ex (i+1) l) (o::l) m rs) : RB P Q n f ops (mkC ex i (o::l)) (o::l) m rs:=by rw [mkC,hx];exact h
theorem dP (hw : (exs ex i,wantL ops.toArray (lim' b L) o,o.dst,Nat.blt d n) = ((.P,b),some false,some d,true)) (k : GD P Q n f ops ex (i+1) l rs ((d,undef)::L)) : GD P Q n f ops ex i (o::l) rs L:=by
 simp only [Prod.mk.injEq] at hw
 exact gdE hw.1 ⟨fun a F=>wantL_ok F.fr hw.2.1,by rw [hw.2.2.1,← look_put];exact k⟩
theorem dF (hx : exs ex i = (.F,b)) (hv : ∀ {rs},VS P n f rs (lim' b L) o v) (hw : (wantL ops.toArray (lim' b L) o,o.dst,Nat.blt d n) = (some true,some d,true)) (k : GD P Q n f ops ex (i+1) l rs ((d,v)::L)) : GD P Q n f ops ex i (o::l) rs L:=by
 simp only [Prod.mk.injEq] at hw
 exact gdE hx ⟨v,fun a F=>wantL_ok F.fr hw.1,fun rs' a w F H=>hv a w F.fr H,by rw [hw.2.1,← look_put];exact k⟩
theorem dR (hx : exs ex i = (.V,b)) (hv : VS P n f rs (lim' b L) o v) (hw : (wantL ops.toArray (lim' b L) o,o.dst,Nat.blt d n) = (some true,some d,true)) (k : GD P Q n f ops ex (i+1) l rs ((d,v)::L)) : GD P Q n f ops ex i (o::l) rs L:=by
 simp only [Prod.mk.injEq] at hw
 exact gdE hx ⟨v,fun a F=>wantL_ok F.fr hw.1,fun a w F H=>hv a w F.fr H,by rw [hw.2.1,← look_put];exact k⟩
theorem dA {α : Type} [n0 : Nonempty α] {V : α→Value} {R : α→Res} (hx : exs ex i = (.A,b)) (hD : ∀ {rs},DX P n f rs (lim' b L) o V (fun x=>R x::rs)) (hw : (wantL ops.toArray (lim' b L) o,o.dst,Nat.blt d n) = (some true,some d,true)) (k : ∀ x,GD P Q n f ops ex (i+1) l (R x::rs) ((d,V x)::L)) : GD P Q n f ops ex i (o::l) rs L:=by
 simp only [Prod.mk.injEq] at hw
 exact gdE hx ⟨α,V,R,n0,fun a F=>wantL_ok F.fr hw.1,fun rs' a w F H=>hD a w F.fr H,fun x=>by rw [hw.2.1,← look_put];exact k x⟩
theorem dB {α : Type} {n0 : Nonempty α} {V : α→Value} {R : α→Res} (hx : exs ex i = (.B ⟨α,V,R,n0⟩,b)) (hD : ∀ {rs},DX P n f rs (lim' b L) o V (fun x=>R x::rs)) (hw : (wantL ops.toArray (lim' b L) o,o.dst,Nat.blt d n) = (some true,some d,true)) (k : ∀ x,GD P Q n f ops ex (i+1) l (R x::rs) ((d,V x)::L)) : GD P Q n f ops ex i (o::l) rs L:=by
 simp only [Prod.mk.injEq] at hw
 exact gdE hx ⟨fun a F=>wantL_ok F.fr hw.1,fun rs' a w F H=>hD a w F.fr H,fun x=>by rw [hw.2.1,← look_put];exact k x⟩
theorem dC (hx : exs ex i = (.R,b)) (hv : DS P n f rs (lim' b L) o v rs) (hw : (wantL ops.toArray (lim' b L) o,o.dst,Nat.blt d n) = (some true,some d,true)) (k : GD P Q n f ops ex (i+1) l rs ((d,v)::L)) : GD P Q n f ops ex i (o::l) rs L:=by
 simp only [Prod.mk.injEq] at hw
 exact gdE hx ⟨v,fun a F=>wantL_ok F.fr hw.1,fun a w F H=>hv a w F.fr H,by rw [hw.2.1,← look_put];exact k⟩
theorem dE {α : Type} [n0 : Nonempty α] {V : α→Value} {R : α→List Res} (hx : exs ex i = (.E,b)) (hD : DX P n f rs (lim' b L) o V R) (hw : (wantL ops.toArray (lim' b L) o,o.dst,Nat.blt d n) = (some true,some d,true)) (k : ∀ x,GD P Q n f ops ex (i+1) l (R x) ((d,V x)::L)) : GD P Q n f ops ex i (o::l) rs L:=by
 simp only [Prod.mk.injEq] at hw
 exact gdE hx ⟨α,V,R,n0,fun a F=>wantL_ok F.fr hw.1,fun a w F H=>hD a w F.fr H,fun x=>by rw [hw.2.1,← look_put];exact k x⟩
theorem dE0 (hx : exs ex i = (.E,b)) (hD : DS P n f rs (lim' b L) o v rs') (hw : (wantL ops.toArray (lim' b L) o,o.dst) = (some true,Option.none)) (k : GD P Q n f ops ex (i+1) l rs' L) : GD P Q n f ops ex i (o::l) rs L:=by
 simp only [Prod.mk.injEq] at hw
 exact gdE hx ⟨Unit,fun _=>v,fun _=>rs',⟨()⟩,fun a F=>wantL_ok F.fr hw.1,fun a w F H=>(hD a w F.fr H).mono fun u w' h=>⟨(),h⟩,fun x=>by rw [hw.2];exact k⟩
theorem dEv (hx : exs ex i = (.E,b)) (hD : DS P n f rs (lim' b L) o v rs') (hw : (wantL ops.toArray (lim' b L) o,o.dst,Nat.blt d n) = (some true,some d,true)) (k : GD P Q n f ops ex (i+1) l rs' ((d,v)::L)) : GD P Q n f ops ex i (o::l) rs L:=by
 simp only [Prod.mk.injEq] at hw
 exact gdE hx ⟨Unit,fun _=>v,fun _=>rs',⟨()⟩,fun a F=>wantL_ok F.fr hw.1,fun a w F H=>(hD a w F.fr H).mono fun u w' h=>⟨(),h⟩,fun x=>by rw [hw.2.1,← look_put];exact k⟩
theorem dN (k : GH P Q n f (.ex .normal s) rs L) : GD P (QS P Q s) n f ops ex i [] rs L:=by
 unfold GD
 rw [mkC,RB]
 ·
  exact fun a w F H=>k a w ⟨F.size,F.defers,F.all⟩ H
 ·
  intro _ _ _ _ _ h;cases h
theorem rC {h : Hd} {id : Nat} (ex : List (Nat × Cb)) (hm : P.follows .mixedOrders = true) (hr : run 200 h = .co (.region id ops.toArray true) s) (hok : (okAn ops (anc ops) n && chk ops (anc ops) (mkC ex 0 ops) 0 []) = true) (k : GD P (QS P Q s) n f ops ex 0 ops rs L) : GH P Q n f h rs L:=fun a w F H=>by
 rw [Bool.and_eq_true] at hok
 exact run_ok 200 h (by rw [hr];exact r_ch ((mkC ex 0 ops).map (·.1)) ⟨F.size,F.defers,F.all⟩ H hm hok.1 (by rw [List.length_map,mkC_len]) (RB.to hok.2 (mkC_len ex 0 ops) k))
end
end Sl
end
section
namespace Sl
open RowKit
section
variable {P : Program} {ρ : Operand→Value} {o : Oper} {w : World} {x : Operand} {v : Value} {T U : TypeId} {b : TypeDesc}
theorem x_mi (hop : o.op = .makeInterface T x) (ht : P.underlying T = some b) (hb : ∀ m,b ≠ .interface m) (hx : ρ x = v) : (execOp ρ o).run P w = .ok (.value (.iface T v)) w:=by
 have h1 : (underlying T).run P w = .ok b w:=run_underlying ht w
 simp only [execOp,hop,Instr.makeInterface]
 cases b <;> first | (exfalso;exact hb _ rfl) | simp [h1,hx]
theorem x_ta (hop : o.op = .typeAssert x U T false) (ht : P.underlying T = some b) (hb : ∀ m,b ≠ .interface m) (hx : ρ x = .iface T v) : (execOp ρ o).run P w = .ok (.value v) w:=by
 have h1 : (underlying T).run P w = .ok b w:=run_underlying ht w
 simp only [execOp,hop,Instr.typeAssert]
 cases b <;> first | (exfalso;exact hb _ rfl) | simp [h1,hx]
theorem d_calli {g : FuncId} {c : Operand} {name : String} {v' : Value} {args : Array Value} {zs : Array Operand} {ts : Array TypeId} {K : Value→World→Prop} (hop : o.op = .call { callee:=.invoke c name,args:=zs,argTypes:=ts }) (hρ : ρ c = .iface T v) (ha : zs.map ρ = args) (hm : ∀ w,(method (P.types.size+Made.depth) T v name).run P w = .ok (g,v') w) (hC : ∀ args w,(callFunc g args).run P w = .ok (.enter g args) w) (hc : Calls P g (#[v']++args) w (Rt K)) : Does P ρ o w K:=by
 refine Does.call (f:=g) (args:=#[v']++args) ?_ hc
 subst ha
 have h1:=hm w
 have h0 : (#[Value.iface T v]++Array.map ρ zs)[0]? = some (.iface T v):=by simp [Array.getElem?_append]
 have h2 : (#[Value.iface T v]++Array.map ρ zs).extract 1 (#[Value.iface T v]++Array.map ρ zs).size = Array.map ρ zs:=by simp [Array.extract_append]
 have hi : (invoke (.fn (.method name) #[]) (#[Value.iface T v]++Array.map ρ zs)).run P w = .ok (.enter g (#[v']++Array.map ρ zs)) w:=by
  simp only [invoke]
  rw [h0,h2]
  have h3:=h1
  unfold Made.depth at h3
  simp [callMethod,go_sem,h1,h3,hC]
 simpa [execOp,hop,resolve,hρ] using hi
end
section
variable {P : Program} {Q : Exit→Act→World→Prop} {n : Nat} {f : Fm} {rs rs' : List Res} {L : List (Nat × Value)} {s : List Fk} {ops : Array Oper} {o : Oper} {rest : List Oper} {d : Nat} {v u : Value} {x y z : Operand} {T T' U e : TypeId} {b : TypeDesc}
theorem miV (ht : P.underlying T = some b) (hb : ∀ m,b ≠ .interface m) (h : (o.op,evL L x) = (.makeInterface T x,some v)) : VS P n f rs L o (.iface T v):=by
 simp only [Prod.mk.injEq] at h
 obtain ⟨e1,e2⟩:=h
 exact fun a w F H=>x_mi e1 ht hb (evL_ok F e2)
theorem mi (ht : P.underlying T = some b) (hb : ∀ m,b ≠ .interface m) (h : (o.op,evL L x,wantL ops L o,o.dst,Nat.blt d n) = (.makeInterface T x,some v,some true,some d,true)) (k : GO P Q n f s ops rest rs ((d,.iface T v)::L)) : GO P Q n f s ops (o::rest) rs L:=by
 simp only [Prod.mk.injEq] at h
 obtain ⟨e1,e2,hww⟩:=h
 exact gv (fun a w F H=>x_mi e1 ht hb (evL_ok F e2)) (by simp only [hww]) k
theorem taV (ht : P.underlying T = some b) (hb : ∀ m,b ≠ .interface m) (h : (o.op,evL L x) = (.typeAssert x U T false,some (.iface T v))) : VS P n f rs L o (v):=by
 simp only [Prod.mk.injEq] at h
 obtain ⟨e1,e2⟩:=h
 exact fun a w F H=>x_ta e1 ht hb (evL_ok F e2)
theorem caI {xs : List Operand} {c : Operand} {name : String} {v' : Value} {vs : List Value} {ts : Array TypeId} {g : FuncId} {post : Fm → Value → World → Prop} {rin rem : List Res} (hm : ∀ w, (method (P.types.size + Made.depth) T v name).run P w = .ok (g, v') w) (hC : ∀ args w, (callFunc g args).run P w = .ok (.enter g args) w) (hsp : Sp rs rin rem)
    (h : (o.op, evs L xs, evL L c, wantL ops L o, o.dst, Nat.blt d n) = (.call { callee := .invoke c name, args := xs.toArray, argTypes := ts }, some vs, some (.iface T v), some true, some d, true))
    (hc : ∀ (f1 : Fm) (w : World), Holds w f1 rin → f.le f1 → Kp f1 rem → Calls P g (v' :: vs).toArray w (Rt (post f1)))
    (k : ∀ (f1 : Fm), Bk f f1 rem → ∀ (v : Value) (w : World) (a : Act), post f1 v w → Fr a n ((d, v) :: L) → wpList P ops (QS P Q s) rest a w) : GO P Q n f s ops (o :: rest) rs L := by
  simp only [Prod.mk.injEq] at h
  obtain ⟨e1, e2, e3, hw⟩ := h
  refine ga (K := fun v w' => ∃ f1, Bk f f1 rem ∧ post f1 v w') (fun a w F H => ?_) (by simp only [hw]) (fun v w a ⟨f1, hb, hp⟩ F => k f1 hb v w a hp F)
  obtain ⟨f1, le, Hc, ho, hb⟩ := Holds.split rin rem (H.perm hsp.perm)
  exact d_calli (args := vs.toArray) e1 (evL_ok F e3) (by rw [List.map_toArray, evs_ok F e2]) hm hC (by
    have := (hc f1 w Hc le ho).mono (fun e w' ⟨v, he, hv⟩ => (⟨v, he, f1, hb, hv⟩ : Rt (fun v w' => ∃ f1, Bk f f1 rem ∧ post f1 v w') e w'))
    rwa [show (v' :: vs).toArray = #[v'] ++ vs.toArray by simp] at this)
theorem scp {h : Hd} {c : Code} (hr : run 200 h = .co (.scope c) s) (k : GH P (Exit.noGoto (QS P Q s)) n f (.co c []) rs L) : GH P Q n f h rs L:=fun a w F H=>run_ok 200 h (by rw [hr];exact wp_scope_straight (k a w F H))
theorem lbl {h : Hd} {l : Nat} (hr : run 200 h = .co (.label l) s) (k : GH P Q n f (.ex .normal s) rs L) : GH P Q n f h rs L:=fun a w F H=>run_ok 200 h (by rw [hr];exact wp_label (k a w F H))
theorem srt {h : Hd} (hr : run 200 h = .ex .ret []) (k : GH P Q n f (.ex .ret []) rs L) : GH P (Exit.noGoto (QS P Q [])) n f h rs L:=fun a w F H=>run_ok 200 h (by rw [hr];exact k a w F H)
theorem stSD {α : Type} {t : Fl α} {xs : List α} {p i j : Nat} {cells cells' : List Value} {T' : TypeId} (hR : ∀ {w},Holds w f rs→Rd t (hp w) v xs) (hz : ∀ w,(sizeOf T).run P w = .ok 1 w) (hr : Si rs i (Pt p T' cells) (Pt p T' cells') rs') (hc : Si cells j u v cells') (h : (o.op,evL L x,evL L y) = (.store T x y,some (.pointer (some ⟨p,j,none⟩)),some v)) : DS P n f rs L o undef rs':=by
 simp only [Prod.mk.injEq] at h
 obtain ⟨e1,e2,e3⟩:=h
 intro a w F H
 obtain ⟨c1,c2⟩:=hc.at;obtain ⟨r1,r2⟩:=hr.at;subst c2;subst r2
 exact d_stPt1 H r1 e1 hz (evL_ok F e2) (evL_ok F e3) (hR H).one (List.getElem?_eq_some_iff.1 c1).1
theorem stS {α : Type} {t : Fl α} {xs : List α} {p i j : Nat} {cells cells' : List Value} {T' : TypeId} (hR : ∀ {w},Holds w f rs→Rd t (hp w) v xs) (hz : ∀ w,(sizeOf T).run P w = .ok 1 w) (hr : Si rs i (Pt p T' cells) (Pt p T' cells') rs') (hc : Si cells j u v cells') (h : (o.op,evL L x,evL L y,wantL ops L o,o.dst) = (.store T x y,some (.pointer (some ⟨p,j,none⟩)),some v,some true,none)) (k : GO P Q n f s ops rest rs' L) : GO P Q n f s ops (o::rest) rs L:=by
 simp only [Prod.mk.injEq] at h
 obtain ⟨e1,e2,e3,hww⟩:=h
 refine gd0 (v:=undef) (rs':=rs') (fun a w F H=>?_) (by simp only [hww]) k
 obtain ⟨c1,c2⟩:=hc.at;obtain ⟨r1,r2⟩:=hr.at;subst c2;subst r2
 exact d_stPt1 H r1 e1 hz (evL_ok F e2) (evL_ok F e3) (hR H).one (List.getElem?_eq_some_iff.1 c1).1
end
section
variable {α : Type} {t : Fl α} {e : TypeId} {f : Hp} {v : Value} {xs : List α} {w : World} {fm : Fm} {rs : List Res} {i n : Nat}
theorem Own.front (h : (Own t e v xs).ok f) (hn : n ≤ xs.length) : (Own t e (sl v 0 n t.sz) (xs.take n)).ok f ∧ ∀ b, (sl v 0 n t.sz).ownBlock = some b → v.ownBlock = some b := by
  rcases h with ⟨rfl, rfl⟩ | ⟨b, off, c, cells, rfl, hc, hm, hb, hsz, hrow⟩
  · obtain rfl : n = 0 := by simpa using hn
    exact ⟨.inl ⟨rfl, rfl⟩, fun b h => h⟩
  · have hv : sl (.slice (some ⟨b, off, none⟩) xs.length c) 0 n t.sz = .slice (some ⟨b, off, none⟩) n c := by
      simp only [sl, Nat.zero_mul, Nat.sub_zero, Option.map_some]
      split <;> first | rfl | (congr 2; simp [Addr.add])
    rw [hv]
    refine ⟨.inr ⟨b, off, c, cells, by rw [List.length_take, Nat.min_eq_left hn], by rw [List.length_take]; omega, hm, hb, hsz, ?_⟩, fun b' h => h⟩
    rw [List.length_take, Nat.min_eq_left hn, Fl.row_take, ← hrow, List.take_take, Nat.min_eq_left (Nat.mul_le_mul_right _ hn)]
theorem Holds.front (H : Holds w fm rs) (hr : rs[i]? = some (Own t e v xs)) (hn : n≤xs.length) : Holds w fm (rs.set i (Own t e (sl v 0 n t.sz) (xs.take n))):=
 H.chg hr rfl rfl rfl (fun _ _ _=>rfl) _ (fun b hb=>.inl ((Own.front (H.oks _ (mem_get hr)) hn).2 b hb)) (Own.front (H.oks _ (mem_get hr)) hn).1
end
end Sl
end
section
namespace Sl
open RowKit
def ar (k : IntKind) (xs : List Int) : List Value:=xs.map (Value.int k)
theorem ar_len (k : IntKind) (xs : List Int) : (ar k xs).length = xs.length:=List.length_map _
theorem ar_at {k : IntKind} {xs : List Int} {tl : List Value} {i : Nat} (h : i < xs.length) : (ar k xs++tl)[i]? = some (.int k (xs.getD i 0)):=by
 rw [List.getElem?_append_left (by rw [ar_len];exact h)]
 unfold ar;rw [List.getElem?_map,List.getD_eq_getElem?_getD,List.getElem?_eq_getElem h];rfl
theorem ar_tl {k : IntKind} {xs : List Int} {tl : List Value} {m j : Nat} {u : Value} (hm : m = xs.length+j) (h : tl[j]? = some u) : (ar k xs++tl)[m]? = some u:=by
 rw [hm,List.getElem?_append_right (by rw [ar_len];omega),ar_len,Nat.add_sub_cancel_left];exact h
theorem ar_set {k : IntKind} {xs : List Int} {tl : List Value} {i : Nat} (x : Int) (h : i < xs.length) : (ar k xs++tl).set i (.int k x) = ar k (xs.set i x)++tl:=by
 rw [List.set_append_left _ _ (by rw [ar_len];exact h)];congr 1;exact (List.map_set).symm
theorem ar_one (k : IntKind) (xs : List Int) : ∀ u ∈ ar k xs,u.oneCell' = true:=fun u hu=>by
 obtain ⟨x,_,rfl⟩:=List.mem_map.1 hu;rfl
section
variable {P : Program} {ρ : Operand→Value} {o : Oper} {w : World} {x y : Operand} {T T' e : TypeId} {p j n : Nat} {fm : Fm} {rs : List Res} {i : Nat} {k k' : IntKind} {X : Int} {xs ys : List Int} {cells tl : List Value}
theorem x_ixp {off m : Nat} (hop : o.op = .indexAddr T x y) (ht : P.underlying T = some (.array n e)) (hs : ∀ w, (sizeOf e).run P w = .ok 1 w) (hx : ρ x = .pointer (some ⟨p, off, none⟩)) (hy : ρ y = .int k X) (hX : X = (i : Int)) (hi : i < n) (hm : off + i = m) :
    (execOp ρ o).run P w = .ok (.value (.pointer (some ⟨p, m, none⟩))) w := by
  subst hX; subst hm
  have hge : ¬ (n ≤ i) := by omega
  have hlt : (i : Int) < (n : Int) := by omega
  by_cases h0 : i = 0
  · subst h0; simp [execOp, hop, Instr.indexAt, Instr.sureAddr, asIntOf, hx, hy, run_underlying ht, hs, hge, hi, hlt, Addr.add]
  · simp [execOp, hop, Instr.indexAt, Instr.sureAddr, asIntOf, hx, hy, run_underlying ht, hs, hge, hi, hlt, h0, Addr.add]
theorem d_stAr (H : Holds w fm rs) (hr : rs[i]? = some (Pt p T' (ar k xs ++ tl))) (hop : o.op = .store T x y) (hs : ∀ w, (sizeOf T).run P w = .ok 1 w) (hx : ρ x = .pointer (some ⟨p, j, none⟩)) (hy : ρ y = .int k X) (hj : j < xs.length) :
    Does P ρ o w fun v' w' => v' = undef ∧ Holds w' fm (rs.set i (Pt p T' (ar k (xs.set j X) ++ tl))) := by
  have h := d_stPt1 (P := P) H hr hop hs hx hy rfl (by rw [List.length_append, ar_len]; omega)
  rwa [ar_set X hj] at h
theorem d_stTl {m : Nat} {v : Value} (H : Holds w fm rs) (hr : rs[i]? = some (Pt p T' (ar k xs ++ tl))) (hop : o.op = .store T x y) (hs : ∀ w, (sizeOf T).run P w = .ok 1 w) (hx : ρ x = .pointer (some ⟨p, m, none⟩)) (hy : ρ y = v) (h1 : v.oneCell' = true) (hm : m = xs.length + j) (hj : j < tl.length) :
    Does P ρ o w fun v' w' => v' = undef ∧ Holds w' fm (rs.set i (Pt p T' (ar k xs ++ tl.set j v))) := by
  have h := d_stPt1 (P := P) H hr hop hs hx hy h1 (by rw [List.length_append, ar_len]; omega)
  rwa [hm, List.set_append_right _ _ (by rw [ar_len]; omega), ar_len, Nat.add_sub_cancel_left] at h
theorem ar_cells (H : Holds w fm rs) (hr : rs[i]? = some (Pt p T' (ar k xs++tl))) : ∀ j u,(ar k xs)[j]? = some u→w.cell? ((⟨p,0,none⟩ : Addr).add j) = some u:=fun j u hu=>by
 have hj : j < (ar k xs).length:=(List.getElem?_eq_some_iff.1 hu).1
 have h:=H.ptCell hr (j:=j) (u:=u) (by rw [List.getElem?_append_left hj];exact hu)
 have e : (⟨p,0,none⟩ : Addr).add j = ⟨p,j,none⟩:=by cases j <;> simp [Addr.add]
 rw [e];exact h
theorem d_stAl (H : Holds w fm rs) (hr : rs[i]? = some (Pt p T' (ar k xs ++ tl))) (hop : o.op = .store T x y) (hs : ∀ w, (sizeOf T).run P w = .ok ys.length w) (hx : ρ x = .pointer (some ⟨p, 0, none⟩)) (hy : ρ y = .agg (ar k ys).toArray) (hl : ys.length = xs.length) :
    Does P ρ o w fun v' w' => v' = undef ∧ Holds w' fm (rs.set i (Pt p T' (ar k ys ++ tl))) := by
  have hc : (Value.agg (ar k ys).toArray).cells = (ar k ys).toArray := rfl
  refine d_stPt (P := P) (j := 0) H hr hop (by rw [hc]; simpa [ar_len] using hs) hx hy (by rw [hc]; simpa using ar_one k ys) (by rw [hc]; simp [ar_len]; omega) ?_
  rw [hc, List.size_toArray, List.take_zero, List.nil_append, Nat.zero_add, ar_len, hl, ← ar_len k xs, List.drop_left]
end
end Sl
end
section
namespace Sl
open RowKit
section
variable {P : Program} {Q : Exit→Act→World→Prop} {n : Nat} {f : Fm} {rs rs' : List Res} {L : List (Nat × Value)} {s : List Fk} {ops : Array Oper} {o : Oper} {rest : List Oper} {d : Nat} {v u : Value} {x y z : Operand} {T T' U e : TypeId} {N off p j : Nat} {k k' : IntKind} {X : Int} {xs ys : List Int} {tl tl' : List Value}
theorem xpV (i m : Nat) (ht : P.underlying T = some (.array N e)) (hs : ∀ w,(sizeOf e).run P w = .ok 1 w) (h : (o.op,evL L x,evL L y) = (.indexAddr T x y,some (.pointer (some ⟨p,off,none⟩)),some (.int k X))) (hm : off+i = m) (hX : X = (i : Nat)) (hi : i < N) : VS P n f rs L o (.pointer (some ⟨p,m,none⟩)):=by
 simp only [Prod.mk.injEq] at h
 obtain ⟨e1,e2,e3⟩:=h
 exact fun a w F H=>x_ixp e1 ht hs (evL_ok F e2) (evL_ok F e3) hX hi hm
theorem xp (i m : Nat) (ht : P.underlying T = some (.array N e)) (hs : ∀ w,(sizeOf e).run P w = .ok 1 w) (h : (o.op,evL L x,evL L y,wantL ops L o,o.dst,Nat.blt d n) = (.indexAddr T x y,some (.pointer (some ⟨p,off,none⟩)),some (.int k X),some true,some d,true)) (hm : off+i = m) (hX : X = (i : Nat)) (hi : i < N) (K : GO P Q n f s ops rest rs ((d,.pointer (some ⟨p,m,none⟩))::L)) : GO P Q n f s ops (o::rest) rs L:=by
 simp only [Prod.mk.injEq] at h
 obtain ⟨e1,e2,e3,hww⟩:=h
 exact gv (fun a w F H=>x_ixp e1 ht hs (evL_ok F e2) (evL_ok F e3) hX hi hm) (by simp only [hww]) K
theorem ldaV (i : Nat) (hA : ∀ w,(isAgg T).run P w = .ok false w) (h : (o.op,evL L x,nth rs i) = (.load T x,some (.pointer (some ⟨p,j,none⟩)),some (Pt p T' (ar k xs++tl)))) (hj : j < xs.length) : VS P n f rs L o (.int k (xs.getD j 0)):=by
 simp only [Prod.mk.injEq] at h
 obtain ⟨e1,e2,e3⟩:=h
 exact fun a w F H=>x_ld e1 hA (evL_ok F e2) (H.ptCell (i:=i) (j:=j) (by rw [← nth_get];exact e3) (ar_at hj))
theorem lda (i : Nat) (hA : ∀ w,(isAgg T).run P w = .ok false w) (h : (o.op,evL L x,nth rs i,wantL ops L o,o.dst,Nat.blt d n) = (.load T x,some (.pointer (some ⟨p,j,none⟩)),some (Pt p T' (ar k xs++tl)),some true,some d,true)) (hj : j < xs.length) (K : GO P Q n f s ops rest rs ((d,.int k (xs.getD j 0))::L)) : GO P Q n f s ops (o::rest) rs L:=by
 simp only [Prod.mk.injEq] at h
 obtain ⟨e1,e2,e3,hww⟩:=h
 exact gv (ldaV (x:=x) (p:=p) (T':=T') (tl:=tl) i hA (by simp only [e1,e2,e3]) hj) (by simp only [hww]) K
theorem ldtV (i j : Nat) (hA : ∀ w,(isAgg T).run P w = .ok false w) {m : Nat} (h : (o.op,evL L x,nth rs i,nth tl j) = (.load T x,some (.pointer (some ⟨p,m,none⟩)),some (Pt p T' (ar k xs++tl)),some v)) (hm : m = xs.length+j) : VS P n f rs L o v:=by
 simp only [Prod.mk.injEq] at h
 obtain ⟨e1,e2,e3,e4⟩:=h
 exact fun a w F H=>x_ld e1 hA (evL_ok F e2) (H.ptCell (i:=i) (j:=m) (by rw [← nth_get];exact e3) (ar_tl hm (by rw [← nth_get];exact e4)))
theorem ldt (i j : Nat) (hA : ∀ w,(isAgg T).run P w = .ok false w) {m : Nat} (h : (o.op,evL L x,nth rs i,nth tl j,wantL ops L o,o.dst,Nat.blt d n) = (.load T x,some (.pointer (some ⟨p,m,none⟩)),some (Pt p T' (ar k xs++tl)),some v,some true,some d,true)) (hm : m = xs.length+j) (K : GO P Q n f s ops rest rs ((d,v)::L)) : GO P Q n f s ops (o::rest) rs L:=by
 simp only [Prod.mk.injEq] at h
 obtain ⟨e1,e2,e3,e4,hww⟩:=h
 exact gv (ldtV (x:=x) (p:=p) (T':=T') (k:=k) (xs:=xs) (tl:=tl) i j hA (by simp only [e1,e2,e3,e4]) hm) (by simp only [hww]) K
theorem ldwV (i : Nat) (hA : ∀ w,(isAgg T).run P w = .ok true w) (h : (o.op,evL L x,nth rs i) = (.load T x,some (.pointer (some ⟨p,0,none⟩)),some (Pt p T' (ar k xs++tl)))) (hs : ∀ w,(sizeOf T).run P w = .ok N w) (hN : xs.length = N) : VS P n f rs L o (.agg (ar k xs).toArray):=by
 simp only [Prod.mk.injEq] at h
 obtain ⟨e1,e2,e3⟩:=h
 exact fun a w F H=>x_ldA (cs:=ar k xs) e1 hA (by rw [ar_len,hN];exact hs) (evL_ok F e2) (ar_cells (i:=i) H (by rw [← nth_get];exact e3))
theorem ldw (i : Nat) (hA : ∀ w,(isAgg T).run P w = .ok true w) (h : (o.op,evL L x,nth rs i,wantL ops L o,o.dst,Nat.blt d n) = (.load T x,some (.pointer (some ⟨p,0,none⟩)),some (Pt p T' (ar k xs++tl)),some true,some d,true)) (hs : ∀ w,(sizeOf T).run P w = .ok N w) (hN : xs.length = N) (K : GO P Q n f s ops rest rs ((d,.agg (ar k xs).toArray)::L)) : GO P Q n f s ops (o::rest) rs L:=by
 simp only [Prod.mk.injEq] at h
 obtain ⟨e1,e2,e3,hww⟩:=h
 exact gv (ldwV (x:=x) (p:=p) (T':=T') (tl:=tl) i hA (by simp only [e1,e2,e3]) hs hN) (by simp only [hww]) K
theorem sdaD {i : Nat} (hz : ∀ w,(sizeOf T).run P w = .ok 1 w) (hr : Si rs i (Pt p T' (ar k xs++tl)) (Pt p T' (ar k (xs.set j X)++tl)) rs') (h : (o.op,evL L x,evL L y) = (.store T x y,some (.pointer (some ⟨p,j,none⟩)),some (.int k X))) (hj : j < xs.length) : DS P n f rs L o undef rs':=by
 simp only [Prod.mk.injEq] at h
 obtain ⟨e1,e2,e3⟩:=h
 intro a w F H
 obtain ⟨r1,r2⟩:=hr.at;subst r2
 exact d_stAr H r1 e1 hz (evL_ok F e2) (evL_ok F e3) hj
theorem sda {i : Nat} (hz : ∀ w,(sizeOf T).run P w = .ok 1 w) (hr : Si rs i (Pt p T' (ar k xs++tl)) (Pt p T' (ar k (xs.set j X)++tl)) rs') (h : (o.op,evL L x,evL L y,wantL ops L o,o.dst) = (.store T x y,some (.pointer (some ⟨p,j,none⟩)),some (.int k X),some true,none)) (hj : j < xs.length) (K : GO P Q n f s ops rest rs' L) : GO P Q n f s ops (o::rest) rs L:=by
 simp only [Prod.mk.injEq] at h
 obtain ⟨e1,e2,e3,hww⟩:=h
 exact gd0 (v:=undef) (rs':=rs') (sdaD (x:=x) (y:=y) hz hr (by simp only [e1,e2,e3]) hj) (by simp only [hww]) K
theorem sdwD {i : Nat} (hz : ∀ w,(sizeOf T).run P w = .ok N w) (hr : Si rs i (Pt p T' (ar k xs++tl)) (Pt p T' (ar k ys++tl)) rs') (h : (o.op,evL L x,evL L y) = (.store T x y,some (.pointer (some ⟨p,0,none⟩)),some (.agg (ar k ys).toArray))) (hN : ys.length = N) (hl : ys.length = xs.length) : DS P n f rs L o undef rs':=by
 simp only [Prod.mk.injEq] at h
 obtain ⟨e1,e2,e3⟩:=h
 intro a w F H
 obtain ⟨r1,r2⟩:=hr.at;subst r2
 exact d_stAl H r1 e1 (by rw [hN];exact hz) (evL_ok F e2) (evL_ok F e3) hl
theorem sdw {i : Nat} (hz : ∀ w,(sizeOf T).run P w = .ok N w) (hr : Si rs i (Pt p T' (ar k xs++tl)) (Pt p T' (ar k ys++tl)) rs') (h : (o.op,evL L x,evL L y,wantL ops L o,o.dst) = (.store T x y,some (.pointer (some ⟨p,0,none⟩)),some (.agg (ar k ys).toArray),some true,none)) (hN : ys.length = N) (hl : ys.length = xs.length) (K : GO P Q n f s ops rest rs' L) : GO P Q n f s ops (o::rest) rs L:=by
 simp only [Prod.mk.injEq] at h
 obtain ⟨e1,e2,e3,hww⟩:=h
 exact gd0 (v:=undef) (rs':=rs') (sdwD (x:=x) (y:=y) hz hr (by simp only [e1,e2,e3]) hN hl) (by simp only [hww]) K
theorem sdtD {i j m : Nat} (hz : ∀ w,(sizeOf T).run P w = .ok 1 w) (hr : Si rs i (Pt p T' (ar k xs++tl)) (Pt p T' (ar k xs++tl')) rs') (hc : Si tl j u v tl') (h : (o.op,evL L x,evL L y) = (.store T x y,some (.pointer (some ⟨p,m,none⟩)),some v)) (h1 : ∀ {w},Holds w f rs→v.oneCell' = true) (hm : m = xs.length+j) : DS P n f rs L o undef rs':=by
 simp only [Prod.mk.injEq] at h
 obtain ⟨e1,e2,e3⟩:=h
 intro a w F H
 obtain ⟨r1,r2⟩:=hr.at;obtain ⟨c1,c2⟩:=hc.at;subst r2;subst c2
 exact d_stTl H r1 e1 hz (evL_ok F e2) (evL_ok F e3) (h1 H) hm (List.getElem?_eq_some_iff.1 c1).1
theorem sdt {i j m : Nat} (hz : ∀ w,(sizeOf T).run P w = .ok 1 w) (hr : Si rs i (Pt p T' (ar k xs++tl)) (Pt p T' (ar k xs++tl')) rs') (hc : Si tl j u v tl') (h : (o.op,evL L x,evL L y,wantL ops L o,o.dst) = (.store T x y,some (.pointer (some ⟨p,m,none⟩)),some v,some true,none)) (h1 : ∀ {w},Holds w f rs→v.oneCell' = true) (hm : m = xs.length+j) (K : GO P Q n f s ops rest rs' L) : GO P Q n f s ops (o::rest) rs L:=by
 simp only [Prod.mk.injEq] at h
 obtain ⟨e1,e2,e3,hww⟩:=h
 exact gd0 (v:=undef) (rs':=rs') (sdtD (x:=x) (y:=y) hz hr hc (by simp only [e1,e2,e3]) h1 hm) (by simp only [hww]) K
theorem Kp.hd {f1 : Fm} {r : Res} {rem : List Res} (h : Kp f1 (r::rem)) : r.ok f1.hp:=h _ List.mem_cons_self
theorem fz {h : Hd} {rin rem : List Res} (hsp : Sp rs rin rem) (K : ∀ f1,f.le f1→Bk f f1 rem→Kp f1 rem→GH P Q n f1 h rin L) : GH P Q n f h rs L:=fun a w F H=>by
 obtain ⟨f1,le,Hc,ho,hb⟩:=Holds.split rin rem (H.perm hsp.perm)
 exact K f1 le hb ho a w F Hc
theorem uz {h : Hd} {f1 : Fm} {rem rs2 : List Res} (b : Bk f f1 rem) (e : rs++rem = rs2) (K : GH P Q n f h rs2 L) : GH P Q n f1 h rs L:=fun a w F H=>K a w F (by subst e;exact b _ _ H)
theorem lfV {cells : List Value} (hz : (Pt p T' cells).ok f.hp) (hA : ∀ w,(isAgg T).run P w = .ok false w) (h : (o.op,evL L x,nth cells j) = (.load T x,some (.pointer (some ⟨p,j,none⟩)),some v)) : VS P n f rs L o v:=by
 simp only [Prod.mk.injEq] at h
 obtain ⟨e1,e2,e3⟩:=h
 intro a w F H
 refine x_ld e1 hA (evL_ok F e2) ?_
 refine H.kept.cell (a:=⟨p,j,none⟩) ?_
 have hp' : f.hp p = some (.cells cells.toArray T' (0,0)):=hz
 rw [nth_get] at e3
 unfold Hp.cell
 simp only [hp']
 simp [e3]
theorem lfaV (hz : (Pt p T' (ar k xs++tl)).ok f.hp) (hA : ∀ w,(isAgg T).run P w = .ok false w) (h : (o.op,evL L x) = (.load T x,some (.pointer (some ⟨p,j,none⟩)))) (hj : j < xs.length) : VS P n f rs L o (.int k (xs.getD j 0)):=by
 simp only [Prod.mk.injEq] at h
 exact lfV (x:=x) (p:=p) (j:=j) (T':=T') (cells:=ar k xs++tl) hz hA (by rw [h.1,h.2,nth_get,ar_at hj])
theorem noE {α : Type} (t : Fl α) (e : TypeId) (xs : List α) (hx : xs = []) {l : List Oper} (K : GO P Q n f s ops l (Own t e (.slice none 0 0) xs::rs) L) : GO P Q n f s ops l rs L:=fun a w F H=>K a w F (by subst hx;exact H.nilOwn t e)
theorem aLa (cs : List Value) {z0 : Value} (hz : ∀ w,(zeroValue T).run P w = .ok z0 w) (he : z0.cells.toList = cs) (h : (o.op,wantL ops L o,o.dst,Nat.blt d n) = (.alloc T,some true,some d,true)) (K : ∀ p,GO P Q n f s ops rest (Pt p T cs::rs) ((d,.pointer (some ⟨p,0,none⟩))::L)) : GO P Q n f s ops (o::rest) rs L:=by
 subst he;exact aL hz h K
theorem bxc (cs : List Value) (he : v.cells.toList = cs) (h : (o.op,evL L x,wantL ops L o,o.dst,Nat.blt d n) = (.box T x,some v,some true,some d,true)) (K : ∀ p,GO P Q n f s ops rest (Pt p T cs::rs) ((d,.pointer (some ⟨p,0,none⟩))::L)) : GO P Q n f s ops (o::rest) rs L:=by
 subst he;exact bx h K
theorem bxa (h : (o.op,evL L x,wantL ops L o,o.dst,Nat.blt d n) = (.box T x,some (.agg (ar k xs).toArray),some true,some d,true)) (K : ∀ p,GO P Q n f s ops rest (Pt p T (ar k xs++[])::rs) ((d,.pointer (some ⟨p,0,none⟩))::L)) : GO P Q n f s ops (o::rest) rs L:=bxc _ (List.append_nil _).symm h K
end
end Sl
end
section
namespace Sha
open RowKit Sl
def val : List Int→Int
 | []=>0
 | d::l=>d+65536 * val l
def Dg (l : List Int) : Prop:=∀ d ∈ l,0≤d∧d < 65536
theorem Dg.at {l : List Int} (h : Dg l) (i : Nat) : 0≤l.getD i 0∧l.getD i 0 < 65536:=by
 by_cases hi : i < l.length
 ·
  exact h _ (mem_getD hi)
 ·
  rw [List.getD_eq_getElem?_getD,List.getElem?_eq_none (by omega)];simp
theorem Dg.nil : Dg []:=fun d h=>(List.not_mem_nil h).elim
theorem Dg.add {l : List Int} {d : Int} (h : Dg l) (hd : 0≤d∧d < 65536) : Dg (l++[d]):=fun x hx=>by
 rcases List.mem_append.1 hx with hx | hx
 ·
  exact h x hx
 ·
  obtain rfl : x = d:=by simpa using hx
  exact hd
theorem Dg.cons {l : List Int} {d : Int} (h : Dg l) (hd : 0≤d∧d < 65536) : Dg (d::l):=fun x hx=>by
 rcases List.mem_cons.1 hx with rfl | hx
 ·
  exact hd
 ·
  exact h x hx
def stepP (out : List Int) (x : Int) : List Int:=if out.all (fun q=>decide (x % q ≠ 0)) then out++[x] else out
def pf : Nat→List Int
 | 0=>[]
 | k+1=>stepP (pf k) ((k : Int)+2)
def PL : List Int:=pf 310
def keysL : List Int:=[0x428a2f98,0x71374491,0xb5c0fbcf,0xe9b5dba5,0x3956c25b,0x59f111f1,0x923f82a4,0xab1c5ed5,0xd807aa98,0x12835b01,0x243185be,0x550c7dc3,0x72be5d74,0x80deb1fe,0x9bdc06a7,0xc19bf174,0xe49b69c1,0xefbe4786,0x0fc19dc6,0x240ca1cc,0x2de92c6f,0x4a7484aa,0x5cb0a9dc,0x76f988da,0x983e5152,0xa831c66d,0xb00327c8,0xbf597fc7,0xc6e00bf3,0xd5a79147,0x06ca6351,0x14292967,0x27b70a85,0x2e1b2138,0x4d2c6dfc,0x53380d13,0x650a7354,0x766a0abb,0x81c2c92e,0x92722c85,0xa2bfe8a1,0xa81a664b,0xc24b8b70,0xc76c51a3,0xd192e819,0xd6990624,0xf40e3585,0x106aa070,0x19a4c116,0x1e376c08,0x2748774c,0x34b0bcb5,0x391c0cb3,0x4ed8aa4a,0x5b9cca4f,0x682e6ff3,0x748f82ee,0x78a5636f,0x84c87814,0x8cc70208,0x90befffa,0xa4506ceb,0xbef9a3f7,0xc67178f2]
def beginL : List Int:=[0x6a09e667,0xbb67ae85,0x3c6ef372,0xa54ff53a,0x510e527f,0x9b05688c,0x1f83d9ab,0x5be0cd19]
def full (P : Int) (k : Nat) (r : Int) : Int:=(((List.range 16).map fun (j : Nat)=>(j : Int) * 4294967296+r).find? fun a=>decide (a ^ k≤P∧P < (a+1) ^ k)).getD (-1)
def okR (p r : Int) (k : Nat) : Bool:=let P:=p * 4294967296 ^ k;let a:=full P k r;decide (0≤a∧a ^ k≤P∧P < (a+1) ^ k∧a % 4294967296 = r)
end Sha
end
section
namespace Sha
open RowKit Sl
abbrev M32 : Int:=4294967296
def trn (x : Int) : Nat→Int
 | 0=>x
 | n+1=>trn x n / 2+trn x n % 2 * 2147483648
def shf (x : Int) : Nat→Int
 | 0=>x
 | n+1=>shf x n / 2
def W32 (x : Int) : Prop:=0≤x∧x < 4294967296
theorem mod_w (x : Int) : W32 (x % 4294967296):=by unfold W32;omega
def be4 (l : List Int) (j : Nat) : Nat→Int
 | 0=>0
 | k+1=>be4 l j k * 256+l.getD (j+k) 0
def sg0 (p : Int) : Int:=bits .xor .u32 (bits .xor .u32 (trn p 7) (trn p 18)) (shf p 3)
def sg1 (q : Int) : Int:=bits .xor .u32 (bits .xor .u32 (trn q 17) (trn q 19)) (shf q 10)
def nw (w : List Int) (i : Nat) : Int:=(((w.getD (i - 16) 0+sg0 (w.getD (i - 15) 0)) % 4294967296+w.getD (i - 7) 0) % 4294967296+sg1 (w.getD (i - 2) 0)) % 4294967296
def wds (l : List Int) (at_ : Nat) : Nat→List Int
 | 0=>[]
 | i+1=>wds l at_ i++[if i < 16 then be4 l (at_+4 * i) 4 else nw (wds l at_ i) i]
theorem wds_len (l : List Int) (a : Nat) : ∀ i,(wds l a i).length = i
 | 0=>rfl
 | i+1=>by rw [wds,List.length_append,wds_len l a i];rfl
structure St8 where
 a : Int
 b : Int
 c : Int
 d : Int
 e : Int
 f : Int
 g : Int
 h : Int
def eg1 (e : Int) : Int:=bits .xor .u32 (bits .xor .u32 (trn e 6) (trn e 11)) (trn e 25)
def eg0 (a : Int) : Int:=bits .xor .u32 (bits .xor .u32 (trn a 2) (trn a 13)) (trn a 22)
def chf (e f g : Int) : Int:=bits .or .u32 (bits .and .u32 e f) (bits .and .u32 (4294967295 - e) g)
def mjf (a b c : Int) : Int:=bits .or .u32 (bits .or .u32 (bits .and .u32 a b) (bits .and .u32 a c)) (bits .and .u32 b c)
def tmp1 (s : St8) (k w : Int) : Int:=((((s.h+eg1 s.e) % 4294967296+chf s.e s.f s.g) % 4294967296+k) % 4294967296+w) % 4294967296
def tmp2 (s : St8) : Int:=(eg0 s.a+mjf s.a s.b s.c) % 4294967296
def rnd (s : St8) (k w : Int) : St8:=⟨(tmp1 s k w+tmp2 s) % 4294967296,s.a,s.b,s.c,(s.d+tmp1 s k w) % 4294967296,s.e,s.f,s.g⟩
def rds (s : St8) (ks ws : List Int) : Nat→St8
 | 0=>s
 | i+1=>rnd (rds s ks ws i) (ks.getD i 0) (ws.getD i 0)
def ofL (s : List Int) : St8:=⟨s.getD 0 0,s.getD 1 0,s.getD 2 0,s.getD 3 0,s.getD 4 0,s.getD 5 0,s.getD 6 0,s.getD 7 0⟩
def plus (s : List Int) (v : St8) : List Int:=[(s.getD 0 0+v.a) % 4294967296,(s.getD 1 0+v.b) % 4294967296,(s.getD 2 0+v.c) % 4294967296,(s.getD 3 0+v.d) % 4294967296,(s.getD 4 0+v.e) % 4294967296,(s.getD 5 0+v.f) % 4294967296,(s.getD 6 0+v.g) % 4294967296,(s.getD 7 0+v.h) % 4294967296]
def blk (ks l s : List Int) (a : Nat) : List Int:=plus s (rds (ofL s) ks (wds l a 64) 64)
def blks (ks l s : List Int) : Nat→List Int
 | 0=>s
 | n+1=>blk ks l (blks ks l s n) (64 * n)
def zz (n : Nat) : Nat:=(119 - n % 64) % 64
def be8 (n : Int) : Nat→List Int
 | 0=>[]
 | j+1=>be8 n j++[n / 2 ^ (8 * (7 - j)) % 256]
theorem be8_len (n : Int) : ∀ j,(be8 n j).length = j
 | 0=>rfl
 | j+1=>by rw [be8,List.length_append,be8_len n j];rfl
def padz (b : List Int) (z : Nat) : List Int:=b++[128]++List.replicate z 0
theorem padz_len (b : List Int) (z : Nat) : (padz b z).length = b.length+1+z:=by unfold padz;simp;omega
theorem padz_step (b : List Int) (z : Nat) : padz b z++[0] = padz b (z+1):=by unfold padz;rw [List.replicate_succ',← List.append_assoc]
def padL (b : List Int) : List Int:=padz b (zz b.length)++be8 ((b.length : Int) * 8) 8
def outs (s : List Int) : Nat→List Int
 | 0=>[]
 | i+1=>outs s i++[s.getD (i / 4) 0 / 2 ^ (24 - 8 * (i % 4)) % 256]
theorem outs_len (s : List Int) : ∀ i,(outs s i).length = i
 | 0=>rfl
 | i+1=>by rw [outs,List.length_append,outs_len s i];rfl
def hashL (ks s b : List Int) : List Int:=outs (blks ks (padL b) s ((padL b).length / 64)) 32
theorem outs_step {s : List Int} {i : Nat} (h : i < 32) : (outs s i++List.replicate (32 - i) (0 : Int)).set i (s.getD (i / 4) 0 / 2 ^ (24 - 8 * (i % 4)) % 256) = outs s (i+1)++List.replicate (32 - (i+1)) 0:=by
 rw [List.set_append_right _ _ (by rw [outs_len];exact Nat.le_refl _),outs_len,Nat.sub_self,show 32 - i = (32 - (i+1))+1 by omega,List.replicate_succ,List.set_cons_zero,outs,List.append_assoc]
 rfl
theorem getD_w {l : List Int} (h : ∀ x ∈ l,W32 x) (i : Nat) : W32 (l.getD i 0):=by
 by_cases hi : i < l.length
 ·
  exact h _ (mem_getD hi)
 ·
  rw [List.getD_eq_getElem?_getD,List.getElem?_eq_none (by omega)];unfold W32;simp
def By (l : List Int) : Prop:=∀ x ∈ l,0≤x∧x < 256
theorem By.at {l : List Int} (h : By l) (i : Nat) : 0≤l.getD i 0∧l.getD i 0 < 256:=by
 by_cases hi : i < l.length
 ·
  exact h _ (mem_getD hi)
 ·
  rw [List.getD_eq_getElem?_getD,List.getElem?_eq_none (by omega)];simp
theorem be4_rng {l : List Int} (h : By l) (j : Nat) : ∀ k,0≤be4 l j k∧be4 l j k < 256 ^ k
 | 0=>by simp [be4]
 | k+1=>by
  have ih:=be4_rng h j k;have hb:=h.at (j+k)
  simp only [be4,Int.pow_succ];omega
theorem wds_w {l : List Int} (h : By l) (a : Nat) : ∀ i,∀ x ∈ wds l a i,W32 x
 | 0,x,hx=>(List.not_mem_nil hx).elim
 | i+1,x,hx=>by
  simp only [wds] at hx
  rcases List.mem_append.1 hx with hx | hx
  ·
   exact wds_w h a i x hx
  ·
   rw [List.mem_singleton] at hx
   rw [hx]
   split
   ·
    have:=be4_rng h (a+4 * i) 4;unfold W32;omega
   ·
    exact mod_w _
theorem begin_w : ∀ x ∈ beginL,W32 x:=fun x hx=>by
 have h : beginL.all (fun x=>decide (0≤x∧x < 4294967296)) = true:=by decide +kernel
 have h2 : 0≤x∧x < 4294967296:=of_decide_eq_true (List.all_eq_true.1 h x hx)
 exact h2
structure W8 (s : St8) : Prop where
 a : W32 s.a
 b : W32 s.b
 c : W32 s.c
 d : W32 s.d
 e : W32 s.e
 f : W32 s.f
 g : W32 s.g
 h : W32 s.h
theorem W8.rnd {s : St8} (h : W8 s) (k w : Int) : W8 (rnd s k w):=⟨mod_w _,h.a,h.b,h.c,mod_w _,h.e,h.f,h.g⟩
theorem W8.rds {s : St8} (h : W8 s) (ks ws : List Int) : ∀ i,W8 (rds s ks ws i)
 | 0=>h
 | i+1=>(W8.rds h ks ws i).rnd _ _
theorem W8.ofL {s : List Int} (h : ∀ x ∈ s,W32 x) : W8 (ofL s):=⟨getD_w h 0,getD_w h 1,getD_w h 2,getD_w h 3,getD_w h 4,getD_w h 5,getD_w h 6,getD_w h 7⟩
theorem plus_w (s : List Int) (v : St8) : ∀ x ∈ plus s v,W32 x:=fun x hx=>by
 simp only [plus,List.mem_cons,List.not_mem_nil,or_false] at hx
 rcases hx with rfl | rfl | rfl | rfl | rfl | rfl | rfl | rfl <;> exact mod_w _
theorem blks_w {ks l s : List Int} (h : ∀ x ∈ s,W32 x) : ∀ n,∀ x ∈ blks ks l s n,W32 x
 | 0=>h
 | n+1=>plus_w _ _
theorem blks_len {ks l s : List Int} (h : s.length = 8) : ∀ n,(blks ks l s n).length = 8
 | 0=>h
 | n+1=>rfl
theorem padL_by {b : List Int} (h : By b) : By (padL b) := fun x hx => by
  unfold padL padz at hx
  simp only [List.mem_append, List.mem_singleton, List.mem_replicate] at hx
  rcases hx with ((hx | rfl) | ⟨_, rfl⟩) | hx
  · exact h x hx
  · decide
  · decide
  · have : ∀ (n : Int) (j : Nat), ∀ x ∈ be8 n j, 0 ≤ x ∧ x < 256 := fun n j => by
      induction j with
      | zero => intro x hx; exact (List.not_mem_nil hx).elim
      | succ j ih =>
        intro x hx
        simp only [be8] at hx
        rcases List.mem_append.1 hx with hx | hx
        · exact ih x hx
        · rw [List.mem_singleton] at hx; omega
    exact this _ _ x hx
end Sha
end
section
namespace Sha
open RowKit Sl
theorem half_mod (x P : Int) (hP : 0 < P) : x / (2 * P) = x / P / 2∧x % (2 * P) = x % P+P * (x / P % 2):=by
 have h0 : x / (2 * P) = x / P / 2:=by rw [Int.mul_comm,Int.ediv_ediv_of_nonneg (by omega)]
 refine ⟨h0,?_⟩
 have h1 : x = P * (x / P)+x % P:=(Int.mul_ediv_add_emod x P).symm
 have h2 : P * (x / P) = 2 * (P * (x / P / 2))+P * (x / P % 2):=by
  rw [← Int.mul_assoc,Int.mul_comm 2 P,Int.mul_assoc,← Int.mul_add,Int.mul_ediv_add_emod]
 have h3 : x % (2 * P) = x - 2 * (P * (x / P / 2)):=by rw [Int.emod_def,h0,Int.mul_assoc]
 omega
theorem trn_eq (x : Int) : ∀ {n : Nat},n≤32→trn x n = x / 2 ^ n+x % 2 ^ n * 2 ^ (32 - n)
 | 0,_=>by simp [trn]
 | n+1,hn=>by
  have ih:=trn_eq x (n:=n) (by omega)
  simp only [trn];rw [ih]
  have e1 : (2 : Int) ^ (32 - n) = 2 * 2 ^ (32 - (n+1)):=by rw [show 32 - n = (32 - (n+1))+1 by omega,Int.pow_succ];omega
  have e2 : (2 : Int) ^ (n+1) = 2 * 2 ^ n:=by rw [Int.pow_succ];omega
  have e3 : (2147483648 : Int) = 2 ^ n * 2 ^ (32 - (n+1)):=by rw [← Int.pow_add,show n+(32 - (n+1)) = 31 by omega];rfl
  have hp : (0 : Int) < 2 ^ n:=Int.pow_pos (by decide)
  obtain ⟨h1,h2⟩:=half_mod x (2 ^ n) hp
  rw [e2,h1,h2,e1,e3]
  generalize (2 : Int) ^ (32 - (n+1)) = Q at *
  generalize (2 : Int) ^ n = P at *
  have a1 : x % P * (2 * Q) = 2 * (x % P * Q):=by rw [← Int.mul_assoc,Int.mul_comm (x % P) 2,Int.mul_assoc]
  have a2 : (x % P+P * (x / P % 2)) * Q = x % P * Q+x / P % 2 * (P * Q):=by rw [Int.add_mul,Int.mul_comm P (x / P % 2),Int.mul_assoc]
  rw [a1,a2]
  have a3 : (x / P+2 * (x % P * Q)) / 2 = x / P / 2+x % P * Q:=by omega
  have a4 : (x / P+2 * (x % P * Q)) % 2 = x / P % 2:=by omega
  rw [a3,a4,Int.add_assoc]
theorem bits_nn (op : BinOp) (x y : Int) : bits op .u32 x y = ((match op with
    | .and => BitVec.ofInt 32 x &&& BitVec.ofInt 32 y
    | .or => BitVec.ofInt 32 x ||| BitVec.ofInt 32 y
    | .xor => BitVec.ofInt 32 x ^^^ BitVec.ofInt 32 y
    | _ => BitVec.ofInt 32 x &&& ~~~ BitVec.ofInt 32 y).toNat : Int) := by
  show IntKind.u32.wrap _ = _
  rw [wm_u32]
  refine Int.emod_eq_of_lt (Int.natCast_nonneg _) ?_
  have := BitVec.isLt (match op with
    | .and => BitVec.ofInt 32 x &&& BitVec.ofInt 32 y
    | .or => BitVec.ofInt 32 x ||| BitVec.ofInt 32 y
    | .xor => BitVec.ofInt 32 x ^^^ BitVec.ofInt 32 y
    | _ => BitVec.ofInt 32 x &&& ~~~ BitVec.ofInt 32 y)
  exact Int.ofNat_lt.2 this
theorem bv_nat (b : BitVec 32) : BitVec.ofInt 32 ((b.toNat : Nat) : Int) = b:=by simp
theorem bv_not {e : Int} (h : W32 e) : BitVec.ofInt 32 (4294967295 - e) = ~~~ BitVec.ofInt 32 e:=by
 unfold W32 at h
 apply BitVec.eq_of_toNat_eq
 rw [BitVec.toNat_not,BitVec.toNat_ofInt,BitVec.toNat_ofInt]
 omega
theorem ch_xor {e f g : Int} (h : W32 e) : bits .xor .u32 (bits .and .u32 e f) (bits .and .u32 (4294967295 - e) g) = chf e f g:=by
 unfold chf
 simp only [bits_nn,bv_nat,bv_not h]
 congr 2
 apply BitVec.eq_of_getLsbD_eq
 intro i hi
 simp only [BitVec.getLsbD_xor,BitVec.getLsbD_or,BitVec.getLsbD_and,BitVec.getLsbD_not,hi,decide_true,Bool.true_and]
 cases (BitVec.ofInt 32 e).getLsbD i <;> simp
theorem mj_xor (a b c : Int) : bits .xor .u32 (bits .xor .u32 (bits .and .u32 a b) (bits .and .u32 a c)) (bits .and .u32 b c) = mjf a b c:=by
 unfold mjf
 simp only [bits_nn,bv_nat]
 congr 2
 apply BitVec.eq_of_getLsbD_eq
 intro i hi
 simp only [BitVec.getLsbD_xor,BitVec.getLsbD_or,BitVec.getLsbD_and]
 cases (BitVec.ofInt 32 a).getLsbD i <;> cases (BitVec.ofInt 32 b).getLsbD i <;> cases (BitVec.ofInt 32 c).getLsbD i <;> rfl
theorem or_sum {a b : Int} {k : Nat} (hk : k≤32) (ha : 0≤a∧a * 2 ^ k < 4294967296) (hb : 0≤b∧b < 2 ^ k) : bits .or .u32 (a * 2 ^ k) b = a * 2 ^ k+b:=by
 obtain ⟨m,rfl⟩:=Int.eq_ofNat_of_zero_le ha.1
 obtain ⟨n,rfl⟩:=Int.eq_ofNat_of_zero_le hb.1
 have hp : (2 : Int) ^ k = ((2 ^ k : Nat) : Int):=(Int.natCast_pow 2 k).symm
 rw [hp] at ha hb ⊢
 have h1 : m * 2 ^ k < 4294967296:=Int.ofNat_lt.1 (by rw [Int.natCast_mul];exact ha.2)
 have h2 : n < 2 ^ k:=Int.ofNat_lt.1 hb.2
 have h3 : (2 : Nat) ^ k≤2 ^ 32:=Nat.pow_le_pow_right (by decide) hk
 rw [bits_nn]
 simp only [BitVec.toNat_or,BitVec.toNat_ofInt]
 have e1 : ((((m : Nat) : Int) * ((2 ^ k : Nat) : Int)) % ((2 ^ 32 : Nat) : Int)).toNat = m * 2 ^ k:=by
  rw [← Int.natCast_mul,← Int.natCast_emod,Int.toNat_natCast,Nat.mod_eq_of_lt h1]
 have e2 : (((n : Nat) : Int) % ((2 ^ 32 : Nat) : Int)).toNat = n:=by
  rw [← Int.natCast_emod,Int.toNat_natCast,Nat.mod_eq_of_lt (by omega)]
 rw [e1,e2,Nat.mul_comm,← Nat.two_pow_add_eq_or_of_lt h2,Nat.mul_comm,Int.natCast_add,Int.natCast_mul]
theorem rot_trn {x : Int} (h : W32 x) {n : Nat} (h1 : 1≤n) (hn : n≤31) : bits .or .u32 ((x * 2 ^ (32 - n)) % 4294967296) (x / 2 ^ n) = trn x n:=by
 unfold W32 at h
 have hp : (0 : Int) < 2 ^ n:=Int.pow_pos (by decide)
 have hq : (0 : Int) < 2 ^ (32 - n):=Int.pow_pos (by decide)
 have e3 : (4294967296 : Int) = 2 ^ n * 2 ^ (32 - n):=by rw [← Int.pow_add,show n+(32 - n) = 32 by omega];rfl
 have e : (x * 2 ^ (32 - n)) % 4294967296 = x % 2 ^ n * 2 ^ (32 - n):=by rw [e3,Int.mul_comm x,Int.mul_comm (2 ^ n),Int.mul_emod_mul_of_pos _ _ hq,Int.mul_comm]
 have hm:=Int.emod_lt_of_pos x hp
 have hm0:=Int.emod_nonneg x (show (2 : Int) ^ n ≠ 0 by omega)
 rw [trn_eq x (by omega),e,Int.add_comm]
 refine or_sum (by omega) ⟨hm0,?_⟩ ⟨Int.ediv_nonneg h.1 (by omega),?_⟩
 ·
  rw [e3];exact Int.mul_lt_mul_of_pos_right hm hq
 ·
  refine Int.ediv_lt_of_lt_mul hp ?_
  rw [Int.mul_comm,← e3];exact h.2
end Sha
end
section
namespace Sha
open RowKit Sl
def magicL : List Int:=[133,111,74,131]
def orderL : List Int:=[16,17,18,0,8,7,9,6,10,5,11,4,12,3,13,2,14,1,15]
def lenL : List (Int × Int):=[(3,0),(4,0),(5,0),(6,0),(7,0),(8,0),(9,0),(10,0),(11,1),(13,1),(15,1),(17,1),(19,2),(23,2),(27,2),(31,2),(35,3),(43,3),(51,3),(59,3),(67,4),(83,4),(99,4),(115,4),(131,5),(163,5),(195,5),(227,5),(258,0)]
def dstL : List (Int × Int):=[(1,0),(2,0),(3,0),(4,0),(5,1),(7,1),(9,2),(13,2),(17,3),(25,3),(33,4),(49,4),(65,5),(97,5),(129,6),(193,6),(257,7),(385,7),(513,8),(769,8),(1025,9),(1537,9),(2049,10),(3073,10),(4097,11),(6145,11),(8193,12),(12289,12),(16385,13),(24577,13)]
def two (l : List (Int × Int)) : List Int:=l.flatMap fun x=>[x.1,x.2]
def Gv (h : Hp) (v : Nat) (cs : List Value) : Prop:=∀ j u,cs[j]? = some u→h.cell ((⟨v,0,none⟩ : Addr).add j) = some u
structure GL (h : Hp) : Prop where
 gm : Gv h 0 (ar .u8 magicL)
 go : Gv h 1 (ar .i64 orderL)
 g0 : Gv h 2 (ar .u32 beginL)
 g1 : Gv h 3 (ar .u32 keysL)
 gl : Gv h 4 (ar .i64 (two lenL))
 gd : Gv h 5 (ar .i64 (two dstL))
theorem Gv.mono {g h : Hp} {v : Nat} {cs : List Value} (G : Gv g v cs) (hl : g.le h) : Gv h v cs:=fun j u e=>hl.cell (G j u e)
theorem GL.mono {g h : Hp} (G : GL g) (hl : g.le h) : GL h:=⟨G.gm.mono hl,G.go.mono hl,G.g0.mono hl,G.g1.mono hl,G.gl.mono hl,G.gd.mono hl⟩
theorem Gv.num {w : World} {v i : Nat} {k : IntKind} {xs : List Int} (G : Gv (hp w) v (ar k xs)) (hi : i < xs.length) : w.cell? ⟨v,i,none⟩ = some (.int k (xs.getD i 0)):=by
 have h:=G i _ (by have:=ar_at (k:=k) (xs:=xs) (tl:=[]) (i:=i) hi;rw [List.append_nil] at this;exact this)
 have e : (⟨v,0,none⟩ : Addr).add i = ⟨v,i,none⟩:=by cases i <;> simp [Addr.add]
 rw [e] at h;exact h
theorem GL.key {w : World} {i : Nat} (G : GL (hp w)) (hi : i < 64) : w.cell? ⟨3,i,none⟩ = some (.int .u32 (keysL.getD i 0)):=G.g1.num (by exact hi)
end Sha
end
end Go.Proofs.YtgphajeagfgmmaaGreatDoor
