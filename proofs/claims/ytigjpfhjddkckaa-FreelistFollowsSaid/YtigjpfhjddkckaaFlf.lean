/- strongtxlaw11: the machines of FreelistFollows: of the program and of the reference side by side. -/
import Derived.Test.YtigjpfhjddkckaaFlk2
namespace Go.Proofs.Ytigjpfhjddkckaa
open Go.RowKit
set_option linter.unusedVariables false

inductive FM3 where
  | idle
  | pop (m : PM) (g : Nat)
  | push (q : QM) (g : Nat)
def FM3.p : FM3 → Option PM
  | .pop m _ => some m
  | _ => none
def FM3.q : FM3 → Option QM
  | .push q _ => some q
  | _ => none
def pv (g : Nat) : Value := .pointer (some ⟨g, 0, none⟩)
def FM3.c : FM3 → Nat → Value
  | .pop m _, 0 => pv m.g
  | .pop _ g, 2 => pv g
  | .push q _, 1 => pv q.g
  | .push _ g, 3 => pv g
  | _, _ => .pointer none
def rpm (m : PM) (g : Nat) : PM := { m with g := g }
def rqm (q : QM) (g : Nat) : QM := { q with g := g }
def FM3.o : FM3 → Asr
  | .idle => Asr.emp
  | .pop m g => pmA m * rpA (rpm m g)
  | .push q g => qmA q * rqA (rqm q g)
def msF (ms : List FM3) (i : Nat) : Value := (ms.getD (i / 4) .idle).c (i % 4)
def updF (F : Nat → Value) (i : Nat) (u : Value) : Nat → Value := fun j => if j = i then u else F j
def blkF (gm : Nat) (F : Nat → Value) : Asr := blkA 40 gm ((List.range 16).map F).toArray
def MS (gm : Nat) (ms : List FM3) : Asr := blkF gm (msF ms) * objs FM3.o ms
def MH (gm : Nat) (ms : List FM3) (t : Nat) : Asr := blkF gm (msF ms) * objsBut FM3.o ms t
theorem blkF_congr {gm : Nat} {F G : Nat → Value} (h : ∀ i, i < 16 → F i = G i) : blkF gm F = blkF gm G := by
  unfold blkF
  rw [show (List.range 16).map F = (List.range 16).map G from List.map_congr_left fun i hi => h i (by simpa using hi)]
section
variable {w0 w : World} {R : Asr} {gm t f : Nat} {ms : List FM3} {x : FM3} {F : Nat → Value} {i : Nat}
theorem blkF_get (h : Hold w0 w (blkF gm F * R)) (hi : i < 16) : w.cell? ⟨gm, i, none⟩ = some (F i) := h.blk.some_ (by simp [hi])
theorem blkF_frozen (h : Hold w0 w (blkF gm F * R)) (i : Nat) : w.frozen? ⟨gm, i, none⟩ = false := h.blk.frozen i
theorem blkF_set (h : Hold w0 w (blkF gm F * R)) (hi : i < 16) (u : Value) : Hold w0 (w.setCell ⟨gm, i, none⟩ u) (blkF gm (updF F i u) * R) := by
  have h1 := h.setBlk i u
  have e : ((List.range 16).map F).toArray.setIfInBounds i u = ((List.range 16).map (updF F i u)).toArray := by
    apply Array.ext'
    simp only [Array.toList_setIfInBounds]
    refine List.ext_getElem? fun j => ?_
    by_cases hj : i = j
    · subst hj
      rw [List.getElem?_set_self (by simp; exact hi)]
      simp [hi, updF]
    · rw [List.getElem?_set_ne hj]
      by_cases hj2 : j < 16
      · simp [hj2, updF, Ne.symm hj]
      · simp [hj2]
  rw [e] at h1
  exact h1
theorem msF_at (ht : ms[t]? = some x) (hf : f < 4) : msF ms (t * 4 + f) = x.c f := by
  unfold msF
  rw [show (t * 4 + f) / 4 = t by omega, show (t * 4 + f) % 4 = f by omega, List.getD_eq_getElem?_getD, ht]
  rfl
theorem ms_cell (h : Hold w0 w (MS gm ms * R)) (ht : ms[t]? = some x) (t4 : t < 4) (hf : f < 4) : w.cell? ⟨gm, t * 4 + f, none⟩ = some (x.c f) := by
  have := blkF_get (i := t * 4 + f) h.part (by omega)
  rw [msF_at ht hf] at this
  exact this
theorem mh_cell (h : Hold w0 w (MH gm ms t * R)) (ht : ms[t]? = some x) (t4 : t < 4) (hf : f < 4) : w.cell? ⟨gm, t * 4 + f, none⟩ = some (x.c f) := by
  have := blkF_get (i := t * 4 + f) h.part (by omega)
  rw [msF_at ht hf] at this
  exact this
theorem ms_frozen (h : Hold w0 w (MS gm ms * R)) (i : Nat) : w.frozen? ⟨gm, i, none⟩ = false := blkF_frozen h.part i
theorem ms_take (h : Hold w0 w (MS gm ms * R)) (ht : ms[t]? = some x) : Hold w0 w (x.o * (MH gm ms t * R)) := by
  have h2 := Hold.takeO (f := FM3.o) h.part.swap ht
  have h3 : Hold w0 w (blkF gm (msF ms) * (objsBut FM3.o ms t * (x.o * R))) := h2.pk3 [2, 1, 0]
  exact h3.join.swap
theorem msF_set (ht : t < ms.length) (hl : ms.length = 4) (y : FM3) : ∀ i, i < 16 → msF (ms.set t y) i = if i / 4 = t then y.c (i % 4) else msF ms i := fun i hi => by
  unfold msF
  by_cases h : i / 4 = t
  · rw [if_pos h, List.getD_eq_getElem?_getD, h, List.getElem?_set_self ht]; rfl
  · rw [if_neg h, List.getD_eq_getElem?_getD, List.getElem?_set_ne (Ne.symm h), ← List.getD_eq_getElem?_getD]
/-- The object at t is another one, with the same pointers. -/
theorem ms_give {y : FM3} (h : Hold w0 w (y.o * (MH gm ms t * R))) (ht : ms[t]? = some x) (hl : ms.length = 4) (hc : ∀ f, f < 4 → y.c f = x.c f) : Hold w0 w (MS gm (ms.set t y) * R) := by
  have tl : t < ms.length := (List.getElem?_eq_some_iff.1 ht).1
  have h1 : Hold w0 w (blkF gm (msF ms) * (objsBut FM3.o ms t * (y.o * R))) := h.swap.part
  have h2 : Hold w0 w (y.o * (objsBut FM3.o ms t * (blkF gm (msF ms) * R))) := h1.pk3 [2, 1, 0]
  have h3 := (h2.giveO tl).swap
  have e : blkF gm (msF ms) = blkF gm (msF (ms.set t y)) := blkF_congr fun i hi => by
    rw [msF_set tl hl y i hi]
    split
    · rename_i he
      subst he
      have := msF_at (ms := ms) (f := i % 4) ht (by omega)
      rw [show i / 4 * 4 + i % 4 = i by omega] at this
      rw [this, hc _ (by omega)]
    · rfl
  rw [e] at h3
  exact h3.join
/-- A new object at t, behind stores that have made its pointers. -/
theorem ms_new {y : FM3} (h : Hold w0 w (y.o * (blkF gm F * (objs FM3.o ms * R)))) (tl : t < ms.length) (hl : ms.length = 4) (hF : ∀ i, i < 16 → F i = if i / 4 = t then y.c (i % 4) else msF ms i) : Hold w0 w (MS gm (ms.set t y) * R) := by
  have ho : ms[t]? = some (ms[t]'tl) := List.getElem?_eq_getElem tl
  have h1 : Hold w0 w (objs FM3.o ms * (blkF gm F * (y.o * R))) := h.pk3 [2, 1, 0]
  have h2 := h1.takeNone ho
  have h3 : Hold w0 w (y.o * (objsBut FM3.o ms t * (blkF gm F * R))) := h2.pk3 [2, 0, 1]
  have h4 := (h3.giveO tl).swap
  have e : blkF gm F = blkF gm (msF (ms.set t y)) := blkF_congr fun i hi => by rw [hF i hi, msF_set tl hl y i hi]
  rw [e] at h4
  exact h4.join
theorem upd_out {F : Nat → Value} {i j : Nat} {u : Value} (h : j ≠ i) : updF F i u j = F j := if_neg h
theorem upd_in {F : Nat → Value} {i : Nat} {u : Value} : updF F i u i = u := if_pos rfl
theorem new_pop (m : PM) (g : Nat) (ht : ms[t]? = some .idle) : ∀ i, i < 16 → updF (updF (msF ms) (t * 4) (pv m.g)) (t * 4 + 2) (pv g) i = if i / 4 = t then (FM3.pop m g).c (i % 4) else msF ms i := fun i hi => by
  by_cases h4 : i / 4 = t
  · rw [if_pos h4]
    obtain ⟨r, hr, rfl⟩ : ∃ r, r < 4 ∧ i = t * 4 + r := ⟨i % 4, by omega, by omega⟩
    rw [show (t * 4 + r) % 4 = r by omega]
    obtain h | h | h | h : r = 0 ∨ r = 1 ∨ r = 2 ∨ r = 3 := by omega
    all_goals subst h
    · rw [upd_out (by omega), Nat.add_zero, upd_in]; rfl
    · rw [upd_out (by omega), upd_out (by omega), msF_at ht (by omega)]; rfl
    · rw [upd_in]; rfl
    · rw [upd_out (by omega), upd_out (by omega), msF_at ht (by omega)]; rfl
  · rw [if_neg h4, upd_out (by omega), upd_out (by omega)]
theorem new_push (q : QM) (g : Nat) (ht : ms[t]? = some .idle) : ∀ i, i < 16 → updF (updF (msF ms) (t * 4 + 1) (pv q.g)) (t * 4 + 3) (pv g) i = if i / 4 = t then (FM3.push q g).c (i % 4) else msF ms i := fun i hi => by
  by_cases h4 : i / 4 = t
  · rw [if_pos h4]
    obtain ⟨r, hr, rfl⟩ : ∃ r, r < 4 ∧ i = t * 4 + r := ⟨i % 4, by omega, by omega⟩
    rw [show (t * 4 + r) % 4 = r by omega]
    obtain h | h | h | h : r = 0 ∨ r = 1 ∨ r = 2 ∨ r = 3 := by omega
    all_goals subst h
    · rw [upd_out (by omega), upd_out (by omega), msF_at ht (by omega)]; rfl
    · rw [upd_out (by omega), upd_in]; rfl
    · rw [upd_out (by omega), upd_out (by omega), msF_at ht (by omega)]; rfl
    · rw [upd_in]; rfl
  · rw [if_neg h4, upd_out (by omega), upd_out (by omega)]
theorem new_idle (F : Nat → Value) (hF : ∀ i, i < 16 → i / 4 ≠ t → F i = msF ms i) : ∀ i, i < 16 → updF (updF (updF (updF F (t * 4) (.pointer none)) (t * 4 + 1) (.pointer none)) (t * 4 + 2) (.pointer none)) (t * 4 + 3) (.pointer none) i = if i / 4 = t then FM3.idle.c (i % 4) else msF ms i := fun i hi => by
  by_cases h4 : i / 4 = t
  · rw [if_pos h4]
    obtain ⟨r, hr, rfl⟩ : ∃ r, r < 4 ∧ i = t * 4 + r := ⟨i % 4, by omega, by omega⟩
    rw [show (t * 4 + r) % 4 = r by omega]
    obtain h | h | h | h : r = 0 ∨ r = 1 ∨ r = 2 ∨ r = 3 := by omega
    all_goals subst h
    · rw [upd_out (by omega), upd_out (by omega), upd_out (by omega), Nat.add_zero, upd_in]; rfl
    · rw [upd_out (by omega), upd_out (by omega), upd_in]; rfl
    · rw [upd_out (by omega), upd_in]; rfl
    · rw [upd_in]; rfl
  · rw [if_neg h4, upd_out (by omega), upd_out (by omega), upd_out (by omega), upd_out (by omega), hF i hi h4]
/-- All four pointers are made nil: the machine at t is gone. -/
theorem ms_gone (h : Hold w0 w (MS gm ms * R)) (t4 : t < 4) (hl : ms.length = 4) : Hold w0 ((((w.setCell ⟨gm, t * 4, none⟩ (.pointer none)).setCell ⟨gm, t * 4 + 1, none⟩ (.pointer none)).setCell ⟨gm, t * 4 + 2, none⟩ (.pointer none)).setCell ⟨gm, t * 4 + 3, none⟩ (.pointer none)) (MS gm (ms.set t .idle) * R) := by
  have h1 := blkF_set h.part (i := t * 4) (by omega) (.pointer none)
  have h2 := blkF_set h1 (i := t * 4 + 1) (by omega) (.pointer none)
  have h3 := blkF_set h2 (i := t * 4 + 2) (by omega) (.pointer none)
  have h4 := blkF_set h3 (i := t * 4 + 3) (by omega) (.pointer none)
  exact ms_new (y := .idle) (h4.imp (Imp.intro_emp _)) (by omega) hl (new_idle _ (fun _ _ _ => rfl))
theorem ms_split (h : Hold w0 w (MS gm ms * R)) : Hold w0 w (blkF gm (msF ms) * (objs FM3.o ms * R)) := h.part
end
/-- What a round leaves. -/
structure RF (hs ns : List Int) (L : Nat → List Nat) (held : List Nat) (ms : List FM3) (B n : Nat) : Prop where
  ki : KI hs ns L held (ms.map FM3.p) (ms.map FM3.q) B
  ml : ms.length = 4
  bk : ∀ (t : Nat) (m : PM) (g : Nat), ms[t]? = some (.pop m g) → m.bk = -1
  hl : held.length ≤ n
section
variable {hs ns hs2 ns2 : List Int} {L L2 : Nat → List Nat} {held held2 : List Nat} {ms : List FM3} {B B2 n n2 t : Nat} {x y : FM3}
theorem RF.p_at (ht : ms[t]? = some x) : (ms.map FM3.p)[t]? = some x.p := by simp [ht]
theorem RF.q_at (ht : ms[t]? = some x) : (ms.map FM3.q)[t]? = some x.q := by simp [ht]
theorem RF.set (h : RF hs ns L held ms B n) (ht : ms[t]? = some x) (hki : KI hs2 ns2 L2 held2 ((ms.map FM3.p).set t y.p) ((ms.map FM3.q).set t y.q) B2) (hy : ∀ m g, y = .pop m g → m.bk = -1) (hh : held2.length ≤ n2) : RF hs2 ns2 L2 held2 (ms.set t y) B2 n2 :=
  ⟨by rw [List.map_set, List.map_set]; exact hki, by simp [h.ml], fun k m g hk => by
    rcases set_cases hk with ⟨_, he, _⟩ | ⟨_, hk⟩
    · exact hy m g he.symm
    · exact h.bk k m g hk, hh⟩
end
section
variable {hs ns : List Int} {L : Nat → List Nat} {held : List Nat} {ms : List FM3} {B n t : Nat}
theorem RF.newPop (h : RF hs ns L held ms B n) (ht : ms[t]? = some .idle) {kc : Nat} (hk : kc < 4) (g g' : Nat) : RF hs ns L held (ms.set t (.pop ⟨g, kc, 0, 0, 0, -1⟩ g')) B n := by
  have h1 : KI hs ns L held ((ms.map FM3.p).set t (some ⟨g, kc, 0, 0, 0, -1⟩)) (ms.map FM3.q) B := h.ki.setP _ (fun m hm => by
    obtain rfl := Option.some.inj hm
    exact PW.fresh hk)
  have h2 : (ms.map FM3.q).set t none = ms.map FM3.q := set_same (RF.q_at ht)
  rw [← h2] at h1
  exact h.set ht (y := .pop ⟨g, kc, 0, 0, 0, -1⟩ g') h1 (fun m g hm => by cases hm; rfl) h.hl
theorem RF.newPush {b : Nat} (h : RF hs ns L (b :: held) ms B n) (ht : ms[t]? = some .idle) (g g' : Nat) : RF hs ns L held (ms.set t (.push ⟨g, fcls b, b, 0, 0⟩ g')) B n := by
  have h1 : KI hs ns L held (ms.map FM3.p) ((ms.map FM3.q).set t (some ⟨g, fcls b, b, 0, 0⟩)) B := h.ki.pushNew (RF.q_at ht) g
  have h2 : (ms.map FM3.p).set t none = ms.map FM3.p := set_same (RF.p_at ht)
  rw [← h2] at h1
  have hl := h.hl
  simp only [List.length_cons] at hl
  exact h.set ht (y := .push ⟨g, fcls b, b, 0, 0⟩ g') h1 (fun m g hm => by cases hm) (by omega)
theorem RF.popStep {m : PM} {g' : Nat} (h : RF hs ns L held ms B n) (hB : (B : Int) + 1 ≤ 1000) (ht : ms[t]? = some (.pop m g')) :
    ((popN hs ns m).at_ = 3 ∧ (popN hs ns m).bk = -1 ∧ RF (popH hs m) ns L held (ms.set t .idle) (B + 1) (n + 1)) ∨
    (∃ (b : Nat) (L' : Nat → List Nat), (popN hs ns m).at_ = 3 ∧ (popN hs ns m).bk = b ∧ b < 6 ∧ RF (popH hs m) ns L' (held ++ [b]) (ms.set t .idle) (B + 1) (n + 1)) ∨
    ((popN hs ns m).at_ ≠ 3 ∧ RF (popH hs m) ns L held (ms.set t (.pop (popN hs ns m) g')) (B + 1) (n + 1)) := by
  have hl := h.hl
  have h2 : (ms.map FM3.q).set t none = ms.map FM3.q := set_same (RF.q_at ht)
  have cast : ((B + 1 : Nat) : Int) = (B : Int) + 1 := by simp
  rcases h.ki.popStep hB (RF.p_at ht) with ⟨h3, hb, hk⟩ | ⟨b, L', h3, hb, hb6, hk⟩ | ⟨h3, hb, hk⟩
  · rw [← h2, ← cast] at hk
    exact .inl ⟨h3, hb.trans (h.bk t m g' ht), h.set ht (y := .idle) hk (fun m g hm => by cases hm) (by omega)⟩
  · rw [← h2, ← cast] at hk
    exact .inr (.inl ⟨b, L', h3, hb, hb6, h.set ht (y := .idle) hk (fun m g hm => by cases hm) (by simp; omega)⟩)
  · rw [← h2, ← cast] at hk
    exact .inr (.inr ⟨h3, h.set ht (y := .pop (popN hs ns m) g') hk (fun m2 g2 hm => by
      injection hm with hm _
      rw [← hm]
      exact hb.trans (h.bk t m g' ht)) (by omega)⟩)
theorem RF.pushStep {q : QM} {g' : Nat} (h : RF hs ns L held ms B n) (hB : (B : Int) + 1 ≤ 1000) (ht : ms[t]? = some (.push q g')) :
    (∃ L' : Nat → List Nat, (pushN hs q).at_ = 3 ∧ RF (pushH hs q) (pushS ns q) L' held (ms.set t .idle) (B + 1) (n + 1)) ∨
    ((pushN hs q).at_ ≠ 3 ∧ RF (pushH hs q) (pushS ns q) L held (ms.set t (.push (pushN hs q) g')) (B + 1) (n + 1)) := by
  have hl := h.hl
  have h2 : (ms.map FM3.p).set t none = ms.map FM3.p := set_same (RF.p_at ht)
  have cast : ((B + 1 : Nat) : Int) = (B : Int) + 1 := by simp
  rcases h.ki.pushStep hB (RF.q_at ht) with ⟨L', h3, hk⟩ | ⟨h3, hb, hk⟩
  · rw [← h2, ← cast] at hk
    exact .inl ⟨L', h3, h.set ht (y := .idle) hk (fun m g hm => by cases hm) (by omega)⟩
  · rw [← h2, ← cast] at hk
    exact .inr ⟨h3, h.set ht (y := .push (pushN hs q) g') hk (fun m2 g2 hm => by cases hm) (by omega)⟩
end
theorem pop_c {m m2 : PM} (h : m2.g = m.g) (g : Nat) : ∀ f, (FM3.pop m2 g).c f = (FM3.pop m g).c f
  | 0 => congrArg pv h
  | 1 => rfl
  | 2 => rfl
  | 3 => rfl
  | _ + 4 => rfl
theorem push_c {m m2 : QM} (h : m2.g = m.g) (g : Nat) : ∀ f, (FM3.push m2 g).c f = (FM3.push m g).c f
  | 0 => rfl
  | 1 => congrArg pv h
  | 2 => rfl
  | 3 => rfl
  | _ + 4 => rfl
theorem popN_rpm (hs ns : List Int) (m : PM) (g : Nat) : popN hs ns (rpm m g) = rpm (popN hs ns m) g := by
  unfold popN rpm
  split
  · rfl
  · split
    · rfl
    · split <;> rfl
theorem pushN_rqm (hs : List Int) (q : QM) (g : Nat) : pushN hs (rqm q g) = rqm (pushN hs q) g := by
  unfold pushN rqm
  split
  · rfl
  · split
    · rfl
    · split <;> rfl
theorem PW.rpm {hs ns : List Int} {B : Int} {m : PM} (p : PW hs ns B m) (g : Nat) : PW hs ns B (rpm m g) := ⟨p.c, p.a, p.n, p.h, p.x⟩
theorem QW.rqm {hs ns : List Int} {B : Int} {q : QM} (p : QW hs ns B q) (g : Nat) : QW hs ns B (rqm q g) := ⟨p.c, p.b, p.a, p.h, p.x⟩
end Go.Proofs.Ytigjpfhjddkckaa
