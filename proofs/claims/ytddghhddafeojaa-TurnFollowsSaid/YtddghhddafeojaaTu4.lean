/- strongtxlaw10: the plain law of turns; TurnExcludes. -/
import Derived.Test.YtddghhddafeojaaTu2
import Derived.Test.YtddghhddafeojaaObj
import Derived.Deep.DeepCutAuto
import Derived.Deep.CutBlock
namespace Go.Proofs.Ytddghhddafeojaa
open Go.RowKit
set_option linter.unusedVariables false

/-- A machine that has its ticket. -/
structure TM where
  g : Nat
  tk : Int
  dn : Bool
def tmA : Option TM → Asr
  | none => Asr.emp
  | some m => tuA m.g true m.tk m.dn
def tmP (o : Option TM) : Option Nat := o.map TM.g
/-- The machines under counters S (served) and T (tickets). -/
structure TI (C : Nat → List Int) (xs : List (Option TM)) (S T : Int) : Prop where
  ok : COk C
  v4 : valC C 4 0 = T
  v5 : valC C 5 0 = S
  len : xs.length = 4
  b : 0 ≤ S ∧ S ≤ T
  rng : ∀ (k : Nat) (m : TM), xs[k]? = some (some m) → S ≤ m.tk ∧ m.tk < T ∧ (m.dn = true → m.tk = S)
  inj : ∀ (k l : Nat) (m n : TM), xs[k]? = some (some m) → xs[l]? = some (some n) → m.tk = n.tk → k = l
theorem TI.take {C : Nat → List Int} {xs : List (Option TM)} {S T : Int} (h : TI C xs S T) {t : Nat} (ht : xs[t]? = some none) (g : Nat) (hT : T + 1 ≤ 1000000) : TI (opC C 4 0 (IntKind.u64.wrap (valC C 4 0 + 1)) true) (xs.set t (some ⟨g, valC C 4 0, false⟩)) S (T + 1) := by
  have hb := h.b
  rw [h.v4, wrapu_small (by omega) (by omega)]
  have hl : t < xs.length := (List.getElem?_eq_some_iff.1 ht).1
  have key : ∀ (k : Nat) (m : TM), (xs.set t (some ⟨g, T, false⟩))[k]? = some (some m) → (k = t ∧ m = ⟨g, T, false⟩) ∨ (k ≠ t ∧ xs[k]? = some (some m)) := fun k m hk => by
    by_cases he : t = k
    · subst he
      rw [List.getElem?_set_self hl] at hk
      exact .inl ⟨rfl, by simpa using hk.symm⟩
    · rw [List.getElem?_set_ne he] at hk
      exact .inr ⟨Ne.symm he, hk⟩
  refine ⟨h.ok.opC _ _ _ _, valC_op_same h.ok.has4, (valC_op_ne (by decide)).trans h.v5, by simp [h.len], by omega, fun k m hk => ?_, fun k l m n hk hl2 he => ?_⟩
  · rcases key k m hk with ⟨_, rfl⟩ | ⟨_, hk⟩
    · exact ⟨hb.2, by show T < T + 1; omega, fun h => by cases h⟩
    · have := h.rng k m hk
      exact ⟨this.1, by omega, this.2.2⟩
  · rcases key k m hk with ⟨rfl, rfl⟩ | ⟨_, hk3⟩ <;> rcases key l n hl2 with ⟨rfl, rfl⟩ | ⟨_, hl3⟩
    · rfl
    · have := h.rng l n hl3
      have he' : T = n.tk := he
      omega
    · have := h.rng k m hk3
      have he' : m.tk = T := he
      omega
    · exact h.inj k l m n hk3 hl3 he
theorem TI.step {C : Nat → List Int} {xs : List (Option TM)} {S T : Int} (h : TI C xs S T) {t : Nat} {m : TM} (ht : xs[t]? = some (some m)) : TI C (xs.set t (some ⟨m.g, m.tk, m.dn || (S == m.tk)⟩)) S T := by
  have hl : t < xs.length := (List.getElem?_eq_some_iff.1 ht).1
  have key : ∀ (k : Nat) (n : TM), (xs.set t (some ⟨m.g, m.tk, m.dn || (S == m.tk)⟩))[k]? = some (some n) → ∃ n' : TM, xs[k]? = some (some n') ∧ n'.tk = n.tk ∧ (n.dn = true → n'.tk = S) := fun k n hk => by
    by_cases he : t = k
    · subst he
      rw [List.getElem?_set_self hl] at hk
      obtain rfl : (⟨m.g, m.tk, m.dn || (S == m.tk)⟩ : TM) = n := by simpa using hk
      refine ⟨m, ht, rfl, fun hd => ?_⟩
      rcases (Bool.or_eq_true _ _).mp hd with hd | hd
      · exact (h.rng t m ht).2.2 hd
      · exact (by simpa using hd : S = m.tk).symm
    · rw [List.getElem?_set_ne he] at hk
      exact ⟨n, hk, rfl, (h.rng k n hk).2.2⟩
  refine ⟨h.ok, h.v4, h.v5, by simp [h.len], h.b, fun k n hk => ?_, fun k l n p hk hl2 he => ?_⟩
  · obtain ⟨n', h1, h2, h3⟩ := key k n hk
    have := h.rng k n' h1
    exact ⟨by omega, by omega, fun hd => by have := h3 hd; omega⟩
  · obtain ⟨n', h1, h2, _⟩ := key k n hk
    obtain ⟨p', h3, h4, _⟩ := key l p hl2
    exact h.inj k l n' p' h1 h3 (by omega)
theorem TI.pass {C : Nat → List Int} {xs : List (Option TM)} {S T : Int} (h : TI C xs S T) {t : Nat} {m : TM} (ht : xs[t]? = some (some m)) (hd : m.dn = true) : TI (opC C 5 0 (m.tk + 1) true) (xs.set t none) (S + 1) T := by
  have hl : t < xs.length := (List.getElem?_eq_some_iff.1 ht).1
  have hm := h.rng t m ht
  have hs := hm.2.2 hd
  have hb := h.b
  have key : ∀ (k : Nat) (n : TM), (xs.set t none)[k]? = some (some n) → k ≠ t ∧ xs[k]? = some (some n) := fun k n hk => by
    by_cases he : t = k
    · subst he
      rw [List.getElem?_set_self hl] at hk
      cases hk
    · rw [List.getElem?_set_ne he] at hk
      exact ⟨Ne.symm he, hk⟩
  refine ⟨h.ok.opC _ _ _ _, (valC_op_ne (by decide)).trans h.v4, (valC_op_same h.ok.has5).trans (by omega), by simp [h.len], by omega, fun k n hk => ?_, fun k l n p hk hl2 he => ?_⟩
  · obtain ⟨hne, hk⟩ := key k n hk
    have h1 := h.rng k n hk
    have h2 : n.tk ≠ m.tk := fun he => hne (h.inj k t n m hk ht he)
    refine ⟨by omega, h1.2.1, fun hdn => ?_⟩
    have := h1.2.2 hdn
    omega
  · exact h.inj k l n p (key k n hk).2 (key l p hl2).2 he
theorem TI.init {C : Nat → List Int} (ok : COk C) (v4 : valC C 4 0 = 0) (v5 : valC C 5 0 = 0) : TI C [none, none, none, none] 0 0 :=
  ⟨ok, v4, v5, rfl, by omega, fun k m hk => by
    match k, hk with
    | 0, hk => cases hk
    | 1, hk => cases hk
    | 2, hk => cases hk
    | 3, hk => cases hk
    | k + 4, hk => simp at hk, fun k l m n hk => by
    match k, hk with
    | 0, hk => cases hk
    | 1, hk => cases hk
    | 2, hk => cases hk
    | 3, hk => cases hk
    | k + 4, hk => simp at hk⟩
/-- At most one machine has the turn. -/
theorem TI.one {C : Nat → List Int} {xs : List (Option TM)} {S T : Int} (h : TI C xs S T) {k l : Nat} {m n : TM} (hk : xs[k]? = some (some m)) (hl : xs[l]? = some (some n)) (hm : m.dn = true) (hn : n.dn = true) : k = l :=
  h.inj k l m n hk hl (by rw [(h.rng k m hk).2.2 hm, (h.rng l n hl).2.2 hn])
theorem tu_step (w0 w : World) (R : Asr) (g m : Nat) (C : Nat → List Int) (tk : Int) (dn : Bool) (h : Hold w0 w (tuA g true tk dn * (memA m C * R))) (hC : COk C) :
    Calls Try.prog 33 #[.pointer (some ⟨g, 0, none⟩), .pointer (some ⟨m, 0, none⟩)] w fun e w' => ∃ ac : Acc, e = .returned ac.val ∧ Hold w0 w' (tuA g true tk (dn || (valC C 5 0 == tk)) * (memA m C * R)) := by
  cases dn
  · exact (turn_step_wait w0 w R g m C tk h hC).mono fun e w' ⟨he, h'⟩ => ⟨_, he, h'⟩
  · exact (turn_step_done w0 w _ g _ tk h).mono fun e w' ⟨he, h'⟩ => ⟨_, he, h'⟩
theorem map_set_same {α β : Type} {f : α → β} {xs : List α} {t : Nat} {a b : α} (ht : xs[t]? = some a) (h : f b = f a) : (xs.set t b).map f = xs.map f := by
  rw [List.map_set, h]
  refine List.ext_getElem? fun k => ?_
  by_cases hk : t = k
  · subst hk
    rw [List.getElem?_set_self (by simpa using (List.getElem?_eq_some_iff.1 ht).1)]
    simp [ht]
  · rw [List.getElem?_set_ne hk]
/-- The machines, their array, the cells. -/
def TS (ga m : Nat) (C : Nat → List Int) (xs : List (Option TM)) (R : Asr) : Asr := machs 60 ga (xs.map tmP) * (objs tmA xs * (memA m C * R))
/-- .. with one that has no ticket yet. -/
def TN (ga m g t : Nat) (C : Nat → List Int) (xs : List (Option TM)) (R : Asr) : Asr := tuA g false 0 false * (machs 60 ga ((xs.map tmP).set t (some g)) * (objs tmA xs * (memA m C * R)))
section
variable {w0 w : World} {ga m g t : Nat} {C : Nat → List Int} {xs : List (Option TM)} {R : Asr} {S T : Int} {mm : TM}
theorem TS.at_ (h : Hold w0 w (TS ga m C xs R)) {o : Option TM} (ht : xs[t]? = some o) : w.cell? ⟨ga, t, none⟩ = some (ptrV (tmP o)) := Hold.machGet h (by simp [ht])
theorem TS.frozen (h : Hold w0 w (TS ga m C xs R)) (t : Nat) : w.frozen? ⟨ga, t, none⟩ = false := Hold.machFrozen h t
theorem TS.rest (h : Hold w0 w (TS ga m C xs R)) : Hold w0 w R := h.drop.drop.drop
theorem TS.born (h : Hold w0 w (tuA g false 0 false * TS ga m C xs R)) (t : Nat) : Hold w0 (w.setCell ⟨ga, t, none⟩ (.pointer (some ⟨g, 0, none⟩))) (TN ga m g t C xs R) :=
  (Hold.machSet (h.swap) t (some g)).swap
theorem TN.at_ (h : Hold w0 w (TN ga m g t C xs R)) (ht : t < xs.length) : w.cell? ⟨ga, t, none⟩ = some (.pointer (some ⟨g, 0, none⟩)) := Hold.machGet (o := some g) h.drop (by simp [ht])
theorem TN.rest (h : Hold w0 w (TN ga m g t C xs R)) : Hold w0 w R := h.drop.drop.drop.drop
theorem TS.gone (h : Hold w0 w (TS ga m C xs R)) (ht : t < xs.length) : Hold w0 (w.setCell ⟨ga, t, none⟩ (.pointer none)) (TS ga m C (xs.set t none) R) := by
  have h1 := (Hold.machSet h t none).swap
  have ho : xs[t]? = some (xs[t]'ht) := List.getElem?_eq_getElem ht
  have h2 := ((h1.takeNone ho).giveNone ht (b := none) rfl).swap
  unfold TS
  rw [List.map_set]
  exact h2
theorem ts_done (w0 w : World) (h : Hold w0 w (TS ga m C xs R)) (ht : xs[t]? = some (some mm)) : Calls Try.prog 34 #[.pointer (some ⟨mm.g, 0, none⟩)] w fun e w' => e = .returned (.bool mm.dn) ∧ w = w' :=
  turn_done w0 w _ mm.g true mm.tk mm.dn (Hold.takeO (f := tmA) h.swap ht)
theorem ts_ticket (w0 w : World) (h : Hold w0 w (TS ga m C xs R)) (ht : xs[t]? = some (some mm)) (h0 : 0 ≤ mm.tk) (h1 : mm.tk ≤ 9223372036854775807) : Calls Try.prog 36 #[.pointer (some ⟨mm.g, 0, none⟩)] w fun e w' => e = .returned (.int .i64 mm.tk) ∧ w = w' :=
  turn_ticket w0 w _ mm.g mm.tk mm.dn (Hold.takeO (f := tmA) h.swap ht) h0 h1
theorem ts_pass (w0 w : World) (h : Hold w0 w (TS ga m C xs R)) (hC : COk C) (tk : Int) (h0 : 0 ≤ tk) (h1 : tk ≤ 9223372036854775806) :
    Calls Try.prog 35 #[.pointer (some ⟨m, 0, none⟩), .int .i64 tk] w (RAccPost w0 (TS ga m (opC C 5 0 (tk + 1) true) xs R) (opA C 2 5 0 (tk + 1) true)) :=
  (turn_pass w0 w _ m C tk (h.pk3 [2, 0, 1]) hC h0 h1).mono fun e w' ⟨he, h'⟩ => ⟨he, h'.pk3 [1, 2, 0]⟩
theorem ts_step (w0 w : World) (h : Hold w0 w (TS ga m C xs R)) (hC : COk C) (ht : xs[t]? = some (some mm)) :
    Calls Try.prog 33 #[.pointer (some ⟨mm.g, 0, none⟩), .pointer (some ⟨m, 0, none⟩)] w (RAccPost w0 (TS ga m C (xs.set t (some ⟨mm.g, mm.tk, mm.dn || (valC C 5 0 == mm.tk)⟩)) R) (if mm.dn then acc0 else ⟨1, 5, 0, valC C 5 0, valC C 5 0, true⟩)) := by
  have hl : t < xs.length := (List.getElem?_eq_some_iff.1 ht).1
  have h1 := Hold.takeO (f := tmA) h.swap ht
  have back : ∀ w' b, Hold w0 w' (tuA mm.g true mm.tk b * (memA m C * (objsBut tmA xs t * (machs 60 ga (xs.map tmP) * R)))) → Hold w0 w' (TS ga m C (xs.set t (some ⟨mm.g, mm.tk, b⟩)) R) := fun w' b h' => by
    have h2 : Hold w0 w' (tmA (some ⟨mm.g, mm.tk, b⟩) * (objsBut tmA xs t * (machs 60 ga (xs.map tmP) * (memA m C * R)))) := h'.pk4 [0, 2, 3, 1]
    have h3 := (h2.giveO hl).swap
    unfold TS
    rw [map_set_same ht (by rfl)]
    exact h3
  have h4 : Hold w0 w (tuA mm.g true mm.tk mm.dn * (memA m C * (objsBut tmA xs t * (machs 60 ga (xs.map tmP) * R)))) := h1.pk4 [0, 3, 1, 2]
  cases hd : mm.dn
  · rw [hd] at h4
    exact (turn_step_wait w0 w _ mm.g m C mm.tk h4 hC).mono fun e w' ⟨he, h'⟩ => ⟨he, back w' _ h'⟩
  · rw [hd] at h4
    exact (turn_step_done w0 w _ mm.g _ mm.tk h4).mono fun e w' ⟨he, h'⟩ => ⟨he, back w' _ h'⟩
theorem ts_take (w0 w : World) (h : Hold w0 w (TN ga m g t C xs R)) (hC : COk C) (ht : xs[t]? = some none) :
    Calls Try.prog 33 #[.pointer (some ⟨g, 0, none⟩), .pointer (some ⟨m, 0, none⟩)] w
      (RAccPost w0 (TS ga m (opC C 4 0 (IntKind.u64.wrap (valC C 4 0 + 1)) true) (xs.set t (some ⟨g, valC C 4 0, false⟩)) R) ⟨4, 4, 0, valC C 4 0, IntKind.u64.wrap (valC C 4 0 + 1), true⟩) := by
  have hl : t < xs.length := (List.getElem?_eq_some_iff.1 ht).1
  have h1 : Hold w0 w (tuA g false 0 false * (memA m C * (objs tmA xs * (machs 60 ga ((xs.map tmP).set t (some g)) * R)))) := h.pk4 [0, 3, 2, 1]
  refine (turn_step_take w0 w _ g m C 0 h1 hC).mono fun e w' ⟨he, h'⟩ => ⟨he, ?_⟩
  have h2 := (h'.pk4 [2, 0, 3, 1]).takeNone ht
  have h3 : Hold w0 w' (tmA (some ⟨g, valC C 4 0, false⟩) * (objsBut tmA xs t * (machs 60 ga ((xs.map tmP).set t (some g)) * (memA m (opC C 4 0 (IntKind.u64.wrap (valC C 4 0 + 1)) true) * R)))) := h2.swap
  have h4 := (h3.giveO hl).swap
  unfold TS
  rw [List.map_set]
  exact h4
end
set_option maxRecDepth 8000 in
set_option maxHeartbeats 8000000 in
theorem turnExcludes_any (l0 l1 l2 l3 l4 : Int) (A1 : Option Addr) (n1 c1 b1 : Nat) (x1 : List Int) (w : World) (hA1 : Reads w b1 A1 n1 (x1.map (Value.int .i64))) (le1 : n1 ≤ 9223372036854775807) :
    Calls Try.prog 6 #[.agg #[.int .i64 l0, .int .i64 l1, .int .i64 l2, .int .i64 l3, .int .i64 l4], .slice A1 n1 c1] w (fun e w' => e = .returned (.bool true) ∧ Below w.heap.size w w') := by
  have HX := hid hA1
  clear hA1
  obtain ⟨c, hc⟩ : ∃ c, c = mkCfg l0 l1 l2 l3 l4 := ⟨_, rfl⟩
  have hok : cfgErr c = 0 := by rw [hc]; exact mkCfg_ok _ _ _ _ _
  have HF : Hid (∀ w, Calls Try.prog 61 #[.int .i64 l0, .int .i64 l1, .int .i64 l2, .int .i64 l3, .int .i64 l4] w (fun e w' => e = .returned c.val ∧ Chg [] w w')) := hid fun w => by rw [hc]; exact config_any w l0 l1 l2 l3 l4
  have HO := hid (new_ok4 hok)
  have HC := hid hok
  have h0 := hid ((Hold.start w).alloc (.cells #[.int .i64 l0, .int .i64 l1, .int .i64 l2, .int .i64 l3, .int .i64 l4] 57))
  clear hok hc
  by_cases hp : 100 < n1
  · have ep : decide ((100 : Int) < (n1 : Int)) = true := decide_eq_true (by omega)
    go_enter Try.func6, Try.ntmps6
    go_wp2_with fail
    refine (awake10_any w _ _ h0.out).mono ?_
    rintro e v3 ⟨rfl, h11⟩
    have H11 := hid h11.below
    clear h11
    go_wp2_with fail
    go_ret
    exact ⟨rfl, H11.out⟩
  have ep : decide ((100 : Int) < (n1 : Int)) = false := decide_eq_false (by omega)
  go_enter Try.func6, Try.ntmps6
  go_wp2_with fail
  refine (lab_small w _ _ c l0 l1 l2 l3 l4 HF.out HC.out h0.out).mono ?_
  rintro e v1 ⟨m, r, rfl, h1⟩
  obtain ⟨C0, hC0⟩ : ∃ C0, C0 = newC c 4 (initL c.words.toNat) := ⟨_, rfl⟩
  have hv4 : valC C0 4 0 = 0 := by rw [hC0]; rfl
  have hv5 : valC C0 5 0 = 0 := by rw [hC0]; rfl
  have hk0 : COk C0 := by rw [hC0]; exact HO.out
  rw [← hC0] at h1
  have h2 := (h1.newBlk (t := 27) (cs := #[.pointer (some ⟨m, 0, none⟩), .pointer (some ⟨r, 0, none⟩)])).newBlk (t := 60) (cs := #[.pointer none, .pointer none, .pointer none, .pointer none])
  simp only [World.size_alloc] at h2
  have H2 := hid h2
  have HI := hid (TI.init hk0 hv4 hv5)
  clear h0 h1 h2 hC0 hv4 hv5 hk0 HO HC HF
  go_wp2_with fail
  have h2 := H2.out
  generalize hW : World.alloc _ _ = W2 at h2 ⊢
  generalize v1.heap.size + 1 = ga at h2 ⊢
  generalize v1.heap.size = gp at h2 ⊢
  clear hW H2
  have h3 : Hold w W2 (TS ga m C0 [none, none, none, none] (prA gp m r * Asr.emp)) := Hold.imp (h2.pk4 [0, 2, 1]) (Imp.under _ (Imp.objsEmp (f := tmA) (xs := [none, none, none, none]) (fun x hx => by simp at hx; subst hx; rfl)))
  clear h2
  go_loopw [8, 9] (fun s j wr => ∃ (i : Nat) (C : Nat → List Int) (xs : List (Option TM)) (S T : Int), i ≤ n1 ∧ j = .int .i64 i ∧ s = .int .i64 S ∧ TI C xs S T ∧ T ≤ i ∧ Hold w wr (TS ga m C xs (prA gp m r * Asr.emp))) (fun _ j _ => n1 - (intOf j).toNat)
  case atStart => exact ⟨0, C0, _, 0, 0, by omega, rfl, rfl, HI.out, by omega, h3⟩
  case round =>
    clear h3 HI
    obtain ⟨i, C, xs, S, T, hi, rfl, rfl, hTI, hT, h⟩ := hrel
    have HT := hid hTI
    have hb := hTI.b
    clear hTI
    by_cases hlt : i < n1
    · have e1 : decide ((i : Int) < (n1 : Int)) = true := decide_eq_true (by omega)
      have i0 : (0 : Int) ≤ (i : Int) := by omega
      have i1 : (i : Int) < (n1 : Int) := by omega
      obtain ⟨ad, rfl, _, hcell⟩ := (HX.out.below h.below).numAt hlt
      obtain ⟨z, hz⟩ : ∃ z, z = x1.getD i 0 := ⟨_, rfl⟩
      rw [← hz] at hcell
      clear hz
      obtain ⟨t, ht⟩ : ∃ t : Nat, place z 4 = t := ⟨(place z 4).toNat, by have := place_nonneg z 4 (by omega); omega⟩
      have t4 : t < 4 := by have := place_lt z 4 (by omega); omega
      have t4' : (t : Int) < 4 := by omega
      have t0' : (0 : Int) ≤ (t : Int) := by omega
      have Ht := hid ht
      clear ht
      go_wp2_with fail
      refine (place_any _ _ _ (by omega) (by omega)).mono ?_
      rintro e w' ⟨rfl, rfl⟩
      rw [Ht.out]
      clear Ht hcell
      go_upto_block 2 with fail
      go_cut [8, 9] (fun s j wx => j = .int .i64 i ∧ ∃ (C : Nat → List Int) (xs : List (Option TM)) (S T : Int), s = .int .i64 S ∧ TI C xs S T ∧ T ≤ i + 1 ∧ Hold w wx (TS ga m C xs (prA gp m r * Asr.emp)))
      case first =>
        have tl : t < xs.length := by rw [HT.out.len]; exact t4
        have z2 := TS.frozen h t
        cases ho : xs[t]'tl with
        | none =>
          have hx : xs[t]? = some none := by rw [List.getElem?_eq_getElem tl, ho]
          have p2 : wr.cell? ⟨ga, t, none⟩ = some (.pointer none) := TS.at_ h hx
          have HX2 := hid hx
          clear ho hx
          go_wp2_with fail
          refine (turn_new w _ _ h).mono ?_
          rintro e v2 ⟨g, rfl, h4⟩
          clear h p2 z2
          have p2 : v2.cell? ⟨ga, t, none⟩ = some (.pointer none) := TS.at_ h4.drop HX2.out
          have z2 := TS.frozen h4.drop t
          have H5 := hid (TS.born h4 t)
          clear h4
          go_upto_region 17 with fail
          have h5 := H5.out
          generalize hW : World.setCell _ _ _ = W5 at h5 ⊢
          clear hW H5 p2 z2
          replace h5 := h5.drew
          refine wp_region_brk [] (by kernel_rfl) ?_
          refine wpAnyB_now (fun w' => w'.cell? ⟨ga, t, none⟩ = some (.pointer (some ⟨g, 0, none⟩)) ∧ w'.cell? ⟨gp, 0, none⟩ = some (.pointer (some ⟨m, 0, none⟩))) (fun _ _ => trivial) _ _ _ _ ?_
          refine' wpAnyB_bulk [true, true, true, true, true] 100 (listed' := #[true, true, true, true, true, false]) rfl (by kernel_rfl) (by kernel_rfl) (by kernel_rfl) (by kernel_rfl) (by kernel_rfl) (by kernel_rfl) (by decide) (fun _ _ _ _ h => h) rfl ⟨TN.at_ h5 tl, (TN.rest h5).blk.some_ (i := 0) rfl⟩ (fun wq hq => ?_) ?_; rotate_left 1
          · simp only [maskL]
            obtain ⟨q2, q0⟩ := hq
            repeat (go_big_quiet_step (fail))
            exact wpQuiet_nil rfl
          refine wpAnyB_bar [false, false, false, false, false, true] (fuel := 0) (by rfl) (by rfl) (by kernel_rfl) (fun QB hQB hQX => ?_)
          simp only [maskL]
          go_wp2_with fail
          refine (ts_take w _ h5 HT.out.ok HX2.out).mono ?_
          rintro e v3 ⟨rfl, h6⟩
          clear h5
          go_wp2_with fail
          refine hQB.out _ _ ⟨(TS.at_ h6 (List.getElem?_set_self tl)).trans rfl, (TS.rest h6).blk.some_ (i := 0) rfl⟩ ?_
          clear hQB hQX QB
          refine wpAnyB_done (by kernel_rfl) ?_ _
          have HT2 := hid (HT.out.take HX2.out g (by omega))
          have H6 := hid h6
          clear h6 HT HX2
          go_wp2_with fail
          go_meet
          exact ⟨rfl, _, _, S, T + 1, rfl, HT2.out, by omega, H6.out⟩
        | some mm =>
          have hx : xs[t]? = some (some mm) := by rw [List.getElem?_eq_getElem tl, ho]
          have p2 : wr.cell? ⟨ga, t, none⟩ = some (.pointer (some ⟨mm.g, 0, none⟩)) := TS.at_ h hx
          have hr := HT.out.rng t mm hx
          have HX2 := hid hx
          have tk0 : 0 ≤ mm.tk := by omega
          have tk1 : mm.tk ≤ 1000000 := by omega
          clear ho hx hr
          go_wp2_with fail
          refine (ts_done w _ h HX2.out).mono ?_
          rintro e w' ⟨rfl, rfl⟩
          cases hd : mm.dn
          · go_upto_region 12 with fail
            replace h := h.drew
            refine wp_region_brk [] (by kernel_rfl) ?_
            refine wpAnyB_now (fun w' => w'.cell? ⟨ga, t, none⟩ = some (.pointer (some ⟨mm.g, 0, none⟩)) ∧ w'.cell? ⟨gp, 0, none⟩ = some (.pointer (some ⟨m, 0, none⟩))) (fun _ _ => trivial) _ _ _ _ ?_
            refine' wpAnyB_bulk [true, true, true, true, true] 100 (listed' := #[true, true, true, true, true, false]) rfl (by kernel_rfl) (by kernel_rfl) (by kernel_rfl) (by kernel_rfl) (by kernel_rfl) (by kernel_rfl) (by decide) (fun _ _ _ _ h => h) rfl ⟨TS.at_ h HX2.out, (TS.rest h).blk.some_ (i := 0) rfl⟩ (fun wq hq => ?_) ?_; rotate_left 1
            · simp only [maskL]
              obtain ⟨q2, q0⟩ := hq
              repeat (go_big_quiet_step (fail))
              exact wpQuiet_nil rfl
            refine wpAnyB_bar [false, false, false, false, false, true] (fuel := 0) (by rfl) (by rfl) (by kernel_rfl) (fun QB hQB hQX => ?_)
            simp only [maskL]
            go_wp2_with fail
            refine (ts_step w _ h HT.out.ok HX2.out).mono ?_
            rintro e v3 ⟨rfl, h6⟩
            rw [hd]
            clear h
            go_wp2_with fail
            refine hQB.out _ _ ⟨(TS.at_ h6 (List.getElem?_set_self tl)).trans rfl, (TS.rest h6).blk.some_ (i := 0) rfl⟩ ?_
            clear hQB hQX QB
            refine wpAnyB_done (by kernel_rfl) ?_ _
            have HT2 := hid (HT.out.step HX2.out)
            rw [HT.out.v5] at h6
            have H6 := hid h6
            clear h6 HT HX2
            go_wp2_with fail
            go_meet
            exact ⟨rfl, _, _, S, T, rfl, HT2.out, by omega, H6.out⟩
          · go_upto_region 19 with fail
            replace h := h.drew
            refine wp_region_brk [] (by kernel_rfl) ?_
            refine wpAnyB_now (fun w' => w'.cell? ⟨ga, t, none⟩ = some (.pointer (some ⟨mm.g, 0, none⟩)) ∧ w'.cell? ⟨gp, 0, none⟩ = some (.pointer (some ⟨m, 0, none⟩))) (fun _ _ => trivial) _ _ _ _ ?_
            refine' wpAnyB_bulk [true, true, true, true, true] 100 (listed' := #[true, true, true, true, true, false, false]) rfl (by kernel_rfl) (by kernel_rfl) (by kernel_rfl) (by kernel_rfl) (by kernel_rfl) (by kernel_rfl) (by decide) (fun _ _ _ _ h => h) rfl ⟨TS.at_ h HX2.out, (TS.rest h).blk.some_ (i := 0) rfl⟩ (fun wq hq => ?_) ?_; rotate_left 1
            · simp only [maskL]
              obtain ⟨q2, q0⟩ := hq
              repeat (go_big_quiet_step (fail))
              exact wpQuiet_nil rfl
            refine wpAnyB_bar [false, false, false, false, false, true] (fuel := 1) (by rfl) (by rfl) (by kernel_rfl) (fun QB hQB hQX => ?_)
            simp only [maskL]
            go_wp2_with fail
            refine (ts_ticket w _ h HX2.out tk0 (by omega)).mono ?_
            rintro e w' ⟨rfl, rfl⟩
            go_wp2_with fail
            refine hQB.out _ _ ⟨TS.at_ h HX2.out, (TS.rest h).blk.some_ (i := 0) rfl⟩ ?_
            clear hQB hQX QB
            refine wpAnyB_bar [false, false, false, false, false, false, true] (fuel := 0) (by rfl) (by rfl) (by kernel_rfl) (fun QB hQB hQX => ?_)
            simp only [maskL]
            go_wp2_with fail
            refine (ts_pass w _ h HT.out.ok mm.tk tk0 (by omega)).mono ?_
            rintro e v3 ⟨rfl, h6⟩
            clear h
            go_wp2_with fail
            refine hQB.out _ _ ⟨TS.at_ h6 HX2.out, (TS.rest h6).blk.some_ (i := 0) rfl⟩ ?_
            clear hQB hQX QB
            refine wpAnyB_done (by kernel_rfl) ?_ _
            have p3 : v3.cell? ⟨ga, t, none⟩ = some (.pointer (some ⟨mm.g, 0, none⟩)) := TS.at_ h6 HX2.out
            have z3 := TS.frozen h6 t
            have HT2 := hid (HT.out.pass HX2.out hd)
            have H7 := hid (TS.gone h6 tl)
            clear p2 z2 h6 HT HX2
            go_wp2_with fail
            go_meet
            exact ⟨rfl, _, _, S + 1, T, rfl, HT2.out, by omega, H7.out⟩
      case rest =>
      clear h HT hb hT
      obtain ⟨rfl, C, xs, S, T, rfl, hTI, hT, h⟩ := hcut
      have HT := hid hTI
      have hb := hTI.b
      clear hTI t4 t4' t0' e1 i0 i1
      go_upto_block 3 with fail
      go_cut [8, 9, 11] (fun s j u wx => j = .int .i64 i ∧ s = .int .i64 S ∧ Hold w wx (TS ga m C xs (prA gp m r * Asr.emp)) ∧ (u = .int .i64 0 ∨ u = .int .i64 1))
      case first =>
        go_wp2_with fail
        go_loopw [11, 12] (fun u k wx => ∃ (kn : Nat), kn ≤ 4 ∧ k = .int .i64 kn ∧ Hold w wx (TS ga m C xs (prA gp m r * Asr.emp)) ∧ (u = .int .i64 0 ∨ u = .int .i64 1 ∧ ∃ j mm, j < kn ∧ xs[j]? = some (some mm) ∧ mm.dn = true)) (fun _ k _ => 4 - (intOf k).toNat)
        case atStart => exact ⟨0, by omega, rfl, h, .inl rfl⟩
        case round =>
          clear h
          obtain ⟨k, hk, rfl, h, hu⟩ := hrel
          by_cases hlt2 : k < 4
          · have e2 : decide ((k : Int) < 4) = true := decide_eq_true (by omega)
            have k0' : (0 : Int) ≤ (k : Int) := by omega
            have k4' : (k : Int) < 4 := by omega
            have kl : k < xs.length := by rw [HT.out.len]; exact hlt2
            have Hu := hid hu
            clear hu
            cases ho : xs[k]'kl with
            | none =>
              have hx : xs[k]? = some none := by rw [List.getElem?_eq_getElem kl, ho]
              have p2 : wr.cell? ⟨ga, k, none⟩ = some (.pointer none) := TS.at_ h hx
              clear ho hx
              go_wp2_with fail
              go_round
              case rel => exact ⟨k + 1, by omega, by go_num, h, Hu.out.imp id fun ⟨h1, j, mm, h2, h3⟩ => ⟨h1, j, mm, by omega, h3⟩⟩
              case measure => simp [intOf]; omega
            | some mm =>
              have hx : xs[k]? = some (some mm) := by rw [List.getElem?_eq_getElem kl, ho]
              have p2 : wr.cell? ⟨ga, k, none⟩ = some (.pointer (some ⟨mm.g, 0, none⟩)) := TS.at_ h hx
              have hr := HT.out.rng k mm hx
              have HX2 := hid hx
              have tk0 : 0 ≤ mm.tk := by omega
              have tk1 : mm.tk ≤ 1000000 := by omega
              clear ho hx
              cases hd : mm.dn
              · go_wp2_with fail
                refine (ts_done w _ h HX2.out).mono ?_
                rintro e w' ⟨rfl, rfl⟩
                rw [hd]
                go_wp2_with fail
                go_round
                case rel => exact ⟨k + 1, by omega, by go_num, h, Hu.out.imp id fun ⟨h1, j, mm, h2, h3⟩ => ⟨h1, j, mm, by omega, h3⟩⟩
                case measure => simp [intOf]; omega
              · have hs := hr.2.2 hd
                have HDD := hid hd
                rcases Hu.out with rfl | ⟨_, j, m2, hj, hx2, hd2⟩
                · have e5 : (mm.tk != S) = false := by simp [hs]
                  clear hr hs
                  go_wp2_with fail
                  refine (ts_done w _ h HX2.out).mono ?_
                  rintro e w' ⟨rfl, rfl⟩
                  rw [HDD.out]
                  go_wp2_with fail
                  refine (ts_ticket w _ h HX2.out tk0 (by omega)).mono ?_
                  rintro e w' ⟨rfl, rfl⟩
                  go_wp2_with fail
                  go_round
                  case rel => exact ⟨k + 1, by omega, by go_num, h, .inr ⟨rfl, k, mm, by omega, HX2.out, HDD.out⟩⟩
                  case measure => simp [intOf]; omega
                · have hjk : j = k := HT.out.one hx2 HX2.out hd2 HDD.out
                  exact absurd hjk (Nat.ne_of_lt hj)
          · obtain rfl : k = 4 := by omega
            have e2 : decide (((4 : Nat) : Int) < 4) = false := rfl
            have Hu := hid hu
            clear hu
            go_wp2_with fail
            go_meet
            exact ⟨rfl, rfl, h, Hu.out.imp id fun h => h.1⟩
      case rest =>
      clear h
      obtain ⟨rfl, rfl, h, hu⟩ := hcut
      rcases hu with rfl | rfl
      · go_wp2_with fail
        go_round
        case rel => exact ⟨i + 1, C, xs, S, T, by omega, by go_num, rfl, HT.out, by omega, h⟩
        case measure => simp [intOf]; omega
      · go_wp2_with fail
        go_round
        case rel => exact ⟨i + 1, C, xs, S, T, by omega, by go_num, rfl, HT.out, by omega, h⟩
        case measure => simp [intOf]; omega
    · obtain rfl : i = n1 := by omega
      have e1 : decide ((i : Int) < (i : Int)) = false := by simp
      go_wp2_with fail
      refine (awake10_any w _ _ h).mono ?_
      rintro e v5 ⟨rfl, h6⟩
      have H6 := hid h6.below
      clear h h6
      go_wp2_with fail
      go_ret
      exact ⟨rfl, H6.out⟩
end Go.Proofs.Ytddghhddafeojaa
