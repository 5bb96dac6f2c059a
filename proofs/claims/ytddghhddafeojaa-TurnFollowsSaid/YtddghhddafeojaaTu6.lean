/- strongtxlaw10: TurnFollows. -/
import Derived.Test.YtddghhddafeojaaTr
namespace Go.Proofs.Ytddghhddafeojaa
open Go.RowKit
set_option linter.unusedVariables false

def rmA : Option TM → Asr
  | none => Asr.emp
  | some m => rtA m.g m.tk m.dn
/-- The reference's machines, their array, its cells. -/
def RS (gb r : Nat) (c : Cfg) (C : Nat → List Int) (ys : List (Option TM)) (R : Asr) : Asr := machs 67 gb (ys.map tmP) * (objs rmA ys * (refA r c C * R))
def RN (gb r g t : Nat) (c : Cfg) (C : Nat → List Int) (ys : List (Option TM)) (R : Asr) : Asr := rtA g (-1) false * (machs 67 gb ((ys.map tmP).set t (some g)) * (objs rmA ys * (refA r c C * R)))
section
variable {w0 w : World} {ga gb m r g g' t : Nat} {c : Cfg} {C D : Nat → List Int} {xs ys : List (Option TM)} {R p : Asr} {S T : Int} {mm nn : TM}
theorem swapTR (h : Hold w0 w (TS ga m C xs (RS gb r c D ys (p * R)))) : Hold w0 w (RS gb r c D ys (TS ga m C xs (p * R))) := Hold.pk7 h [3, 4, 5, 0, 1, 2, 6]
theorem swapRT (h : Hold w0 w (RS gb r c D ys (TS ga m C xs (p * R)))) : Hold w0 w (TS ga m C xs (RS gb r c D ys (p * R))) := Hold.pk7 h [3, 4, 5, 0, 1, 2, 6]
theorem swapNN (h : Hold w0 w (TN ga m g t C xs (RN gb r g' t c D ys (p * R)))) : Hold w0 w (RN gb r g' t c D ys (TN ga m g t C xs (p * R))) := Hold.pk9 h [4, 5, 6, 7, 0, 1, 2, 3, 8]
theorem swapRNT (h : Hold w0 w (TS ga m C xs (RN gb r g' t c D ys (p * R)))) : Hold w0 w (RN gb r g' t c D ys (TS ga m C xs (p * R))) := Hold.pk8 h [3, 4, 5, 6, 0, 1, 2, 7]
theorem pairOut (h : Hold w0 w (TS ga m C xs (RS gb r c D ys (p * R)))) : Hold w0 w (memA m C * (refA r c D * (machs 60 ga (xs.map tmP) * (objs tmA xs * (machs 67 gb (ys.map tmP) * (objs rmA ys * (p * R))))))) := Hold.pk7 h [2, 5, 0, 1, 3, 4, 6]
theorem pairIn (h : Hold w0 w (memA m C * (refA r c D * (machs 60 ga (xs.map tmP) * (objs tmA xs * (machs 67 gb (ys.map tmP) * (objs rmA ys * (p * R)))))))) : Hold w0 w (TS ga m C xs (RS gb r c D ys (p * R))) := Hold.pk7 h [2, 3, 0, 4, 5, 1, 6]
theorem RS.at_ (h : Hold w0 w (RS gb r c C ys R)) {o : Option TM} (ht : ys[t]? = some o) : w.cell? ⟨gb, t, none⟩ = some (ptrV (tmP o)) := Hold.machGet h (by simp [ht])
theorem RS.frozen (h : Hold w0 w (RS gb r c C ys R)) (t : Nat) : w.frozen? ⟨gb, t, none⟩ = false := Hold.machFrozen h t
theorem RS.tk (h : Hold w0 w (RS gb r c C ys R)) (ht : ys[t]? = some (some nn)) : w.cell? ⟨nn.g, 0, none⟩ = some (.int .i64 nn.tk) := (Hold.takeO (f := rmA) h.swap ht).blk.some_ (i := 0) rfl
theorem RS.dn (h : Hold w0 w (RS gb r c C ys R)) (ht : ys[t]? = some (some nn)) : w.cell? ⟨nn.g, 1, none⟩ = some (.bool nn.dn) := (Hold.takeO (f := rmA) h.swap ht).blk.some_ (i := 1) rfl
theorem RN.at_ (h : Hold w0 w (RN gb r g t c C ys R)) (ht : t < ys.length) : w.cell? ⟨gb, t, none⟩ = some (.pointer (some ⟨g, 0, none⟩)) := Hold.machGet (o := some g) h.drop (by simp [ht])
theorem RN.tk (h : Hold w0 w (RN gb r g t c C ys R)) : w.cell? ⟨g, 0, none⟩ = some (.int .i64 (-1)) := h.blk.some_ (i := 0) rfl
theorem RN.dn (h : Hold w0 w (RN gb r g t c C ys R)) : w.cell? ⟨g, 1, none⟩ = some (.bool false) := h.blk.some_ (i := 1) rfl
theorem RS.gone (h : Hold w0 w (RS gb r c C ys R)) (ht : t < ys.length) : Hold w0 (w.setCell ⟨gb, t, none⟩ (.pointer none)) (RS gb r c C (ys.set t none) R) := by
  have h1 := (Hold.machSet h t none).swap
  have ho : ys[t]? = some (ys[t]'ht) := List.getElem?_eq_getElem ht
  have h2 := ((h1.takeNone ho).giveNone ht (b := none) rfl).swap
  unfold RS
  rw [List.map_set]
  exact h2
theorem rs_pass (w0 w : World) (h : Hold w0 w (RS gb r c C ys R)) (hC : COk C) (tk : Int) (h0 : 0 ≤ tk) (h1 : tk ≤ 9223372036854775806) :
    Calls Try.prog 39 #[.pointer (some ⟨r, 0, none⟩), .int .i64 tk] w (RAccPost w0 (RS gb r c (opC C 5 0 (tk + 1) true) ys R) (opA C 2 5 0 (tk + 1) true)) :=
  (rt_pass w0 w _ r c C tk (h.pk3 [2, 0, 1]) hC h0 h1).mono fun e w' ⟨he, h'⟩ => ⟨he, h'.pk3 [1, 2, 0]⟩
theorem rs_step (w0 w : World) (h : Hold w0 w (RS gb r c C ys R)) (hC : COk C) (ht : ys[t]? = some (some nn)) (hd : nn.dn = false) (hg : 0 ≤ nn.tk ∧ nn.tk ≤ 1000000) :
    Calls Try.prog 40 #[.pointer (some ⟨nn.g, 0, none⟩), .pointer (some ⟨r, 0, none⟩)] w (RAccPost w0 (RS gb r c C (ys.set t (some ⟨nn.g, nn.tk, valC C 5 0 == nn.tk⟩)) R) ⟨1, 5, 0, valC C 5 0, valC C 5 0, true⟩) := by
  have hl : t < ys.length := (List.getElem?_eq_some_iff.1 ht).1
  have h1 := Hold.takeO (f := rmA) h.swap ht
  have h4 : Hold w0 w (rtA nn.g nn.tk nn.dn * (refA r c C * (objsBut rmA ys t * (machs 67 gb (ys.map tmP) * R)))) := h1.pk4 [0, 3, 1, 2]
  rw [hd] at h4
  refine (rt_step_wait w0 w _ nn.g r c C nn.tk _ h4 hC ((op_yes hC.has5 1 _).1) hg).mono fun e w' ⟨he, h'⟩ => ⟨he, ?_⟩
  have h2 : Hold w0 w' (rmA (some ⟨nn.g, nn.tk, valC C 5 0 == nn.tk⟩) * (objsBut rmA ys t * (machs 67 gb (ys.map tmP) * (refA r c C * R)))) := h'.pk4 [0, 2, 3, 1]
  have h3 := (h2.giveO hl).swap
  unfold RS
  rw [map_set_same ht (by rfl)]
  exact h3
theorem rs_take (w0 w : World) (h : Hold w0 w (RN gb r g t c C ys R)) (hC : COk C) (ht : ys[t]? = some none) (hv : 0 ≤ valC C 4 0 ∧ valC C 4 0 ≤ 1000000) :
    Calls Try.prog 40 #[.pointer (some ⟨g, 0, none⟩), .pointer (some ⟨r, 0, none⟩)] w
      (RAccPost w0 (RS gb r c (opC C 4 0 (IntKind.u64.wrap (valC C 4 0 + 1)) true) (ys.set t (some ⟨g, valC C 4 0, false⟩)) R) ⟨4, 4, 0, valC C 4 0, IntKind.u64.wrap (valC C 4 0 + 1), true⟩) := by
  have hl : t < ys.length := (List.getElem?_eq_some_iff.1 ht).1
  have h1 : Hold w0 w (rtA g (-1) false * (refA r c C * (objs rmA ys * (machs 67 gb ((ys.map tmP).set t (some g)) * R)))) := h.pk4 [0, 3, 2, 1]
  refine (rt_step_take w0 w _ g r c C _ _ h1 hC ((op_yes hC.has4 4 _).1) rfl hv).mono fun e w' ⟨he, h'⟩ => ⟨he, ?_⟩
  have h2 := (h'.pk4 [2, 0, 3, 1]).takeNone ht
  have h3 : Hold w0 w' (rmA (some ⟨g, valC C 4 0, false⟩) * (objsBut rmA ys t * (machs 67 gb ((ys.map tmP).set t (some g)) * (refA r c (opC C 4 0 (IntKind.u64.wrap (valC C 4 0 + 1)) true) * R)))) := h2.swap
  have h4 := (h3.giveO hl).swap
  unfold RS
  rw [List.map_set]
  exact h4
end
/-- Bounds of the counters and the tickets; the machines of both sides are alike. -/
structure TF (C : Nat → List Int) (xs ys : List (Option TM)) (B : Int) : Prop where
  ok : COk C
  v4 : 0 ≤ valC C 4 0 ∧ valC C 4 0 ≤ B
  v5 : 0 ≤ valC C 5 0 ∧ valC C 5 0 ≤ B
  len : xs.length = 4
  leny : ys.length = 4
  rng : ∀ (k : Nat) (m : TM), xs[k]? = some (some m) → 0 ≤ m.tk ∧ m.tk < B
  none_ : ∀ k : Nat, xs[k]? = some none → ys[k]? = some none
  some_ : ∀ (k : Nat) (m : TM), xs[k]? = some (some m) → ∃ n : TM, ys[k]? = some (some n) ∧ n.tk = m.tk ∧ n.dn = m.dn
theorem set_cases {α : Type} {xs : List α} {t k : Nat} {a b : α} (h : (xs.set t a)[k]? = some b) : (k = t ∧ b = a ∧ t < xs.length) ∨ (k ≠ t ∧ xs[k]? = some b) := by
  by_cases he : t = k
  · subst he
    have hl : t < xs.length := by
      have := (List.getElem?_eq_some_iff.1 h).1
      simpa using this
    rw [List.getElem?_set_self hl] at h
    exact .inl ⟨rfl, (Option.some.inj h).symm, hl⟩
  · rw [List.getElem?_set_ne he] at h
    exact .inr ⟨Ne.symm he, h⟩
theorem TF.set_some {C C' : Nat → List Int} {xs ys : List (Option TM)} {B B' : Int} (h : TF C xs ys B) (hB : B ≤ B') {t : Nat} (m n : TM) (hm : 0 ≤ m.tk ∧ m.tk < B') (hn : n.tk = m.tk ∧ n.dn = m.dn) (ok : COk C') (v4 : 0 ≤ valC C' 4 0 ∧ valC C' 4 0 ≤ B') (v5 : 0 ≤ valC C' 5 0 ∧ valC C' 5 0 ≤ B') : TF C' (xs.set t (some m)) (ys.set t (some n)) B' := by
  refine ⟨ok, v4, v5, by simp [h.len], by simp [h.leny], fun k p hk => ?_, fun k hk => ?_, fun k p hk => ?_⟩
  · rcases set_cases hk with ⟨_, he, _⟩ | ⟨_, hk⟩
    · obtain rfl := Option.some.inj he
      exact hm
    · have := h.rng k p hk; omega
  · rcases set_cases hk with ⟨_, he, _⟩ | ⟨hne, hk⟩
    · cases he
    · rw [List.getElem?_set_ne (Ne.symm hne)]; exact h.none_ k hk
  · rcases set_cases hk with ⟨rfl, he, hl⟩ | ⟨hne, hk⟩
    · obtain rfl := Option.some.inj he
      exact ⟨n, List.getElem?_set_self (by rw [h.leny, ← h.len]; exact hl), hn⟩
    · rw [List.getElem?_set_ne (Ne.symm hne)]; exact h.some_ k p hk
theorem TF.set_none {C C' : Nat → List Int} {xs ys : List (Option TM)} {B B' : Int} (h : TF C xs ys B) (hB : B ≤ B') {t : Nat} (ok : COk C') (v4 : 0 ≤ valC C' 4 0 ∧ valC C' 4 0 ≤ B') (v5 : 0 ≤ valC C' 5 0 ∧ valC C' 5 0 ≤ B') : TF C' (xs.set t none) (ys.set t none) B' := by
  refine ⟨ok, v4, v5, by simp [h.len], by simp [h.leny], fun k p hk => ?_, fun k hk => ?_, fun k p hk => ?_⟩
  · rcases set_cases hk with ⟨_, he, _⟩ | ⟨_, hk⟩
    · cases he
    · have := h.rng k p hk; omega
  · rcases set_cases hk with ⟨rfl, he, hl⟩ | ⟨hne, hk⟩
    · exact List.getElem?_set_self (by rw [h.leny, ← h.len]; exact hl)
    · rw [List.getElem?_set_ne (Ne.symm hne)]; exact h.none_ k hk
  · rcases set_cases hk with ⟨_, he, _⟩ | ⟨hne, hk⟩
    · cases he
    · rw [List.getElem?_set_ne (Ne.symm hne)]; exact h.some_ k p hk
theorem TF.init {C : Nat → List Int} {B : Int} (ok : COk C) (v4 : 0 ≤ valC C 4 0 ∧ valC C 4 0 ≤ B) (v5 : 0 ≤ valC C 5 0 ∧ valC C 5 0 ≤ B) : TF C [none, none, none, none] [none, none, none, none] B :=
  have no : ∀ (k : Nat) (m : TM), ([none, none, none, none] : List (Option TM))[k]? = some (some m) → False := fun k m hk => by
    match k, hk with
    | 0, hk => cases hk
    | 1, hk => cases hk
    | 2, hk => cases hk
    | 3, hk => cases hk
    | k + 4, hk => simp at hk
  ⟨ok, v4, v5, rfl, rfl, fun k m hk => (no k m hk).elim, fun k hk => hk, fun k m hk => (no k m hk).elim⟩
set_option maxRecDepth 8000 in
set_option maxHeartbeats 8000000 in
theorem turnFollows_any (l0 l1 l2 l3 l4 : Int) (a1 a2 : Int) (A1 : Option Addr) (n1 c1 b1 : Nat) (x1 : List Int) (w : World) (u1 : 0 ≤ a1 ∧ a1 < 18446744073709551616) (u2 : 0 ≤ a2 ∧ a2 < 18446744073709551616) (hA1 : Reads w b1 A1 n1 (x1.map (Value.int .i64))) (le1 : n1 ≤ 9223372036854775807) :
    Calls Try.prog 7 #[.agg #[.int .i64 l0, .int .i64 l1, .int .i64 l2, .int .i64 l3, .int .i64 l4], .int .u64 a1, .int .u64 a2, .slice A1 n1 c1] w (fun e w' => e = .returned (.bool true) ∧ Below w.heap.size w w') := by
  have HX := hid hA1
  clear hA1
  obtain ⟨c, hc⟩ : ∃ c, c = mkCfg l0 l1 l2 l3 l4 := ⟨_, rfl⟩
  have hok : cfgErr c = 0 := by rw [hc]; exact mkCfg_ok _ _ _ _ _
  have HF : Hid (∀ w, Calls Try.prog 61 #[.int .i64 l0, .int .i64 l1, .int .i64 l2, .int .i64 l3, .int .i64 l4] w (fun e w' => e = .returned c.val ∧ Chg [] w w')) := hid fun w => by rw [hc]; exact config_any w l0 l1 l2 l3 l4
  have HO := hid (new_ok4 hok)
  have HC := hid hok
  have h0 := hid ((Hold.start w).alloc (.cells #[.int .i64 l0, .int .i64 l1, .int .i64 l2, .int .i64 l3, .int .i64 l4] 57))
  clear hok hc
  by_cases hp : 60 < n1
  · have ep : decide ((60 : Int) < (n1 : Int)) = true := decide_eq_true (by omega)
    go_enter Try.func7, Try.ntmps7
    go_wp2_with fail
    refine (awake10_any w _ _ h0.out).mono ?_
    rintro e v3 ⟨rfl, h11⟩
    have H11 := hid h11.below
    clear h11
    go_wp2_with fail
    go_ret
    exact ⟨rfl, H11.out⟩
  have ep : decide ((60 : Int) < (n1 : Int)) = false := decide_eq_false (by omega)
  go_enter Try.func7, Try.ntmps7
  go_wp2_with fail
  refine (lab_small w _ _ c l0 l1 l2 l3 l4 HF.out HC.out h0.out).mono ?_
  rintro e v1 ⟨m, r, rfl, h1⟩
  obtain ⟨C0, hC0⟩ : ∃ C0, C0 = newC c 4 (initL c.words.toNat) := ⟨_, rfl⟩
  have hv4 : valC C0 4 0 = 0 := by rw [hC0]; rfl
  have hv5 : valC C0 5 0 = 0 := by rw [hC0]; rfl
  have hk0 : COk C0 := by rw [hC0]; exact HO.out
  rw [← hC0] at h1
  have H1 := hid (h1.newBlk (t := 27) (cs := #[.pointer (some ⟨m, 0, none⟩), .pointer (some ⟨r, 0, none⟩)]))
  have HK := hid hk0
  obtain ⟨z1, hz1⟩ : ∃ z1, z1 = a1 % 1000 := ⟨_, rfl⟩
  obtain ⟨z2, hz2⟩ : ∃ z2, z2 = a2 % 1000 := ⟨_, rfl⟩
  have z1b : 0 ≤ z1 ∧ z1 ≤ 1000 := by omega
  have z2b : 0 ≤ z2 ∧ z2 ≤ 1000 := by omega
  have HZ := hid (And.intro hz1 hz2)
  clear h0 h1 hC0 hv4 hv5 hk0 HO HC HF hz1 hz2
  go_upto_region 4 with fail
  have h1 := H1.out
  generalize hW : World.alloc _ _ = W1 at h1 ⊢
  generalize v1.heap.size = gp at h1 ⊢
  clear hW H1
  have p0 := h1.blk.some_ (i := 0) rfl
  have p1 := h1.blk.some_ (i := 1) rfl
  go_wp2_with fail
  rw [← HZ.out.1]
  refine (pair_set w _ _ m r c C0 4 0 z1 (h1.pk3 [1, 2, 0]) HK.out HK.out.has4 (by omega)).mono ?_
  rintro e v2 ⟨rfl, h2⟩
  obtain ⟨C1, hC1⟩ : ∃ C1, C1 = opC C0 4 0 z1 true := ⟨_, rfl⟩
  rw [← hC1] at h2
  have hk1 : COk C1 := by rw [hC1]; exact HK.out.opC _ _ _ _
  have hv1 : valC C1 4 0 = z1 := by rw [hC1]; exact valC_op_same HK.out.has4
  have HK1 := hid (And.intro hk1 hv1)
  clear hC1 hk1 hv1 h1 p0 p1 HK
  have p0 := h2.drop.drop.blk.some_ (i := 0) rfl
  have p1 := h2.drop.drop.blk.some_ (i := 1) rfl
  go_wp2_with fail
  rw [← HZ.out.2]
  refine (pair_set w _ _ m r c C1 5 0 z2 h2 HK1.out.1 HK1.out.1.has5 (by omega)).mono ?_
  rintro e v3 ⟨rfl, h3⟩
  obtain ⟨C, hC⟩ : ∃ C, C = opC C1 5 0 z2 true := ⟨_, rfl⟩
  rw [← hC] at h3
  have hk2 : COk C := by rw [hC]; exact HK1.out.1.opC _ _ _ _
  have hv4 : valC C 4 0 = z1 := by rw [hC]; exact (valC_op_ne (by decide)).trans HK1.out.2
  have hv5 : valC C 5 0 = z2 := by rw [hC]; exact valC_op_same HK1.out.1.has5
  have HI := hid (TF.init (B := 1000) hk2 (by omega) (by omega))
  have h4 := ((h3.newBlk (t := 60) (cs := #[.pointer none, .pointer none, .pointer none, .pointer none])).newBlk (t := 67) (cs := #[.pointer none, .pointer none, .pointer none, .pointer none]))
  simp only [World.size_alloc] at h4
  have H4 := hid h4
  clear hC hk2 hv4 hv5 h2 p0 p1 HK1 h3 h4 HZ
  go_wp2_with fail
  have h4 := H4.out
  generalize hW : World.alloc _ _ = W2 at h4 ⊢
  generalize v3.heap.size + 1 = gb at h4 ⊢
  generalize v3.heap.size = ga at h4 ⊢
  clear hW H4
  have hno : ∀ x ∈ ([none, none, none, none] : List (Option TM)), x = none := fun x hx => by simpa using hx
  have h5 : Hold w W2 (machs 67 gb (([none, none, none, none] : List (Option TM)).map tmP) * (refA r c C * (machs 60 ga (([none, none, none, none] : List (Option TM)).map tmP) * (memA m C * (prA gp m r * Asr.emp))))) := h4.pk5 [0, 3, 1, 2, 4]
  have h6 := h5.imp (Imp.under _ (Imp.objsEmp (f := rmA) (xs := [none, none, none, none]) (fun x hx => by rw [hno x hx]; rfl)))
  have h7 : Hold w W2 (RS gb r c C [none, none, none, none] (TS ga m C [none, none, none, none] (prA gp m r * Asr.emp))) := h6.imp (Imp.under _ (Imp.under _ (Imp.under _ (Imp.under _ (Imp.objsEmp (f := tmA) (xs := [none, none, none, none]) (fun x hx => by rw [hno x hx]; rfl))))))
  have h8 := swapRT h7
  clear h4 h5 h6 h7 hno
  go_loopw [13] (fun j wr => ∃ (i : Nat) (C : Nat → List Int) (xs ys : List (Option TM)), i ≤ n1 ∧ j = .int .i64 i ∧ TF C xs ys (1000 + i) ∧ Hold w wr (TS ga m C xs (RS gb r c C ys (prA gp m r * Asr.emp)))) (fun j _ => n1 - (intOf j).toNat)
  case atStart => exact ⟨0, C, _, _, by omega, rfl, HI.out, h8⟩
  case round =>
    clear h8 HI
    obtain ⟨i, C, xs, ys, hi, rfl, hTI, h⟩ := hrel
    have HT := hid hTI
    have b4 := hTI.v4
    have b5 := hTI.v5
    clear hTI
    by_cases hlt : i < n1
    · have e1 : decide ((i : Int) < (n1 : Int)) = true := decide_eq_true (by omega)
      have i0 : (0 : Int) ≤ (i : Int) := by omega
      have i1 : (i : Int) < (n1 : Int) := by omega
      obtain ⟨ad, rfl, _, hcell⟩ := (HX.out.below h.below).numAt hlt
      obtain ⟨z, hz⟩ : ∃ z, z = x1.getD i 0 := ⟨_, rfl⟩
      rw [← hz] at hcell
      clear hz
      obtain ⟨t, ht⟩ : ∃ t : Nat, place z 4 = t := ⟨(place z 4).toNat, by have := place_nonneg z 4 (by omega); omega⟩
      have t4 : t < 4 := by have := place_lt z 4 (by omega); omega
      have t4' : (t : Int) < 4 := by omega
      have t0' : (0 : Int) ≤ (t : Int) := by omega
      have Ht := hid ht
      clear ht
      go_wp2_with fail
      refine (place_any _ _ _ (by omega) (by omega)).mono ?_
      rintro e w' ⟨rfl, rfl⟩
      rw [Ht.out]
      clear Ht hcell
      have tl : t < xs.length := by rw [HT.out.len]; exact t4
      have tly : t < ys.length := by rw [HT.out.leny]; exact t4
      cases ho : xs[t]'tl with
      | none =>
        have hx : xs[t]? = some none := by rw [List.getElem?_eq_getElem tl, ho]
        have p2 : wr.cell? ⟨ga, t, none⟩ = some (.pointer none) := TS.at_ h hx
        have HX2 := hid hx
        have HY2 := hid (HT.out.none_ t hx)
        clear ho hx
        go_upto_region 13 with fail
        replace h := h.drew
        clear p2
        refine wp_region_brk [] (by kernel_rfl) ?_
        refine' wpAnyB_bulk [true, true] 152 (listed' := #[true, true, false, false, false, false, false, false]) rfl (by kernel_rfl) (by kernel_rfl) (by kernel_rfl) (by kernel_rfl) (by kernel_rfl) (by kernel_rfl) (by decide) (fun _ _ _ _ h => h) rfl trivial (fun wq hq => ?_) ?_; rotate_left 1
        · simp only [maskL]
          repeat (go_big_quiet_step (fail))
          exact wpQuiet_nil rfl
        refine wpAnyB_bar [false, false, true] (fuel := 5) (by rfl) (by rfl) (by kernel_rfl) (fun QB hQB hQX => ?_)
        simp only [maskL]
        go_wp2_with fail
        refine (turn_new w _ _ h).mono ?_
        rintro e v2 ⟨g, rfl, h4⟩
        clear h
        go_wp2_with fail
        refine hQB.out _ _ trivial ?_
        clear hQB hQX QB
        refine' wpAnyB_bulk [false, false, false, false, true] 152 (listed' := #[true, true, true, false, true, false, false, false]) rfl (by kernel_rfl) (by kernel_rfl) (by kernel_rfl) (by kernel_rfl) (by kernel_rfl) (by kernel_rfl) (by decide) (fun _ _ _ _ h => h) rfl trivial (fun wq hq => ?_) ?_; rotate_left 1
        · simp only [maskL]
          repeat (go_big_quiet_step (fail))
          exact wpQuiet_nil rfl
        refine wpAnyB_bar [false, false, false, true] (fuel := 3) (by rfl) (by rfl) (by kernel_rfl) (fun QB hQB hQX => ?_)
        simp only [maskL]
        go_wp2_with fail
        refine (rt_new w _ _ h4).mono ?_
        rintro e v3 ⟨g', rfl, h5⟩
        clear h4
        go_wp2_with fail
        refine hQB.out _ _ trivial ?_
        clear hQB hQX QB
        have h6 : Hold w v3 (tuA g false 0 false * (TS ga m C xs (rtA g' (-1) false * (RS gb r c C ys (prA gp m r * Asr.emp))))) := Hold.pk9 h5 [1, 2, 3, 4, 0, 5, 6, 7, 8]
        refine wpAnyB_bar [false, false, false, false, false, true] (fuel := 2) (by rfl) (by rfl) (by kernel_rfl) (fun QB hQB hQX => ?_)
        simp only [maskL]
        have p2 : v3.cell? ⟨ga, t, none⟩ = some (.pointer none) := TS.at_ h6.drop HX2.out
        have z2 := TS.frozen h6.drop t
        have H7 := hid (TS.born h6 t)
        clear h5 h6
        go_wp2_with fail
        refine hQB.out _ _ trivial ?_
        have h7 := H7.out
        generalize hW : World.setCell _ _ _ = W7 at h7 ⊢
        clear hQB hQX QB hW H7 p2 z2
        have h8 : Hold w W7 (machs 67 gb (ys.map tmP) * (objs rmA ys * (refA r c C * (rtA g' (-1) false * (TN ga m g t C xs (prA gp m r * Asr.emp)))))) := Hold.pk9 h7 [5, 6, 7, 4, 0, 1, 2, 3, 8]
        clear h7
        refine' wpAnyB_bulk [false, false, false, false, false, false, true] 152 (listed' := #[true, true, true, true, true, true, true, false]) rfl (by kernel_rfl) (by kernel_rfl) (by kernel_rfl) (by kernel_rfl) (by kernel_rfl) (by kernel_rfl) (by decide) (fun _ _ _ _ h => h) rfl trivial (fun wq hq => ?_) ?_; rotate_left 1
        · simp only [maskL]
          repeat (go_big_quiet_step (fail))
          exact wpQuiet_nil rfl
        refine wpAnyB_bar [false, false, false, false, false, false, false, true] (fuel := 0) (by rfl) (by rfl) (by kernel_rfl) (fun QB hQB hQX => ?_)
        simp only [maskL]
        have p2 : W7.cell? ⟨gb, t, none⟩ = some (.pointer none) := RS.at_ h8 HY2.out
        have z2 := RS.frozen h8 t
        have H9 := hid (Hold.machSet h8 t (some g'))
        clear h8
        go_wp2_with fail
        refine hQB.out _ _ trivial ?_
        have h9 := H9.out
        rw [show ptrV (some g') = .pointer (some ⟨g', 0, none⟩) from rfl] at h9
        generalize hW : World.setCell _ _ _ = W9 at h9 ⊢
        clear hQB hQX QB hW H9 p2 z2
        have h10 : Hold w W9 (TN ga m g t C xs (RN gb r g' t c C ys (prA gp m r * Asr.emp))) := Hold.pk9 h9 [4, 5, 6, 7, 3, 0, 1, 2, 8]
        clear h9
        refine wpAnyB_done (by kernel_rfl) ?_ _
        have p2 := TN.at_ h10 tl
        go_upto_region 16 with fail
        replace h10 := h10.drew
        clear p2
        have f4 : W9.drew.cell? ⟨ga, t, none⟩ = some (.pointer (some ⟨g, 0, none⟩)) ∧ W9.drew.cell? ⟨gb, t, none⟩ = some (.pointer (some ⟨g', 0, none⟩)) ∧ W9.drew.cell? ⟨g', 0, none⟩ = some (.int .i64 (-1)) ∧ W9.drew.cell? ⟨g', 1, none⟩ = some (.bool false) := ⟨TN.at_ h10 tl, RN.at_ (swapNN h10) tly, RN.tk (swapNN h10), RN.dn (swapNN h10)⟩
        have HF4 := hid f4
        clear f4
        refine wp_region_brk [] (by kernel_rfl) ?_
        refine wpAnyB_now (fun w' => w'.cell? ⟨ga, t, none⟩ = some (.pointer (some ⟨g, 0, none⟩)) ∧ w'.cell? ⟨gb, t, none⟩ = some (.pointer (some ⟨g', 0, none⟩)) ∧ w'.cell? ⟨g', 0, none⟩ = some (.int .i64 (-1)) ∧ w'.cell? ⟨g', 1, none⟩ = some (.bool false)) (fun _ _ => trivial) _ _ _ _ ?_
        refine' wpAnyB_bulk [true, true, true, false, true, true, true, true, true, true] 152 (listed' := #[true, true, true, false, true, true, true, true, true, true, false, false, false, false, false, false, false, false, false, false, false, false, false, false]) rfl (by kernel_rfl) (by kernel_rfl) (by kernel_rfl) (by kernel_rfl) (by kernel_rfl) (by kernel_rfl) (by decide) (fun _ _ _ _ h => h) rfl HF4.out (fun wq hq => ?_) ?_; rotate_left 1
        · simp only [maskL]
          obtain ⟨q1, q2, q3, q4⟩ := hq
          repeat (go_big_quiet_step (fail))
          exact wpQuiet_nil rfl
        refine wpAnyB_bar [false, false, false, true] (fuel := 14) (by rfl) (by rfl) (by kernel_rfl) (fun QB hQB hQX => ?_)
        simp only [maskL]
        go_wp2_with fail
        refine (turn_done w _ _ g false 0 false h10).mono ?_
        rintro e w' ⟨rfl, rfl⟩
        go_wp2_with fail
        refine hQB.out _ _ HF4.out ?_
        clear hQB hQX QB
        refine' wpAnyB_bulk [false, false, false, false, false, false, false, false, false, false, true, true, true, true, true, false, true, true, true, true, true, true] 152 (listed' := #[true, true, true, true, true, true, true, true, true, true, true, true, true, true, true, false, true, true, true, true, true, true, false, false]) rfl (by kernel_rfl) (by kernel_rfl) (by kernel_rfl) (by kernel_rfl) (by kernel_rfl) (by kernel_rfl) (by decide) (fun _ _ _ _ h => h) rfl HF4.out (fun wq hq => ?_) ?_; rotate_left 1
        · simp only [maskL]
          obtain ⟨q1, q2, q3, q4⟩ := hq
          repeat (go_big_quiet_step (fail))
          exact wpQuiet_nil rfl
        refine wpAnyB_bar [false, false, false, false, false, false, false, false, false, false, false, false, false, false, false, true] (fuel := 2) (by rfl) (by rfl) (by kernel_rfl) (fun QB hQB hQX => ?_)
        simp only [maskL]
        go_wp2_with fail
        refine (turn_ticket0 w _ _ g 0 false h10).mono ?_
        rintro e w' ⟨rfl, rfl⟩
        go_wp2_with fail
        refine hQB.out _ _ HF4.out ?_
        clear hQB hQX QB
        refine' wpAnyB_bulk [false, false, false, false, false, false, false, false, false, false, false, false, false, false, false, false, false, false, false, false, false, false, true, true] 152 (listed' := #[true, true, true, true, true, true, true, true, true, true, true, true, true, true, true, true, true, true, true, true, true, true, true, true]) rfl (by kernel_rfl) (by kernel_rfl) (by kernel_rfl) (by kernel_rfl) (by kernel_rfl) (by kernel_rfl) (by decide) (fun _ _ _ _ h => h) rfl HF4.out (fun wq hq => ?_) ?_; rotate_left 1
        · simp only [maskL]
          repeat (go_big_quiet_step (fail))
          exact wpQuiet_nil rfl
        refine wpAnyB_done (by kernel_rfl) ?_ _
        have p2 := HF4.out.2.1
        have p3 := HF4.out.2.2.2
        clear HF4
        go_upto_region 22 with fail
        replace h10 := h10.drew
        clear p2 p3
        refine wp_region_brk [] (by kernel_rfl) ?_
        refine wpAnyB_now (fun w' => w'.cell? ⟨ga, t, none⟩ = some (.pointer (some ⟨g, 0, none⟩)) ∧ w'.cell? ⟨gb, t, none⟩ = some (.pointer (some ⟨g', 0, none⟩)) ∧ w'.cell? ⟨gp, 0, none⟩ = some (.pointer (some ⟨m, 0, none⟩)) ∧ w'.cell? ⟨gp, 1, none⟩ = some (.pointer (some ⟨r, 0, none⟩))) (fun _ _ => trivial) _ _ _ _ ?_
        refine' wpAnyB_bulk [true, true, true, true, true, false, true, true, true, true, true] 152 (listed' := #[true, true, true, true, true, false, true, true, true, true, true, false, false, false, false, false, false, false]) rfl (by kernel_rfl) (by kernel_rfl) (by kernel_rfl) (by kernel_rfl) (by kernel_rfl) (by kernel_rfl) (by decide) (fun _ _ _ _ h => h) rfl ⟨TN.at_ h10 tl, RN.at_ (swapNN h10) tly, (TN.rest h10).drop.drop.drop.drop.blk.some_ (i := 0) rfl, (TN.rest h10).drop.drop.drop.drop.blk.some_ (i := 1) rfl⟩ (fun wq hq => ?_) ?_; rotate_left 1
        · simp only [maskL]
          obtain ⟨q1, q2, q3, q4⟩ := hq
          repeat (go_big_quiet_step (fail))
          exact wpQuiet_nil rfl
        refine wpAnyB_bar [false, false, false, false, false, true] (fuel := 7) (by rfl) (by rfl) (by kernel_rfl) (fun QB hQB hQX => ?_)
        simp only [maskL]
        go_wp2_with fail
        refine (ts_take w _ h10 HT.out.ok HX2.out).mono ?_
        rintro e w11 ⟨rfl, h11⟩
        clear h10
        go_wp2_with fail
        refine hQB.out _ _ ⟨(TS.at_ h11 (List.getElem?_set_self tl)).trans rfl, RN.at_ (swapRNT h11) tly, (TS.rest h11).drop.drop.drop.drop.blk.some_ (i := 0) rfl, (TS.rest h11).drop.drop.drop.drop.blk.some_ (i := 1) rfl⟩ ?_
        clear hQB hQX QB
        refine wpAnyB_bar [false, false, false, false, false, false, false, false, false, false, false, true] (fuel := 6) (by rfl) (by rfl) (by kernel_rfl) (fun QB hQB hQX => ?_)
        simp only [maskL]
        go_wp2_with fail
        refine (rs_take w _ (swapRNT h11) HT.out.ok HY2.out (by omega)).mono ?_
        rintro e w12 ⟨rfl, h12⟩
        have h13 := swapRT h12
        clear h11 h12
        go_wp2_with fail
        refine hQB.out _ _ ⟨(TS.at_ h13 (List.getElem?_set_self tl)).trans rfl, (RS.at_ (swapTR h13) (List.getElem?_set_self tly)).trans rfl, (TS.rest h13).drop.drop.drop.blk.some_ (i := 0) rfl, (TS.rest h13).drop.drop.drop.blk.some_ (i := 1) rfl⟩ ?_
        clear hQB hQX QB
        obtain ⟨C2, hC2⟩ : ∃ C2, C2 = opC C 4 0 (IntKind.u64.wrap (valC C 4 0 + 1)) true := ⟨_, rfl⟩
        obtain ⟨v4, hv4⟩ : ∃ v4, v4 = valC C 4 0 := ⟨_, rfl⟩
        have hTF : TF C2 (xs.set t (some ⟨g, v4, false⟩)) (ys.set t (some ⟨g', v4, false⟩)) (1000 + (i + 1 : Nat)) := by
          rw [hC2, hv4]
          refine HT.out.set_some (by omega) _ _ (by show 0 ≤ valC C 4 0 ∧ valC C 4 0 < _; omega) ⟨rfl, rfl⟩ (HT.out.ok.opC _ _ _ _) ?_ ?_
          · rw [valC_op_same HT.out.ok.has4, wrapu_small (by omega) (by omega)]; omega
          · rw [valC_op_ne (by decide)]; omega
        rw [← hC2, ← hv4] at h13
        have HT2 := hid hTF
        clear hC2 hv4 hTF
        refine' wpAnyB_bulk [false, false, false, false, false, false, false, false, false, false, false, false, true, true, true] 152 (listed' := #[true, true, true, true, true, true, true, true, true, true, true, true, true, true, true, false, false, false]) rfl (by kernel_rfl) (by kernel_rfl) (by kernel_rfl) (by kernel_rfl) (by kernel_rfl) (by kernel_rfl) (by decide) (fun _ _ _ _ h => h) rfl ⟨(TS.at_ h13 (List.getElem?_set_self tl)).trans rfl, (RS.at_ (swapTR h13) (List.getElem?_set_self tly)).trans rfl, (TS.rest h13).drop.drop.drop.blk.some_ (i := 0) rfl, (TS.rest h13).drop.drop.drop.blk.some_ (i := 1) rfl⟩ (fun wq hq => ?_) ?_; rotate_left 1
        · simp only [maskL]
          obtain ⟨q1, q2, q3, q4⟩ := hq
          repeat (go_big_quiet_step (fail))
          exact wpQuiet_nil rfl
        refine wpAnyB_bar [false, false, false, false, false, false, false, false, false, false, false, false, false, false, false, true] (fuel := 2) (by rfl) (by rfl) (by kernel_rfl) (fun QB hQB hQX => ?_)
        simp only [maskL]
        go_wp2_with fail
        refine (pair_same w _ _ m r c C2 (pairOut h13) HT2.out.ok).mono ?_
        rintro e w14 ⟨rfl, h14⟩
        replace h14 := pairIn h14
        clear h13
        go_wp2_with fail
        refine hQB.out _ _ ⟨(TS.at_ h14 (List.getElem?_set_self tl)).trans rfl, (RS.at_ (swapTR h14) (List.getElem?_set_self tly)).trans rfl, (TS.rest h14).drop.drop.drop.blk.some_ (i := 0) rfl, (TS.rest h14).drop.drop.drop.blk.some_ (i := 1) rfl⟩ ?_
        clear hQB hQX QB
        refine' wpAnyB_bulk [false, false, false, false, false, false, false, false, false, false, false, false, false, false, false, false, true, true] 152 (listed' := #[true, true, true, true, true, true, true, true, true, true, true, true, true, true, true, true, true, true]) rfl (by kernel_rfl) (by kernel_rfl) (by kernel_rfl) (by kernel_rfl) (by kernel_rfl) (by kernel_rfl) (by decide) (fun _ _ _ _ h => h) rfl ⟨(TS.at_ h14 (List.getElem?_set_self tl)).trans rfl, (RS.at_ (swapTR h14) (List.getElem?_set_self tly)).trans rfl, (TS.rest h14).drop.drop.drop.blk.some_ (i := 0) rfl, (TS.rest h14).drop.drop.drop.blk.some_ (i := 1) rfl⟩ (fun wq hq => ?_) ?_; rotate_left 1
        · simp only [maskL]
          repeat (go_big_quiet_step (fail))
          exact wpQuiet_nil rfl
        refine wpAnyB_done (by kernel_rfl) ?_ _
        have H15 := hid h14
        clear h14
        go_wp2_with fail
        go_round
        case rel => exact ⟨i + 1, C2, _, _, by omega, by go_num, HT2.out, H15.out⟩
        case measure => simp [intOf]; omega
      | some mm =>
        have hx : xs[t]? = some (some mm) := by rw [List.getElem?_eq_getElem tl, ho]
        have p2 : wr.cell? ⟨ga, t, none⟩ = some (.pointer (some ⟨mm.g, 0, none⟩)) := TS.at_ h hx
        have hr := HT.out.rng t mm hx
        obtain ⟨nn, hy, htk, hdn⟩ := HT.out.some_ t mm hx
        have HX2 := hid hx
        have HY2 := hid hy
        have HN := hid (And.intro htk hdn)
        have tk0 : 0 ≤ mm.tk := by omega
        have tk1 : mm.tk ≤ 1000000 := by omega
        have tkB : mm.tk < 1000 + (i : Int) := hr.2
        clear ho hx hr hy htk hdn
        have ed : (mm.dn != mm.dn) = false := by simp
        have et : (mm.tk != mm.tk) = false := by simp
        go_upto_region 16 with fail
        replace h := h.drew
        clear p2
        have f4 : wr.drew.cell? ⟨ga, t, none⟩ = some (.pointer (some ⟨mm.g, 0, none⟩)) ∧ wr.drew.cell? ⟨gb, t, none⟩ = some (.pointer (some ⟨nn.g, 0, none⟩)) ∧ wr.drew.cell? ⟨nn.g, 0, none⟩ = some (.int .i64 mm.tk) ∧ wr.drew.cell? ⟨nn.g, 1, none⟩ = some (.bool mm.dn) := by
          refine ⟨TS.at_ h HX2.out, RS.at_ (swapTR h) HY2.out, ?_, ?_⟩
          · rw [← HN.out.1]; exact RS.tk (swapTR h) HY2.out
          · rw [← HN.out.2]; exact RS.dn (swapTR h) HY2.out
        have HF4 := hid f4
        clear f4
        refine wp_region_brk [] (by kernel_rfl) ?_
        refine wpAnyB_now (fun w' => w'.cell? ⟨ga, t, none⟩ = some (.pointer (some ⟨mm.g, 0, none⟩)) ∧ w'.cell? ⟨gb, t, none⟩ = some (.pointer (some ⟨nn.g, 0, none⟩)) ∧ w'.cell? ⟨nn.g, 0, none⟩ = some (.int .i64 mm.tk) ∧ w'.cell? ⟨nn.g, 1, none⟩ = some (.bool mm.dn)) (fun _ _ => trivial) _ _ _ _ ?_
        refine' wpAnyB_bulk [true, true, true, false, true, true, true, true, true, true] 152 (listed' := #[true, true, true, false, true, true, true, true, true, true, false, false, false, false, false, false, false, false, false, false, false, false, false, false]) rfl (by kernel_rfl) (by kernel_rfl) (by kernel_rfl) (by kernel_rfl) (by kernel_rfl) (by kernel_rfl) (by decide) (fun _ _ _ _ h => h) rfl HF4.out (fun wq hq => ?_) ?_; rotate_left 1
        · simp only [maskL]
          obtain ⟨q1, q2, q3, q4⟩ := hq
          repeat (go_big_quiet_step (fail))
          exact wpQuiet_nil rfl
        refine wpAnyB_bar [false, false, false, true] (fuel := 14) (by rfl) (by rfl) (by kernel_rfl) (fun QB hQB hQX => ?_)
        simp only [maskL]
        go_wp2_with fail
        refine (ts_done w _ h HX2.out).mono ?_
        rintro e w' ⟨rfl, rfl⟩
        go_wp2_with fail
        refine hQB.out _ _ HF4.out ?_
        clear hQB hQX QB
        refine' wpAnyB_bulk [false, false, false, false, false, false, false, false, false, false, true, true, true, true, true, false, true, true, true, true, true, true] 152 (listed' := #[true, true, true, true, true, true, true, true, true, true, true, true, true, true, true, false, true, true, true, true, true, true, false, false]) rfl (by kernel_rfl) (by kernel_rfl) (by kernel_rfl) (by kernel_rfl) (by kernel_rfl) (by kernel_rfl) (by decide) (fun _ _ _ _ h => h) rfl HF4.out (fun wq hq => ?_) ?_; rotate_left 1
        · simp only [maskL]
          obtain ⟨q1, q2, q3, q4⟩ := hq
          repeat (go_big_quiet_step (fail))
          exact wpQuiet_nil rfl
        refine wpAnyB_bar [false, false, false, false, false, false, false, false, false, false, false, false, false, false, false, true] (fuel := 2) (by rfl) (by rfl) (by kernel_rfl) (fun QB hQB hQX => ?_)
        simp only [maskL]
        go_wp2_with fail
        refine (ts_ticket w _ h HX2.out tk0 (by omega)).mono ?_
        rintro e w' ⟨rfl, rfl⟩
        go_wp2_with fail
        refine hQB.out _ _ HF4.out ?_
        clear hQB hQX QB
        refine' wpAnyB_bulk [false, false, false, false, false, false, false, false, false, false, false, false, false, false, false, false, false, false, false, false, false, false, true, true] 152 (listed' := #[true, true, true, true, true, true, true, true, true, true, true, true, true, true, true, true, true, true, true, true, true, true, true, true]) rfl (by kernel_rfl) (by kernel_rfl) (by kernel_rfl) (by kernel_rfl) (by kernel_rfl) (by kernel_rfl) (by decide) (fun _ _ _ _ h => h) rfl HF4.out (fun wq hq => ?_) ?_; rotate_left 1
        · simp only [maskL]
          repeat (go_big_quiet_step (fail))
          exact wpQuiet_nil rfl
        refine wpAnyB_done (by kernel_rfl) ?_ _
        clear ed et
        have p2 := HF4.out.2.1
        have p3 := HF4.out.2.2.2
        cases hd : mm.dn
        · rw [hd] at p3
          go_upto_region 22 with fail
          replace h := h.drew
          clear p2 p3 HF4
          refine wp_region_brk [] (by kernel_rfl) ?_
          refine wpAnyB_now (fun w' => w'.cell? ⟨ga, t, none⟩ = some (.pointer (some ⟨mm.g, 0, none⟩)) ∧ w'.cell? ⟨gb, t, none⟩ = some (.pointer (some ⟨nn.g, 0, none⟩)) ∧ w'.cell? ⟨gp, 0, none⟩ = some (.pointer (some ⟨m, 0, none⟩)) ∧ w'.cell? ⟨gp, 1, none⟩ = some (.pointer (some ⟨r, 0, none⟩))) (fun _ _ => trivial) _ _ _ _ ?_
          refine' wpAnyB_bulk [true, true, true, true, true, false, true, true, true, true, true] 152 (listed' := #[true, true, true, true, true, false, true, true, true, true, true, false, false, false, false, false, false, false]) rfl (by kernel_rfl) (by kernel_rfl) (by kernel_rfl) (by kernel_rfl) (by kernel_rfl) (by kernel_rfl) (by decide) (fun _ _ _ _ h => h) rfl ⟨TS.at_ h HX2.out, RS.at_ (swapTR h) HY2.out, (TS.rest h).drop.drop.drop.blk.some_ (i := 0) rfl, (TS.rest h).drop.drop.drop.blk.some_ (i := 1) rfl⟩ (fun wq hq => ?_) ?_; rotate_left 1
          · simp only [maskL]
            obtain ⟨q1, q2, q3, q4⟩ := hq
            repeat (go_big_quiet_step (fail))
            exact wpQuiet_nil rfl
          refine wpAnyB_bar [false, false, false, false, false, true] (fuel := 7) (by rfl) (by rfl) (by kernel_rfl) (fun QB hQB hQX => ?_)
          simp only [maskL]
          go_wp2_with fail
          refine (ts_step w _ h HT.out.ok HX2.out).mono ?_
          rintro e w11 ⟨rfl, h11⟩
          rw [hd]
          clear h
          go_wp2_with fail
          refine hQB.out _ _ ⟨(TS.at_ h11 (List.getElem?_set_self tl)).trans rfl, RS.at_ (swapTR h11) HY2.out, (TS.rest h11).drop.drop.drop.blk.some_ (i := 0) rfl, (TS.rest h11).drop.drop.drop.blk.some_ (i := 1) rfl⟩ ?_
          clear hQB hQX QB
          refine wpAnyB_bar [false, false, false, false, false, false, false, false, false, false, false, true] (fuel := 6) (by rfl) (by rfl) (by kernel_rfl) (fun QB hQB hQX => ?_)
          simp only [maskL]
          go_wp2_with fail
          refine (rs_step w _ (swapTR h11) HT.out.ok HY2.out (HN.out.2.trans hd) (by rw [HN.out.1]; exact ⟨tk0, tk1⟩)).mono ?_
          rintro e w12 ⟨rfl, h12⟩
          have h13 := swapRT h12
          clear h11 h12
          go_wp2_with fail
          refine hQB.out _ _ ⟨(TS.at_ h13 (List.getElem?_set_self tl)).trans rfl, (RS.at_ (swapTR h13) (List.getElem?_set_self tly)).trans rfl, (TS.rest h13).drop.drop.drop.blk.some_ (i := 0) rfl, (TS.rest h13).drop.drop.drop.blk.some_ (i := 1) rfl⟩ ?_
          clear hQB hQX QB
          have hTF : TF C (xs.set t (some ⟨mm.g, mm.tk, mm.dn || (valC C 5 0 == mm.tk)⟩)) (ys.set t (some ⟨nn.g, nn.tk, valC C 5 0 == nn.tk⟩)) (1000 + (i + 1 : Nat)) := by
            refine HT.out.set_some (by omega) _ _ (by show 0 ≤ mm.tk ∧ mm.tk < _; omega) ⟨HN.out.1, ?_⟩ HT.out.ok (by omega) (by omega)
            show (valC C 5 0 == nn.tk) = (mm.dn || (valC C 5 0 == mm.tk))
            rw [HN.out.1, hd]; rfl
          have HT2 := hid hTF
          clear hTF
          refine' wpAnyB_bulk [false, false, false, false, false, false, false, false, false, false, false, false, true, true, true] 152 (listed' := #[true, true, true, true, true, true, true, true, true, true, true, true, true, true, true, false, false, false]) rfl (by kernel_rfl) (by kernel_rfl) (by kernel_rfl) (by kernel_rfl) (by kernel_rfl) (by kernel_rfl) (by decide) (fun _ _ _ _ h => h) rfl ⟨(TS.at_ h13 (List.getElem?_set_self tl)).trans rfl, (RS.at_ (swapTR h13) (List.getElem?_set_self tly)).trans rfl, (TS.rest h13).drop.drop.drop.blk.some_ (i := 0) rfl, (TS.rest h13).drop.drop.drop.blk.some_ (i := 1) rfl⟩ (fun wq hq => ?_) ?_; rotate_left 1
          · simp only [maskL]
            obtain ⟨q1, q2, q3, q4⟩ := hq
            repeat (go_big_quiet_step (fail))
            exact wpQuiet_nil rfl
          refine wpAnyB_bar [false, false, false, false, false, false, false, false, false, false, false, false, false, false, false, true] (fuel := 2) (by rfl) (by rfl) (by kernel_rfl) (fun QB hQB hQX => ?_)
          simp only [maskL]
          go_wp2_with fail
          refine (pair_same w _ _ m r c C (pairOut h13) HT2.out.ok).mono ?_
          rintro e w14 ⟨rfl, h14⟩
          replace h14 := pairIn h14
          clear h13
          go_wp2_with fail
          refine hQB.out _ _ ⟨(TS.at_ h14 (List.getElem?_set_self tl)).trans rfl, (RS.at_ (swapTR h14) (List.getElem?_set_self tly)).trans rfl, (TS.rest h14).drop.drop.drop.blk.some_ (i := 0) rfl, (TS.rest h14).drop.drop.drop.blk.some_ (i := 1) rfl⟩ ?_
          clear hQB hQX QB
          refine' wpAnyB_bulk [false, false, false, false, false, false, false, false, false, false, false, false, false, false, false, false, true, true] 152 (listed' := #[true, true, true, true, true, true, true, true, true, true, true, true, true, true, true, true, true, true]) rfl (by kernel_rfl) (by kernel_rfl) (by kernel_rfl) (by kernel_rfl) (by kernel_rfl) (by kernel_rfl) (by decide) (fun _ _ _ _ h => h) rfl ⟨(TS.at_ h14 (List.getElem?_set_self tl)).trans rfl, (RS.at_ (swapTR h14) (List.getElem?_set_self tly)).trans rfl, (TS.rest h14).drop.drop.drop.blk.some_ (i := 0) rfl, (TS.rest h14).drop.drop.drop.blk.some_ (i := 1) rfl⟩ (fun wq hq => ?_) ?_; rotate_left 1
          · simp only [maskL]
            repeat (go_big_quiet_step (fail))
            exact wpQuiet_nil rfl
          refine wpAnyB_done (by kernel_rfl) ?_ _
          have H15 := hid h14
          clear h14
          go_wp2_with fail
          go_round
          case rel => exact ⟨i + 1, C, _, _, by omega, by go_num, HT2.out, H15.out⟩
          case measure => simp [intOf]; omega
        · rw [hd] at p3
          go_upto_region 19 with fail
          replace h := h.drew
          clear p2 p3 HF4
          obtain ⟨ac, hac⟩ : ∃ ac, ac = opA C 2 5 0 (mm.tk + 1) true := ⟨_, rfl⟩
          have HAC := hid hac
          clear hac
          refine wp_region_brk [] (by kernel_rfl) ?_
          refine wpAnyB_now (fun w' => w'.cell? ⟨ga, t, none⟩ = some (.pointer (some ⟨mm.g, 0, none⟩)) ∧ w'.cell? ⟨gb, t, none⟩ = some (.pointer (some ⟨nn.g, 0, none⟩)) ∧ w'.cell? ⟨nn.g, 0, none⟩ = some (.int .i64 mm.tk) ∧ w'.cell? ⟨gp, 0, none⟩ = some (.pointer (some ⟨m, 0, none⟩)) ∧ w'.cell? ⟨gp, 1, none⟩ = some (.pointer (some ⟨r, 0, none⟩))) (fun _ _ => trivial) _ _ _ _ ?_
          refine' wpAnyB_bulk [true, true, true, true, true, true, true, true, false, true, true, true, true, true, true, true, true] 152 (listed' := #[true, true, true, true, true, true, true, true, false, true, true, true, true, true, true, true, true, false, false, false, false, false, false, false, false, false, false, false, false, false, false, false, false, false]) rfl (by kernel_rfl) (by kernel_rfl) (by kernel_rfl) (by kernel_rfl) (by kernel_rfl) (by kernel_rfl) (by decide) (fun _ _ _ _ h => h) rfl ⟨TS.at_ h HX2.out, RS.at_ (swapTR h) HY2.out, (RS.tk (swapTR h) HY2.out).trans (by rw [HN.out.1]), (TS.rest h).drop.drop.drop.blk.some_ (i := 0) rfl, (TS.rest h).drop.drop.drop.blk.some_ (i := 1) rfl⟩ (fun wq hq => ?_) ?_; rotate_left 1
          · simp only [maskL]
            obtain ⟨q1, q2, q5, q3, q4⟩ := hq
            repeat (go_big_quiet_step (fail))
            exact wpQuiet_nil rfl
          refine wpAnyB_bar [false, false, false, false, false, false, false, false, true] (fuel := 17) (by rfl) (by rfl) (by kernel_rfl) (fun QB hQB hQX => ?_)
          simp only [maskL]
          go_wp2_with fail
          refine (ts_pass w _ h HT.out.ok mm.tk tk0 (by omega)).mono ?_
          rintro e w11 ⟨rfl, h11⟩
          rw [← HAC.out]
          clear h
          go_wp2_with fail
          refine hQB.out _ _ ⟨TS.at_ h11 HX2.out, RS.at_ (swapTR h11) HY2.out, (RS.tk (swapTR h11) HY2.out).trans (by rw [HN.out.1]), (TS.rest h11).drop.drop.drop.blk.some_ (i := 0) rfl, (TS.rest h11).drop.drop.drop.blk.some_ (i := 1) rfl⟩ ?_
          clear hQB hQX QB
          refine wpAnyB_bar [false, false, false, false, false, false, false, false, false, false, false, false, false, false, false, false, false, true] (fuel := 16) (by rfl) (by rfl) (by kernel_rfl) (fun QB hQB hQX => ?_)
          simp only [maskL]
          go_wp2_with fail
          refine (rs_pass w _ (swapTR h11) HT.out.ok mm.tk tk0 (by omega)).mono ?_
          rintro e w12 ⟨rfl, h12⟩
          rw [← HAC.out]
          have h13 := swapRT h12
          clear h11 h12
          go_wp2_with fail
          refine hQB.out _ _ ⟨TS.at_ h13 HX2.out, RS.at_ (swapTR h13) HY2.out, (RS.tk (swapTR h13) HY2.out).trans (by rw [HN.out.1]), (TS.rest h13).drop.drop.drop.blk.some_ (i := 0) rfl, (TS.rest h13).drop.drop.drop.blk.some_ (i := 1) rfl⟩ ?_
          clear hQB hQX QB
          obtain ⟨C2, hC2⟩ : ∃ C2, C2 = opC C 5 0 (mm.tk + 1) true := ⟨_, rfl⟩
          have hTF : TF C2 (xs.set t none) (ys.set t none) (1000 + (i + 1 : Nat)) := by
            rw [hC2]
            refine HT.out.set_none (by omega) (HT.out.ok.opC _ _ _ _) ?_ ?_
            · rw [valC_op_ne (by decide)]; omega
            · rw [valC_op_same HT.out.ok.has5]; omega
          have hk2 : COk C2 := hTF.ok
          rw [← hC2] at h13
          have HT2 := hid (And.intro hTF hk2)
          clear hTF hk2 hC2
          refine' wpAnyB_bulk [false, false, false, false, false, false, false, false, false, false, false, false, false, false, false, false, false, false, true, true, true] 152 (listed' := #[true, true, true, true, true, true, true, true, true, true, true, true, true, true, true, true, true, true, true, true, true, false, false, false, false, false, false, false, false, false, false, false, false, false]) rfl (by kernel_rfl) (by kernel_rfl) (by kernel_rfl) (by kernel_rfl) (by kernel_rfl) (by kernel_rfl) (by decide) (fun _ _ _ _ h => h) rfl ⟨TS.at_ h13 HX2.out, RS.at_ (swapTR h13) HY2.out, (RS.tk (swapTR h13) HY2.out).trans (by rw [HN.out.1]), (TS.rest h13).drop.drop.drop.blk.some_ (i := 0) rfl, (TS.rest h13).drop.drop.drop.blk.some_ (i := 1) rfl⟩ (fun wq hq => ?_) ?_; rotate_left 1
          · simp only [maskL]
            obtain ⟨q1, q2, q5, q3, q4⟩ := hq
            repeat (go_big_quiet_step (fail))
            exact wpQuiet_nil rfl
          refine wpAnyB_bar [false, false, false, false, false, false, false, false, false, false, false, false, false, false, false, false, false, false, false, false, false, true] (fuel := 12) (by rfl) (by rfl) (by kernel_rfl) (fun QB hQB hQX => ?_)
          simp only [maskL]
          go_wp2_with fail
          refine (pair_same w _ _ m r c C2 (pairOut h13) HT2.out.2).mono ?_
          rintro e w14 ⟨rfl, h14⟩
          replace h14 := pairIn h14
          clear h13
          go_wp2_with fail
          refine hQB.out _ _ ⟨TS.at_ h14 HX2.out, RS.at_ (swapTR h14) HY2.out, (RS.tk (swapTR h14) HY2.out).trans (by rw [HN.out.1]), (TS.rest h14).drop.drop.drop.blk.some_ (i := 0) rfl, (TS.rest h14).drop.drop.drop.blk.some_ (i := 1) rfl⟩ ?_
          clear hQB hQX QB
          refine' wpAnyB_bulk [false, false, false, false, false, false, false, false, false, false, false, false, false, false, false, false, false, false, false, false, false, false, true, true, true, true, true, true, true, true, false, true] 152 (listed' := #[true, true, true, true, true, true, true, true, true, true, true, true, true, true, true, true, true, true, true, true, true, true, true, true, true, true, true, true, true, true, false, true, false, false]) rfl (by kernel_rfl) (by kernel_rfl) (by kernel_rfl) (by kernel_rfl) (by kernel_rfl) (by kernel_rfl) (by decide) (fun _ _ _ _ h => h) rfl ⟨TS.at_ h14 HX2.out, RS.at_ (swapTR h14) HY2.out, (RS.tk (swapTR h14) HY2.out).trans (by rw [HN.out.1]), (TS.rest h14).drop.drop.drop.blk.some_ (i := 0) rfl, (TS.rest h14).drop.drop.drop.blk.some_ (i := 1) rfl⟩ (fun wq hq => ?_) ?_; rotate_left 1
          · simp only [maskL]
            obtain ⟨q1, q2, q5, q3, q4⟩ := hq
            repeat (go_big_quiet_step (fail))
            exact wpQuiet_nil rfl
          refine wpAnyB_bar [false, false, false, false, false, false, false, false, false, false, false, false, false, false, false, false, false, false, false, false, false, false, false, false, false, false, false, false, false, false, true] (fuel := 2) (by rfl) (by rfl) (by kernel_rfl) (fun QB hQB hQX => ?_)
          simp only [maskL]
          go_wp2_with fail
          refine (ts_step w _ h14 HT2.out.2 HX2.out).mono ?_
          rintro e w15 ⟨rfl, h15⟩
          have h16 : Hold w w15 (TS ga m C2 xs (RS gb r c C2 ys (prA gp m r * Asr.emp))) := by
            have hs : xs.set t (some ⟨mm.g, mm.tk, mm.dn || (valC C2 5 0 == mm.tk)⟩) = xs := by
              rw [hd, Bool.true_or]
              refine List.ext_getElem? fun k => ?_
              by_cases hk : t = k
              · subst hk
                rw [List.getElem?_set_self tl, HX2.out, ← hd]
              · rw [List.getElem?_set_ne hk]
            rw [hs] at h15
            exact h15
          rw [hd, if_pos rfl]
          unfold acc0
          clear h14 h15
          go_wp2_with fail
          refine hQB.out _ _ ⟨TS.at_ h16 HX2.out, RS.at_ (swapTR h16) HY2.out, (RS.tk (swapTR h16) HY2.out).trans (by rw [HN.out.1]), (TS.rest h16).drop.drop.drop.blk.some_ (i := 0) rfl, (TS.rest h16).drop.drop.drop.blk.some_ (i := 1) rfl⟩ ?_
          clear hQB hQX QB
          refine' wpAnyB_bulk [false, false, false, false, false, false, false, false, false, false, false, false, false, false, false, false, false, false, false, false, false, false, false, false, false, false, false, false, false, false, false, false, true, true] 152 (listed' := #[true, true, true, true, true, true, true, true, true, true, true, true, true, true, true, true, true, true, true, true, true, true, true, true, true, true, true, true, true, true, true, true, true, true]) rfl (by kernel_rfl) (by kernel_rfl) (by kernel_rfl) (by kernel_rfl) (by kernel_rfl) (by kernel_rfl) (by decide) (fun _ _ _ _ h => h) rfl ⟨TS.at_ h16 HX2.out, RS.at_ (swapTR h16) HY2.out, (RS.tk (swapTR h16) HY2.out).trans (by rw [HN.out.1]), (TS.rest h16).drop.drop.drop.blk.some_ (i := 0) rfl, (TS.rest h16).drop.drop.drop.blk.some_ (i := 1) rfl⟩ (fun wq hq => ?_) ?_; rotate_left 1
          · simp only [maskL]
            repeat (go_big_quiet_step (fail))
            exact wpQuiet_nil rfl
          refine wpAnyB_done (by kernel_rfl) ?_ _
          have p2 : w15.cell? ⟨ga, t, none⟩ = some (.pointer (some ⟨mm.g, 0, none⟩)) := TS.at_ h16 HX2.out
          have z2 := TS.frozen h16 t
          have h17 := TS.gone h16 tl
          have p3 : (w15.setCell ⟨ga, t, none⟩ (.pointer none)).cell? ⟨gb, t, none⟩ = some (.pointer (some ⟨nn.g, 0, none⟩)) := RS.at_ (swapTR h17) HY2.out
          have z3 := RS.frozen (swapTR h17) t
          have H18 := hid (swapRT (RS.gone (swapTR h17) tly))
          clear h16 h17 HT HX2 HY2
          go_wp2_with fail
          go_round
          case rel => exact ⟨i + 1, C2, _, _, by omega, by go_num, HT2.out.1, H18.out⟩
          case measure => simp [intOf]; omega
    · obtain rfl : i = n1 := by omega
      have e1 : decide ((i : Int) < (i : Int)) = false := by simp
      go_wp2_with fail
      refine (awake10_any w _ _ h).mono ?_
      rintro e v5 ⟨rfl, h6⟩
      have H6 := hid h6.below
      clear h h6
      go_wp2_with fail
      go_ret
      exact ⟨rfl, H6.out⟩
end Go.Proofs.Ytddghhddafeojaa
