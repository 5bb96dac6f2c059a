/- strongtxlaw09: EpochGrace. -/
import Derived.Test.YtigjpfhjddkckaaEp2
import Derived.Test.YtigjpfhjddkckaaObj
namespace Go.Proofs.Ytigjpfhjddkckaa
open Go.RowKit
set_option linter.unusedVariables false

set_option maxRecDepth 8000 in
set_option maxHeartbeats 4000000 in
theorem pair_set2 (w0 w : World) (R : Asr) (g r : Nat) (c : Cfg) (C D : Nat → List Int) (cell index v : Int) (h : Hold w0 w (memA g C * (refA r c D * R))) (hC : COk C) (hh : hasC C cell index) (hD : COk D) (hhD : hasC D cell index) (hv : valC D cell index = valC C cell index) (hx : -9223372036854775808 ≤ index ∧ index ≤ 9223372036854775807) :
    Calls Try.prog 38 #[pairV g r, .int .i64 cell, .int .i64 index, .int .u64 v] w (BothPost w0 (.bool true) (memA g (opC C cell index v true) * (refA r c (opC D cell index v true) * R))) := by
  have HC := hid hC
  have HH := hid hh
  have HDD := hid hD
  have hkD : opA D 2 cell index v true = ⟨2, cell, index, valC C cell index, v, true⟩ := by rw [(op_yes hhD 2 v).1, hv]
  have HKD := hid hkD
  have h2 := (h.newBlk (t := 27) (cs := #[.pointer (some ⟨g, 0, none⟩), .pointer (some ⟨r, 0, none⟩)])).swap
  have H2 := hid h2
  clear h h2 hC hh hD hhD hv hkD
  go_enter Try.func38, Try.ntmps38
  go_wp2_with fail
  have h2 := H2.out
  clear H2
  generalize hgw : World.alloc _ _ = W at h2 ⊢
  generalize w.heap.size = gp at h2 ⊢
  clear hgw
  refine (mem_store w0 _ _ g C cell index v h2 hx HC.out.len).mono ?_
  rintro e w1 ⟨rfl, h3⟩
  obtain ⟨k1, k2, k3⟩ := op_yes HH.out 2 v
  rw [k1, k3]
  have K1 := hid k1
  have K2 := hid k2
  clear h2 k1 k2 k3
  have q1 := h3.drop.blk.some_ (i := 1) rfl
  have h4 := h3.newBlk (t := 50) (cs := #[.int .i64 2, .int .i64 cell, .int .i64 index, .int .u64 (valC C cell index), .int .u64 v, .bool true])
  have H4 := hid h4
  clear h3 h4
  go_wp2_with fail
  have h4 := H4.out
  clear H4
  generalize hgw : World.alloc _ _ = W2 at h4 ⊢
  generalize w1.heap.size = ga at h4 ⊢
  clear hgw q1
  replace h4 := h4.drew
  refine wp_region_brk [] (by kernel_rfl) ?_
  refine wpAnyB_now (fun w' => ∃ Z, Hold w0 w' (blkA 50 ga #[.int .i64 2, .int .i64 cell, .int .i64 index, .int .u64 (valC C cell index), .int .u64 v, .bool true] * (memA g (opC C cell index v true) * (blkA 27 gp #[.pointer (some ⟨g, 0, none⟩), .pointer (some ⟨r, 0, none⟩)] * Z)))) (fun _ _ => trivial) _ _ _ _ ?_
  refine' wpAnyB_bulk [true, true, true, true, true, true, true, true, true] 32 (listed' := #[true, true, true, true, true, true, true, true, true, false, false, false, false]) rfl (by kernel_rfl) (by kernel_rfl) (by kernel_rfl) (by kernel_rfl) (by kernel_rfl) (by kernel_rfl) (by decide) (fun _ _ _ _ h => h) rfl ⟨_, h4⟩ (fun wq hq => ?_) ?_; rotate_left 1
  · simp only [maskL]
    obtain ⟨Z, hq⟩ := hq
    have q0 := hq.drop.drop.blk.some_ (i := 0) rfl
    have q1 := hq.drop.drop.blk.some_ (i := 1) rfl
    obtain ⟨⟨x0, x1, x2, x3, x4, x5⟩, _⟩ := blk_acc hq.blk
    repeat (go_big_quiet_step (fail))
    exact wpQuiet_nil rfl
  refine wpAnyB_bar [false, false, false, false, false, false, false, false, false, true] (fuel := 3) (by rfl) (by rfl) (by kernel_rfl) (fun QB hQB hQX => ?_)
  simp only [maskL]
  go_wp2_with fail
  refine (ref_store w0 _ _ r c D cell index v h4.fourth HDD.out).mono ?_
  rintro e w2 ⟨rfl, h6⟩
  rw [HKD.out]
  replace h6 := h6.fourth'
  clear h4
  go_wp2_with fail
  refine hQB.out _ _ ⟨_, h6⟩ ?_
  clear hQB hQX QB
  refine' wpAnyB_bulk [false, false, false, false, false, false, false, false, false, false, true, true, true] 32 (listed' := #[true, true, true, true, true, true, true, true, true, true, true, true, true]) rfl (by kernel_rfl) (by kernel_rfl) (by kernel_rfl) (by kernel_rfl) (by kernel_rfl) (by kernel_rfl) (by decide) (fun _ _ _ _ h => h) rfl ⟨_, h6⟩ (fun wq hq => ?_) ?_; rotate_left 1
  · simp only [maskL]
    repeat (go_big_quiet_step (fail))
    exact wpQuiet_nil rfl
  refine wpAnyB_done (by kernel_rfl) ?_ _
  have H6 := hid (h6.drop.imp (Imp.under _ (Imp.drop _ _)))
  clear h6
  go_wp2_with fail
  go_ret
  exact ⟨rfl, H6.out⟩
structure EM where
  g : Nat
  th : Int
  nx : Int
  ck : Int
def enO : Option EM → Asr
  | none => Asr.emp
  | some m => enA m.g m.th m.nx m.ck
def enP (o : Option EM) : Option Nat := o.map EM.g
structure FM where
  g : Nat
  ld : Bool
  lim : Int
  nx : Int
def feO : Option FM → Asr
  | none => Asr.emp
  | some f => feA f.g 0 4 f.ld f.lim f.nx
/-- The word of a slot. -/
def sV : Option EM → Int
  | none => 0
  | some m => if m.nx ≤ 2 then 1 else m.ck + 2
theorem sV_some (m : EM) : sV (some m) = if m.nx ≤ 2 then 1 else m.ck + 2 := rfl
def sOf (xs : List (Option EM)) (k : Nat) : Int := sV (xs.getD k none)
theorem sOf_set {xs : List (Option EM)} {t : Nat} (ht : t < xs.length) (o : Option EM) (k : Nat) : sOf (xs.set t o) k = if k = t then sV o else sOf xs k := by
  unfold sOf
  by_cases he : k = t
  · subst he
    rw [if_pos rfl]
    simp [List.getD, ht]
  · rw [if_neg he]
    simp only [List.getD, List.getElem?_set_ne (Ne.symm he)]
structure GI (C D : Nat → List Int) (xs : List (Option EM)) (clk B : Int) : Prop where
  sl : SL C clk (sOf xs)
  sd : SL D clk (fun _ => 0)
  len : xs.length = 4
  cb : 0 ≤ clk ∧ clk ≤ B
  wf : ∀ (k : Nat) (m : EM), xs[k]? = some (some m) → m.th = k ∧ (m.nx = 1 ∨ m.nx = 2 ∨ m.nx = 3) ∧ 0 ≤ m.ck ∧ m.ck ≤ clk
/-- A slot that was passed. -/
def Pd (lim : Int) : Option EM → Prop
  | none => True
  | some m => m.nx = 1 ∨ lim ≤ m.ck
def GF (xs : List (Option EM)) (clk : Int) : Option FM → Prop
  | none => True
  | some f => (f.ld = false ∧ f.lim = 0 ∧ f.nx = 0) ∨ (f.ld = true ∧ 0 ≤ f.lim ∧ f.lim ≤ clk ∧ 1 ≤ f.nx ∧ f.nx ≤ 4 ∧ ∀ k : Nat, 1 ≤ k → (k : Int) < f.nx → Pd f.lim (xs.getD k none))
theorem set_cases {α : Type} {xs : List α} {t k : Nat} {a b : α} (h : (xs.set t a)[k]? = some b) : (k = t ∧ b = a ∧ t < xs.length) ∨ (k ≠ t ∧ xs[k]? = some b) := by
  by_cases he : t = k
  · subst he
    have hl : t < xs.length := by
      have := (List.getElem?_eq_some_iff.1 h).1
      simpa using this
    rw [List.getElem?_set_self hl] at h
    exact .inl ⟨rfl, (Option.some.inj h).symm, hl⟩
  · rw [List.getElem?_set_ne he] at h
    exact .inr ⟨Ne.symm he, h⟩
section
variable {C C' D D' : Nat → List Int} {xs : List (Option EM)} {clk B : Int} {t : Nat}
theorem GI.setSome (h : GI C D xs clk B) (ht : t < 4) (m : EM) (hs : SL C' clk (fun k => if k = t then sV (some m) else sOf xs k)) (hm : m.th = t ∧ (m.nx = 1 ∨ m.nx = 2 ∨ m.nx = 3) ∧ 0 ≤ m.ck ∧ m.ck ≤ clk) : GI C' D (xs.set t (some m)) clk B := by
  have hl : t < xs.length := by rw [h.len]; exact ht
  refine ⟨hs.eq fun k _ => (sOf_set hl _ k).symm, h.sd, by simp [h.len], h.cb, fun k n hk => ?_⟩
  rcases set_cases hk with ⟨rfl, he, _⟩ | ⟨_, hk⟩
  · obtain rfl := Option.some.inj he
    exact hm
  · exact h.wf k n hk
theorem GI.setNone (h : GI C D xs clk B) (ht : t < 4) (hs : SL C' clk (fun k => if k = t then 0 else sOf xs k)) : GI C' D (xs.set t none) clk B := by
  have hl : t < xs.length := by rw [h.len]; exact ht
  refine ⟨hs.eq fun k _ => (sOf_set hl none k).symm, h.sd, by simp [h.len], h.cb, fun k n hk => ?_⟩
  rcases set_cases hk with ⟨_, he, _⟩ | ⟨_, hk⟩
  · cases he
  · exact h.wf k n hk
theorem GI.tick (h : GI C D xs clk B) {d B' : Int} (hd : 0 ≤ d) (hB : clk + d ≤ B') : GI (opC C 3 0 (clk + d) true) (opC D 3 0 (clk + d) true) xs (clk + d) B' :=
  ⟨h.sl.clock _, h.sd.clock _, h.len, by have := h.cb; omega, fun k m hk => by have := h.wf k m hk; exact ⟨this.1, this.2.1, this.2.2.1, by omega⟩⟩
theorem GI.le (h : GI C D xs clk B) {B' : Int} (hB : B ≤ B') : GI C D xs clk B' := ⟨h.sl, h.sd, h.len, by have := h.cb; omega, h.wf⟩
theorem GF.tick {fo : Option FM} (h : GF xs clk fo) {d : Int} (hd : 0 ≤ d) : GF xs (clk + d) fo := by
  cases fo with
  | none => trivial
  | some f => exact h.imp id fun ⟨h1, h2, h3, h4⟩ => ⟨h1, h2, by omega, h4⟩
theorem GF.set {fo : Option FM} (h : GF xs clk fo) (hl : t < xs.length) {o : Option EM} (ho : ∀ lim, lim ≤ clk → Pd lim (xs.getD t none) → Pd lim o) : GF (xs.set t o) clk fo := by
  cases fo with
  | none => trivial
  | some f =>
    refine h.imp id fun ⟨h1, h2, h3, h4, h5, h6⟩ => ⟨h1, h2, h3, h4, h5, fun k k1 k2 => ?_⟩
    by_cases he : k = t
    · subst he
      have : (xs.set k o).getD k none = o := by simp [List.getD, hl]
      rw [this]
      exact ho _ h3 (h6 k k1 k2)
    · have : (xs.set t o).getD k none = xs.getD k none := by simp only [List.getD, List.getElem?_set_ne (Ne.symm he)]
      rw [this]
      exact h6 k k1 k2
/-- What the slots tell when a fence is over. -/
theorem GF.over {f : FM} (hI : GI C D xs clk B) (h : GF xs clk (some f)) (hd : f.ld = true) (hn : 4 ≤ f.nx) {k : Nat} (k1 : 1 ≤ k) (k4 : k < 4) : 2 ≤ sOf xs k → f.lim ≤ sOf xs k - 2 := by
  rcases h with ⟨h1, _⟩ | ⟨_, _, _, _, _, h6⟩
  · rw [hd] at h1; cases h1
  · have h7 := h6 k k1 (by omega)
    unfold sOf
    have hl : k < xs.length := by rw [hI.len]; exact k4
    cases ho : xs.getD k none with
    | none => intro h8; simp [sV] at h8
    | some m =>
      rw [ho] at h7
      have hx : xs[k]? = some (some m) := by
        rw [List.getElem?_eq_getElem hl]
        simpa [List.getD, List.getElem?_eq_getElem hl] using ho
      have hw := hI.wf k m hx
      intro h8
      rw [sV_some] at h8 ⊢
      by_cases h2 : m.nx ≤ 2
      · rw [if_pos h2] at h8; omega
      · rw [if_neg h2] at h8 ⊢
        rcases h7 with h7 | h7 <;> omega
end
/-- The threads' machines, their array, the cells. -/
def GS (ga m : Nat) (C : Nat → List Int) (xs : List (Option EM)) (R : Asr) : Asr := machs 93 ga (xs.map enP) * (objs enO xs * (memA m C * R))
def GN (ga m g t : Nat) (th : Int) (C : Nat → List Int) (xs : List (Option EM)) (R : Asr) : Asr := enA g th 0 0 * (machs 93 ga ((xs.map enP).set t (some g)) * (objs enO xs * (memA m C * R)))
theorem map_set_same {α β : Type} {f : α → β} {xs : List α} {t : Nat} {a b : α} (ht : xs[t]? = some a) (h : f b = f a) : (xs.set t b).map f = xs.map f := by
  rw [List.map_set, h]
  refine List.ext_getElem? fun k => ?_
  by_cases hk : t = k
  · subst hk
    rw [List.getElem?_set_self (by simpa using (List.getElem?_eq_some_iff.1 ht).1)]
    simp [ht]
  · rw [List.getElem?_set_ne hk]
section
variable {w0 w : World} {ga m g t : Nat} {th : Int} {C : Nat → List Int} {xs : List (Option EM)} {R : Asr} {mm : EM}
theorem GS.at_ (h : Hold w0 w (GS ga m C xs R)) {o : Option EM} (ht : xs[t]? = some o) : w.cell? ⟨ga, t, none⟩ = some (ptrV (enP o)) := Hold.machGet h (by simp [ht])
theorem GS.frozen (h : Hold w0 w (GS ga m C xs R)) (t : Nat) : w.frozen? ⟨ga, t, none⟩ = false := Hold.machFrozen h t
theorem GS.rest (h : Hold w0 w (GS ga m C xs R)) : Hold w0 w R := h.drop.drop.drop
theorem GS.born (h : Hold w0 w (enA g th 0 0 * GS ga m C xs R)) (t : Nat) : Hold w0 (w.setCell ⟨ga, t, none⟩ (.pointer (some ⟨g, 0, none⟩))) (GN ga m g t th C xs R) :=
  (Hold.machSet (h.swap) t (some g)).swap
theorem GN.at_ (h : Hold w0 w (GN ga m g t th C xs R)) (ht : t < xs.length) : w.cell? ⟨ga, t, none⟩ = some (.pointer (some ⟨g, 0, none⟩)) := Hold.machGet (o := some g) h.drop (by simp [ht])
theorem GN.rest (h : Hold w0 w (GN ga m g t th C xs R)) : Hold w0 w R := h.drop.drop.drop.drop
theorem GS.gone (h : Hold w0 w (GS ga m C xs R)) (ht : t < xs.length) : Hold w0 (w.setCell ⟨ga, t, none⟩ (.pointer none)) (GS ga m C (xs.set t none) R) := by
  have h1 := (Hold.machSet h t none).swap
  have ho : xs[t]? = some (xs[t]'ht) := List.getElem?_eq_getElem ht
  have h2 := ((h1.takeNone ho).giveNone ht (b := none) rfl).swap
  unfold GS
  rw [List.map_set]
  exact h2
theorem gs_done (w0 w : World) (h : Hold w0 w (GS ga m C xs R)) (ht : xs[t]? = some (some mm)) : Calls Try.prog 54 #[.pointer (some ⟨mm.g, 0, none⟩)] w fun e w' => e = .returned (.bool (mm.nx == 3)) ∧ w = w' :=
  en_done w0 w _ mm.g mm.th mm.nx mm.ck (Hold.takeO (f := enO) h.swap ht)
theorem gs_step (w0 w : World) {C2 : Nat → List Int} {nx2 ck2 : Int} {ac : Acc} (h : Hold w0 w (GS ga m C xs R)) (ht : xs[t]? = some (some mm))
    (K : ∀ R', Hold w0 w (enA mm.g mm.th mm.nx mm.ck * (memA m C * R')) → Calls Try.prog 49 #[.pointer (some ⟨mm.g, 0, none⟩), .pointer (some ⟨m, 0, none⟩)] w (RAccPost w0 (enA mm.g mm.th nx2 ck2 * (memA m C2 * R')) ac)) :
    Calls Try.prog 49 #[.pointer (some ⟨mm.g, 0, none⟩), .pointer (some ⟨m, 0, none⟩)] w (RAccPost w0 (GS ga m C2 (xs.set t (some ⟨mm.g, mm.th, nx2, ck2⟩)) R) ac) := by
  have hl : t < xs.length := (List.getElem?_eq_some_iff.1 ht).1
  have h1 := Hold.takeO (f := enO) h.swap ht
  have h4 : Hold w0 w (enA mm.g mm.th mm.nx mm.ck * (memA m C * (objsBut enO xs t * (machs 93 ga (xs.map enP) * R)))) := h1.pk4 [0, 3, 1, 2]
  refine (K _ h4).mono fun e w' ⟨he, h'⟩ => ⟨he, ?_⟩
  have h2 : Hold w0 w' (enO (some ⟨mm.g, mm.th, nx2, ck2⟩) * (objsBut enO xs t * (machs 93 ga (xs.map enP) * (memA m C2 * R)))) := h'.pk4 [0, 2, 3, 1]
  have h3 := (h2.giveO hl).swap
  unfold GS
  rw [map_set_same ht (by rfl)]
  exact h3
theorem gn_step (w0 w : World) {C2 : Nat → List Int} {ac : Acc} (h : Hold w0 w (GN ga m g t th C xs R)) (ht : xs[t]? = some none)
    (K : ∀ R', Hold w0 w (enA g th 0 0 * (memA m C * R')) → Calls Try.prog 49 #[.pointer (some ⟨g, 0, none⟩), .pointer (some ⟨m, 0, none⟩)] w (RAccPost w0 (enA g th 1 0 * (memA m C2 * R')) ac)) :
    Calls Try.prog 49 #[.pointer (some ⟨g, 0, none⟩), .pointer (some ⟨m, 0, none⟩)] w (RAccPost w0 (GS ga m C2 (xs.set t (some ⟨g, th, 1, 0⟩)) R) ac) := by
  have hl : t < xs.length := (List.getElem?_eq_some_iff.1 ht).1
  have h1 : Hold w0 w (enA g th 0 0 * (memA m C * (objs enO xs * (machs 93 ga ((xs.map enP).set t (some g)) * R)))) := h.pk4 [0, 3, 2, 1]
  refine (K _ h1).mono fun e w' ⟨he, h'⟩ => ⟨he, ?_⟩
  have h2 := (h'.pk4 [2, 0, 3, 1]).takeNone ht
  have h3 : Hold w0 w' (enO (some ⟨g, th, 1, 0⟩) * (objsBut enO xs t * (machs 93 ga ((xs.map enP).set t (some g)) * (memA m C2 * R)))) := h2.swap
  have h4 := (h3.giveO hl).swap
  unfold GS
  rw [List.map_set]
  exact h4
/-- A step of the fence: what is left of it. -/
theorem gf_step (w0 w : World) {D : Nat → List Int} {clk B : Int} {f : FM} (h : Hold w0 w (feA f.g 0 4 f.ld f.lim f.nx * (memA m C * R))) (hI : GI C D xs clk B) (hF : GF xs clk (some f)) (hB : B ≤ 1000000) :
    Calls Try.prog 45 #[.pointer (some ⟨f.g, 0, none⟩), .pointer (some ⟨m, 0, none⟩)] w (fun e w' => ∃ (ac : Acc) (f2 : FM), f2.g = f.g ∧ e = .returned ac.val ∧ Hold w0 w' (feA f2.g 0 4 f2.ld f2.lim f2.nx * (memA m C * R)) ∧ GF xs clk (some f2)) := by
  have cb := hI.cb
  obtain ⟨g, ld, lim, nx⟩ := f
  rcases hF with ⟨h1, h2, h3⟩ | ⟨h1, h2, h3, h4, h5, h6⟩
  · simp only at h1 h2 h3
    subst h1 h2 h3
    refine (fe_step_load w0 w R g m C 0 4 0 0 _ h hI.sl.ok (by decide) hI.sl.op3).mono fun e w' ⟨he, h'⟩ => ⟨_, ⟨g, true, clk, 1⟩, rfl, he, h', .inr ⟨rfl, cb.1, Int.le_refl _, by show (1 : Int) ≤ 1; decide, by show (1 : Int) ≤ 4; decide, fun k k1 k2 => by simp only at k2; omega⟩⟩
  · simp only at h1 h2 h3 h4 h5 h6
    subst h1
    by_cases hn : 4 ≤ nx
    · exact (fe_step_done w0 w _ g _ 0 4 lim nx h hn).mono fun e w' ⟨he, h'⟩ => ⟨_, ⟨g, true, lim, nx⟩, rfl, he, h', .inr ⟨rfl, h2, h3, h4, h5, h6⟩⟩
    · obtain ⟨k, rfl⟩ : ∃ k : Nat, nx = k := ⟨nx.toNat, by omega⟩
      have hk : k < 4 := by omega
      have hl : k < xs.length := by rw [hI.len]; exact hk
      obtain ⟨o, ho⟩ : ∃ o, o = xs.getD k none := ⟨_, rfl⟩
      have hx : xs[k]? = some o := by
        rw [List.getElem?_eq_getElem hl, ho]
        simp [List.getD, List.getElem?_eq_getElem hl]
      have hsb : 0 ≤ sV o ∧ sV o ≤ 1000002 := by
        cases o with
        | none => exact ⟨by decide, by decide⟩
        | some q => have := hI.wf k q hx; rw [sV_some]; split <;> omega
      have hso : sOf xs k = sV o := by unfold sOf; rw [ho]
      refine (fe_step_watch w0 w R g m C 0 4 lim k ⟨1, 6, k, sV o, sV o, true⟩ h hI.sl.ok (by omega) (by omega) (by show 0 ≤ sV o ∧ sV o < 18446744073709551616; omega) (by have := hI.sl.op6 hk; rw [hso] at this; exact this)).mono fun e w' ⟨he, h'⟩ => ⟨_, ⟨g, true, lim, fenN 0 lim k (sV o)⟩, rfl, he, h', ?_⟩
      unfold fenN
      cases hp : passB (sV o) lim
      · rw [if_neg (by simp)]
        exact .inr ⟨rfl, h2, h3, h4, h5, h6⟩
      · rw [if_pos rfl, show skipN 0 ((k : Int) + 1) = (k : Int) + 1 from if_neg (by omega)]
        refine .inr ⟨rfl, h2, h3, by show 1 ≤ (k : Int) + 1; omega, by show (k : Int) + 1 ≤ 4; omega, fun j j1 j2 => ?_⟩
        by_cases hj : (j : Int) < k
        · exact h6 j j1 hj
        · have j3 : (j : Int) < (k : Int) + 1 := j2
          have hjk : j = k := by omega
          subst hjk
          rw [← ho]
          cases o with
          | none => trivial
          | some q =>
            have hw := hI.wf j q hx
            rw [sV_some] at hp
            by_cases hq : q.nx ≤ 2
            · rw [if_pos hq] at hp
              simp [passB] at hp
            · rw [if_neg hq] at hp
              simp only [passB, Bool.or_eq_true, Bool.and_eq_true, beq_iff_eq, decide_eq_true_eq] at hp
              have h9 : lim ≤ q.ck := by omega
              exact .inr h9
end
end Go.Proofs.Ytigjpfhjddkckaa
