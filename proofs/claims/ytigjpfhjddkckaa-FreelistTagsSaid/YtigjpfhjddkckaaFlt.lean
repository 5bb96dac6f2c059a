/- strongtxlaw11: FreelistTags. -/
import Derived.Test.YtigjpfhjddkckaaFle
import Derived.Test.YtigjpfhjddkckaaArrP
import Derived.Test.YtigjpfhjddkckaaWd
namespace Go.Proofs.Ytigjpfhjddkckaa
open Go.RowKit
set_option linter.unusedVariables false

theorem PW.mono {hs ns : List Int} {B B' : Int} {m : PM} (p : PW hs ns B m) (h : B ≤ B') : PW hs ns B' m := ⟨p.c, p.a, p.n, fun ha => ⟨(p.h ha).1.mono h, (p.h ha).2⟩, p.x⟩
theorem PW.setH {hs ns : List Int} {B B' : Int} {m : PM} {k : Nat} {v : Int} (p : PW hs ns B m) (hl : k < hs.length) (hv : v / 65536 = hs.getD k 0 / 65536 + 1) (h : B ≤ B') : PW (hs.set k v) ns B' m :=
  ⟨p.c, p.a, p.n, fun ha => ⟨(p.h ha).1.set hl hv h, (p.h ha).2⟩, fun ha he => by
    rw [getD_set hl] at he
    split at he
    · rename_i hc2
      have h1 := (p.h (by omega)).1.le
      rw [hc2] at h1
      rw [he] at h1
      omega
    · exact p.x ha he⟩
/-- The machines of Tags: those that have finished stay. -/
structure TGI (hs ns : List Int) (xs : List (Option PM)) (B : Int) : Prop where
  fi : FI hs ns B
  bb : B ≤ 1000
  len : xs.length = 4
  px : ∀ (t : Nat) (m : PM), xs[t]? = some (some m) → m.at_ = 3 ∨ PW hs ns B m
section
variable {hs ns : List Int} {xs : List (Option PM)} {B : Int} {t : Nat} {m : PM}
theorem TGI.put (h : TGI hs ns xs B) {m' : PM} (p : PW hs ns B m') : TGI hs ns (xs.set t (some m')) B :=
  ⟨h.fi, h.bb, by simp [h.len], fun k q hk => by
    rcases set_cases hk with ⟨_, he, _⟩ | ⟨_, hk⟩
    · obtain rfl := Option.some.inj he
      exact .inr p
    · exact h.px k q hk⟩
/-- What a step does to the heads. -/
theorem pop_heads (f : FI hs ns B) (hB : B ≤ 1000) (p : PW hs ns B m) :
    ((popA hs ns m).kind = 1 ∧ popH hs m = hs) ∨ ((popA hs ns m).kind = 3 ∧ (popA hs ns m).done = false ∧ popH hs m = hs) ∨
    ((popA hs ns m).kind = 3 ∧ (popA hs ns m).done = true ∧ (popA hs ns m).index = m.cl ∧ ∃ v, popH hs m = hs.set m.cl v ∧ v / 65536 = hs.getD m.cl 0 / 65536 + 1 ∧ 0 ≤ v ∧ v % 65536 ≤ 6) := by
  have pa := p.a
  obtain h0 | h0 | h0 : m.at_ = 0 ∨ m.at_ = 1 ∨ m.at_ = 2 := by omega
  · exact .inl ⟨by simp [popA, h0], by simp [popH, h0]⟩
  · exact .inl ⟨by simp [popA, h0], by simp [popH, h0]⟩
  · by_cases he : hs.getD m.cl 0 = m.hd
    · obtain ⟨hw, h1⟩ := p.h (by omega)
      have hb := bumpV_tag (t := m.nx - 1) hw.b (by have := hw.t; omega) (by have := p.n; omega)
      have e1 : popA hs ns m = ⟨3, 7, m.cl, m.hd, bumpV m.hd (m.nx - 1), true⟩ := by unfold popA; rw [if_neg (by omega), if_neg (by omega), if_pos he]
      have e2 : popH hs m = hs.set m.cl (bumpV m.hd (m.nx - 1)) := if_pos ⟨h0, he⟩
      exact .inr (.inr ⟨by rw [e1], by rw [e1], by rw [e1], _, e2, by rw [he]; exact hb.1, hb.2.2, by rw [hb.2.1]; have := p.n; omega⟩)
    · have e1 : popA hs ns m = ⟨3, 7, m.cl, hs.getD m.cl 0, hs.getD m.cl 0, false⟩ := by unfold popA; rw [if_neg (by omega), if_neg (by omega), if_neg he]
      exact .inr (.inl ⟨by rw [e1], by rw [e1], if_neg (fun h => he h.2)⟩)
theorem pop_next (f : FI hs ns B) (hB : B ≤ 1000) (p : PW hs ns B m) : (popN hs ns m).at_ = 3 ∨ (popH hs m = hs ∧ PW hs ns B (popN hs ns m)) := by
  have pa := p.a
  obtain h0 | h0 | h0 : m.at_ = 0 ∨ m.at_ = 1 ∨ m.at_ = 2 := by omega
  · by_cases hz : hs.getD m.cl 0 % 65536 = 0
    · exact .inl (by unfold popN; rw [if_pos h0]; exact if_pos hz)
    · refine .inr ⟨by simp [popH, h0], ?_⟩
      have e : popN hs ns m = { m with at_ := 1, hd := hs.getD m.cl 0 } := by unfold popN; rw [if_pos h0, if_neg hz]
      rw [e]
      exact ⟨p.c, by show 1 ≤ 2; omega, p.n, fun _ => ⟨f.now p.c, by show 1 ≤ hs.getD m.cl 0 % 65536; omega⟩, fun h => (by cases h)⟩
  · refine .inr ⟨by simp [popH, h0], ?_⟩
    have e : popN hs ns m = { m with at_ := 2, nx := ns.getD (m.hd % 65536 - 1).toNat 0 } := by unfold popN; rw [if_neg (by omega), if_pos h0]
    rw [e]
    exact ⟨p.c, by show 2 ≤ 2; omega, f.nb _, fun _ => p.h (by omega), fun _ _ => rfl⟩
  · by_cases he : hs.getD m.cl 0 = m.hd
    · exact .inl (by unfold popN; rw [if_neg (by omega), if_neg (by omega), if_pos he])
    · refine .inr ⟨if_neg (fun h => he h.2), ?_⟩
      have e : popN hs ns m = { m with at_ := 0 } := by unfold popN; rw [if_neg (by omega), if_neg (by omega), if_neg he]
      rw [e]
      exact ⟨p.c, by show 0 ≤ 2; omega, p.n, fun h => absurd h (by show ¬ 1 ≤ 0; omega), fun h => (by cases h)⟩
theorem TGI.step (h : TGI hs ns xs B) (hB : B + 1 ≤ 1000) (p : PW hs ns B m) : TGI (popH hs m) ns (xs.set t (some (popN hs ns m))) (B + 1) := by
  have hkl : m.cl < hs.length := by rw [h.fi.hl]; exact p.c
  have nxt := pop_next h.fi h.bb p
  rcases pop_heads h.fi h.bb p with ⟨_, he⟩ | ⟨_, _, he⟩ | ⟨_, _, _, v, he, hv, v0, v6⟩
  · rw [he] at nxt ⊢
    refine ⟨h.fi.le (by omega), hB, by simp [h.len], fun k q hk => ?_⟩
    rcases set_cases hk with ⟨_, he, _⟩ | ⟨_, hk⟩
    · obtain rfl := Option.some.inj he
      exact nxt.imp id fun h => h.2.mono (by omega)
    · exact (h.px k q hk).imp id fun h => h.mono (by omega)
  · rw [he] at nxt ⊢
    refine ⟨h.fi.le (by omega), hB, by simp [h.len], fun k q hk => ?_⟩
    rcases set_cases hk with ⟨_, he, _⟩ | ⟨_, hk⟩
    · obtain rfl := Option.some.inj he
      exact nxt.imp id fun h => h.2.mono (by omega)
    · exact (h.px k q hk).imp id fun h => h.mono (by omega)
  · rw [he] at nxt ⊢
    refine ⟨h.fi.setH p.c v0 v6 (by have := (h.fi.hb _ p.c).2.2; omega) (by omega), hB, by simp [h.len], fun k q hk => ?_⟩
    rcases set_cases hk with ⟨_, he2, _⟩ | ⟨_, hk⟩
    · obtain rfl := Option.some.inj he2
      refine nxt.imp id fun h2 => ?_
      have h3 := h2.1
      have h4 : (hs.set m.cl v).getD m.cl 0 = hs.getD m.cl 0 := by rw [h3]
      rw [getD_set hkl, if_pos rfl] at h4
      rw [h4] at hv
      omega
    · exact (h.px k q hk).imp id fun h => h.setH hkl hv (by omega)
end
theorem popN_g (hs ns : List Int) (m : PM) : (popN hs ns m).g = m.g := by
  unfold popN
  split
  · rfl
  · split
    · rfl
    · split <;> rfl
theorem field_head (v0 v1 v2 v3 v4 v5 v6 v7 : Value) (w : World) : (Instr.field 61 (.agg #[v0, v1, v2, v3, v4, v5, v6, v7]) 6).run Try.prog w = .ok v6 w := by kernel_rfl
/-- The step of a machine of the array. -/
theorem arr_pop (w0 w : World) (R : Asr) (ga t r : Nat) (C : Nat → List Int) (hs ns : List Int) (B : Int) (xs : List (Option PM)) (m : PM) (h : Hold w0 w (arrP 67 pmA PM.g ga xs * (memA r C * R))) (ht : xs[t]? = some (some m)) (v : FV C hs ns) (f : FI hs ns B) (hB : B ≤ 1000) (p : PW hs ns B m) :
    Calls Try.prog 23 #[.pointer (some ⟨m.g, 0, none⟩), .pointer (some ⟨r, 0, none⟩)] w (RAccPost w0 (arrP 67 pmA PM.g ga (xs.set t (some (popN hs ns m))) * (memA r (popC C m) * R)) (popA hs ns m)) :=
  (po_step w0 w _ r C hs ns B m ((arr_take h ht).pk3 [0, 2, 1]) v f hB p).mono fun e w' ⟨he, h'⟩ => ⟨he, arr_give (h'.pk3 [0, 2, 1]) ht (popN_g hs ns m)⟩
set_option maxRecDepth 8000 in
set_option maxHeartbeats 16000000 in
theorem freelistTags_any (A0 A1 : Option Addr) (n0 c0 n1 c1 bb0 bb1 : Nat) (x0 x1 : List Int) (w : World) (hA0 : Reads w bb0 A0 n0 (x0.map (Value.int .i64))) (hA1 : Reads w bb1 A1 n1 (x1.map (Value.int .i64))) (le0 : n0 ≤ 9223372036854775807) (le1 : n1 ≤ 9223372036854775807) :
    Calls Try.prog 7 #[.slice A0 n0 c0, .slice A1 n1 c1] w (fun e w' => e = .returned (.bool true) ∧ Below w.heap.size w w') := by
  have HX0 := hid hA0
  have HX1 := hid hA1
  clear hA0 hA1
  by_cases hp : 60 < n1
  · have ep : decide ((60 : Int) < (n1 : Int)) = true := decide_eq_true (by omega)
    have h := Hold.start w
    go_enter Try.func7, Try.ntmps7
    go_wp2_with fail
    refine (awake11_any w _ _ h).mono ?_
    rintro e v5 ⟨rfl, h6⟩
    have H6 := hid h6.below
    clear h h6
    go_wp2_with fail
    go_ret
    exact ⟨rfl, H6.out⟩
  have ep : decide ((60 : Int) < (n1 : Int)) = false := decide_eq_false (by omega)
  go_enter Try.func7, Try.ntmps7
  go_wp2_with fail
  refine (heap11_any w _ _ (Hold.start w)).mono ?_
  rintro e u1 ⟨rfl, h1⟩
  go_wp2_with fail
  refine (lab_start w _ _ cfH 4 cfH_ok (by decide) h1).mono ?_
  rintro e u2 ⟨m, r, rfl, h2⟩
  replace h2 : Hold w u2 (memA m (cH 4) * (refA r cfH (cH 4) * Asr.emp)) := h2
  have HV := hid (cH_fv (th := 4) (by decide))
  generalize cH 4 = C0 at h2 HV
  have H3 := hid ((h2.newBlk (t := 27) (cs := #[.pointer (some ⟨m, 0, none⟩), .pointer (some ⟨r, 0, none⟩)])).pk3 [1, 2, 0])
  clear h1 h2
  have H3 := hid (H3.out.newBlk (t := 67) (cs := #[.pointer none, .pointer none, .pointer none, .pointer none]))
  simp only [World.size_alloc] at H3
  go_wp2_with fail
  have h3 : Hold w _ (blkA 67 (u2.heap.size + 1) #[.pointer none, .pointer none, .pointer none, .pointer none] * (memA m C0 * (refA r cfH C0 * (prA u2.heap.size m r * Asr.emp)))) := H3.out
  generalize hW : World.alloc _ _ = W3 at h3 ⊢
  generalize u2.heap.size + 1 = ga at h3 ⊢
  generalize u2.heap.size = gp at h3 ⊢
  clear hW H3 ep
  have h4 : Hold w W3 (arrP 67 pmA PM.g ga [none, none, none, none] * (memA m C0 * (refA r cfH C0 * (prA gp m r * Asr.emp)))) := arr_init (xs := [none, none, none, none]) h3 (by simp)
  have HT0 : Hid (TGI hs0 ns0 [none, none, none, none] ((0 : Nat) : Int)) := hid ⟨fi0, by decide, rfl, fun t m ht => by
    match t, ht with
    | 0, ht => cases ht
    | 1, ht => cases ht
    | 2, ht => cases ht
    | 3, ht => cases ht
    | t + 4, ht => simp at ht⟩
  clear h3
  go_loopw [8, 9] (fun s j wr => ∃ (i q : Nat) (C : Nat → List Int) (hs ns : List Int) (xs : List (Option PM)), i ≤ n1 ∧ q ≤ i ∧ j = .int .i64 i ∧ s = .int .i64 q ∧ FV C hs ns ∧ TGI hs ns xs i ∧ Hold w wr (arrP 67 pmA PM.g ga xs * (memA m C * (refA r cfH C0 * (prA gp m r * Asr.emp))))) (fun _ j _ => n1 - (intOf j).toNat)
  case atStart => exact ⟨0, 0, C0, hs0, ns0, _, by omega, by omega, rfl, rfl, HV.out, HT0.out, h4⟩
  case round =>
    clear h4 HT0 HV
    obtain ⟨i, q, C, hs, ns, xs, hi, hqi, rfl, rfl, hv, hti, h⟩ := hrel
    have HV := hid hv
    have HT := hid hti
    clear hv hti
    by_cases hlt : i < n1
    · have e1 : decide ((i : Int) < (n1 : Int)) = true := decide_eq_true (by omega)
      have i0 : (0 : Int) ≤ (i : Int) := by omega
      have i1 : (i : Int) < (n1 : Int) := by omega
      obtain ⟨ad, rfl, _, hcell⟩ := (HX1.out.below h.below).numAt hlt
      obtain ⟨z, hz⟩ : ∃ z, z = x1.getD i 0 := ⟨_, rfl⟩
      rw [← hz] at hcell
      clear hz
      obtain ⟨t, ht⟩ : ∃ t : Nat, place z 4 = t := ⟨(place z 4).toNat, by have := place_nonneg z 4 (by omega); omega⟩
      have t4 : t < 4 := by have := place_lt z 4 (by omega); omega
      have t4' : (t : Int) < 4 := by omega
      have t0' : (0 : Int) ≤ (t : Int) := by omega
      have Ht := hid ht
      have tl : t < xs.length := by rw [HT.out.len]; exact t4
      clear ht
      go_wp2_with fail
      refine (place_any _ _ _ (by omega) (by omega)).mono ?_
      rintro e w' ⟨rfl, rfl⟩
      rw [Ht.out]
      clear Ht hcell
      go_upto_region 12 with fail
      go_cut [47] (fun b wx => Hold w wx (arrP 67 pmA PM.g ga xs * (memA m C * (refA r cfH C0 * (prA gp m r * Asr.emp)))) ∧ ∃ bb : Bool, b = .bool bb ∧ (bb = true ∨ ∃ pm, bb = false ∧ xs[t]? = some (some pm) ∧ PW hs ns i pm))
      case first =>
        cases ho : xs[t]'tl with
        | none =>
          have hx : xs[t]? = some none := by rw [List.getElem?_eq_getElem tl, ho]
          have p2 := arr_none h hx
          clear ho hx
          go_wp2_with fail
          go_meet
          exact ⟨h, true, rfl, .inl rfl⟩
        | some mm =>
          have hx : xs[t]? = some (some mm) := by rw [List.getElem?_eq_getElem tl, ho]
          have p2 := arr_some h hx
          have hdn := pm_done w _ _ mm (arr_take h hx)
          have HDN := hid hdn
          have HX2 := hid hx
          clear ho hx hdn
          go_wp2_with fail
          refine HDN.out.mono ?_
          rintro e w' ⟨rfl, rfl⟩
          have hpx := HT.out.px t mm HX2.out
          by_cases h3 : mm.at_ = 3
          · rw [show (mm.at_ == 3) = true by simp [h3]]
            clear hpx h3
            go_wp2_with fail
            go_meet
            exact ⟨h, true, rfl, .inl rfl⟩
          · rw [show (mm.at_ == 3) = false by simp [h3]]
            have HP := hid (hpx.resolve_left h3)
            clear hpx h3
            go_wp2_with fail
            go_meet
            exact ⟨h, false, rfl, .inr ⟨mm, rfl, HX2.out, HP.out⟩⟩
      case rest =>
      clear h
      obtain ⟨h, bb, rfl, hbb⟩ := hcut
      have HBB := hid hbb
      clear hbb
      go_upto_if 47 with fail
      go_cut [8, 9, 10] (fun s j tt wx => j = .int .i64 i ∧ tt = .int .i64 t ∧ ∃ (q : Nat) (xs : List (Option PM)) (pm : PM), s = .int .i64 q ∧ q ≤ i + 1 ∧ TGI hs ns xs i ∧ xs[t]? = some (some pm) ∧ PW hs ns i pm ∧ Hold w wx (arrP 67 pmA PM.g ga xs * (memA m C * (refA r cfH C0 * (prA gp m r * Asr.emp)))))
      case first =>
        cases bb with
        | false =>
          obtain ⟨pm, _, hx, hp⟩ := HBB.out.resolve_left (by simp)
          have HXP := hid (And.intro hx hp)
          clear hx hp
          go_wp2_with fail
          go_meet
          exact ⟨rfl, rfl, q, xs, pm, rfl, by omega, HT.out, HXP.out.1, HXP.out.2, h⟩
        | true =>
          go_wp2_with fail
          have hat := at_nat wc A0 n0 c0 _ x0 (q + 1) (HX0.out.below h.below) le0
          rw [show ((q + 1 : Nat) : Int) = (q : Int) + 1 by simp] at hat
          refine hat.mono ?_
          rintro e w' ⟨rfl, rfl⟩
          clear hat HBB
          generalize x0.getD (q + 1) 0 = z2
          obtain ⟨kc, hkc⟩ : ∃ kc : Nat, place z2 4 = kc := ⟨(place z2 4).toNat, by have := place_nonneg z2 4 (by omega); omega⟩
          have kc4 : kc < 4 := by have := place_lt z2 4 (by omega); omega
          have HKC := hid hkc
          clear hkc
          go_wp2_with fail
          refine (place_any _ _ _ (by omega) (by omega)).mono ?_
          rintro e w' ⟨rfl, rfl⟩
          rw [HKC.out]
          clear HKC
          go_wp2_with fail
          refine (po_new w _ _ kc h).mono ?_
          rintro e v2 ⟨g, rfl, h4⟩
          replace h4 : Hold w v2 (pmA ⟨g, kc, 0, 0, 0, -1⟩ * (arrP 67 pmA PM.g ga xs * (memA m C * (refA r cfH C0 * (prA gp m r * Asr.emp))))) := h4
          have p2 := arr_at h4.drop (List.getElem?_eq_getElem tl)
          have z2 := arr_frozen h4.drop t
          have H5 := hid (arr_born h4 tl)
          clear h h4
          go_upto_region 15 with fail
          have h5 := H5.out
          generalize hW : World.setCell _ _ _ = W5 at h5 ⊢
          clear hW H5 p2 z2
          have HX5 : Hid ((xs.set t (some (⟨g, kc, 0, 0, 0, -1⟩ : PM)))[t]? = some (some ⟨g, kc, 0, 0, 0, -1⟩)) := hid (List.getElem?_set_self tl)
          have p2 := arr_some h5 HX5.out
          go_wp2_with fail
          go_meet
          exact ⟨rfl, rfl, q + 1, _, _, by simp, by omega, HT.out.put (PW.fresh kc4), HX5.out, PW.fresh kc4, h5⟩
      case rest =>
      clear h HBB tl HT
      obtain ⟨rfl, rfl, q, xs, pm, rfl, hq, hti, hx, hpw, h⟩ := hcut
      have HT := hid hti
      have HXP := hid (And.intro hx hpw)
      clear hti hx hpw hqi
      have p0 := h.drop.drop.drop.blk.some_ (i := 0) rfl
      go_wp2_with fail
      refine (image_any w _ _ m C (h.pk2 [1, 0]) HV.out.ok).mono ?_
      rintro e v3 ⟨y, rfl, h3⟩
      unfold imgV
      have fh := field_head (slV C y 1) (slV C y 2) (.int .u64 (w1 C 3)) (.int .u64 (w1 C 4)) (.int .u64 (w1 C 5)) (slV C y 6) (slV C y 7) (slV C y 8)
      obtain ⟨Aw, cw, hslw, h4⟩ : ∃ (Aw : Option Addr) (cw : Nat), slV C y 7 = .slice Aw 4 cw ∧ Hold w v3 (rowA 48 (.slice Aw 4 cw) 4 (hs.map (Value.int .u64)) * (arrP 67 pmA PM.g ga xs * (memA m C * (refA r cfH C0 * (prA gp m r * Asr.emp))))) := by
        have e4 : (C 7).length = 4 := by rw [HV.out.h7]; exact HT.out.fi.hl
        refine ⟨y.A 7, y.c 7, by unfold slV; rw [e4], ?_⟩
        have h4 : Hold w v3 (numA (slV C y 7) (C 7).length (C 7) * _) := h3.pk7 [3, 6, 5]
        unfold slV at h4
        rw [e4, HV.out.h7] at h4
        exact h4
      rw [hslw] at fh ⊢
      clear h h3 p0 hslw
      go_upto_region 18 with fail
      clear fh
      obtain ⟨ac, hac⟩ : ∃ ac, ac = popA hs ns pm := ⟨_, rfl⟩
      obtain ⟨pm2, hpm2⟩ : ∃ pm2, pm2 = popN hs ns pm := ⟨_, rfl⟩
      obtain ⟨C2, hC2⟩ : ∃ C2, C2 = popC C pm := ⟨_, rfl⟩
      have htl : t < xs.length := by rw [HT.out.len]; exact t4
      have hx2 : (xs.set t (some pm2))[t]? = some (some pm2) := List.getElem?_set_self htl
      have hg2 : pm2.g = pm.g := by rw [hpm2]; exact popN_g _ _ _
      have HAC := hid hac
      have HPM2 := hid (And.intro hx2 (And.intro hg2 hpm2))
      have HC2 := hid hC2
      have ib : (i : Int) ≤ 1000 := HT.out.bb
      clear hac hpm2 hC2 hx2 hg2
      go_cut [12] (fun s wx => ∃ gx, s = .pointer (some ⟨gx, 0, none⟩) ∧ Hold w wx (blkA 50 gx #[.int .i64 ac.kind, .int .i64 ac.cell, .int .i64 ac.index, .int .u64 ac.got, .int .u64 ac.put, .bool ac.done] * (rowA 48 (.slice Aw 4 cw) 4 (hs.map (Value.int .u64)) * (arrP 67 pmA PM.g ga (xs.set t (some pm2)) * (memA m C2 * (refA r cfH C0 * (prA gp m r * Asr.emp)))))))
      case first =>
        have h5 := h4.drew
        clear h4
        refine wp_region_brk [7] (by kernel_rfl) ?_
        refine wpAnyB_now (fun w' => w'.cell? ⟨ga, t, none⟩ = some (.pointer (some ⟨pm.g, 0, none⟩)) ∧ w'.cell? ⟨gp, 0, none⟩ = some (.pointer (some ⟨m, 0, none⟩))) (fun _ _ => trivial) _ _ _ _ ?_
        refine' wpAnyB_bulk [true, true, true, true, true] 129 (listed' := #[true, true, true, true, true, false, false, false]) rfl (by kernel_rfl) (by kernel_rfl) (by kernel_rfl) (by kernel_rfl) (by kernel_rfl) (by kernel_rfl) (by decide) (fun _ _ _ _ h => h) rfl ⟨arr_some h5.drop HXP.out.1, h5.drop.drop.drop.drop.blk.some_ (i := 0) rfl⟩ (fun wq hq => ?_) ?_; rotate_left 1
        · simp only [maskL]
          obtain ⟨q1, q2⟩ := hq
          repeat (go_big_quiet_step (fail))
          exact wpQuiet_nil rfl
        refine wpAnyB_two [false, false, false, false, false, true] [false, false, false, false, false, false, true] (fuel := 2) (by rfl) (by rfl) (by rfl) (by rfl) (by kernel_rfl) (fun QB hQB hQX => ?_) (fun QB hQB hQX => ?_)
        · simp only [maskL]
          go_wp2_with fail
          first
            | refine (arr_pop w _ _ ga t m C hs ns i xs pm (h6.pk4 [2, 3, 0, 1]) HXP.out.1 HV.out HT.out.fi ib HXP.out.2).mono ?_
            | refine (arr_pop w _ _ ga t m C hs ns i xs pm (h5.pk3 [1, 2, 0]) HXP.out.1 HV.out HT.out.fi ib HXP.out.2).mono ?_
          rintro e v7 ⟨rfl, h7⟩
          rw [← HAC.out]
          rw [← HPM2.out.2.2, ← HC2.out] at h7
          go_wp2_with fail
          refine hQB.out _ _ (by rw [← HPM2.out.2.1]; first | exact ⟨arr_some h7 HPM2.out.1, h7.drop.drop.drop.drop.drop.blk.some_ (i := 0) rfl⟩ | exact ⟨arr_some h7 HPM2.out.1, h7.drop.drop.drop.drop.blk.some_ (i := 0) rfl⟩) ?_
          clear hQB hQX QB
          refine wpAnyB_bar [false, false, false, false, false, false, true] (fuel := 1) (by rfl) (by rfl) (by kernel_rfl) (fun QB hQB hQX => ?_)
          simp only [maskL]
          first
            | have h6 := hid ((h7.pk3 [2, 0, 1]).newBlk (t := 50) (cs := #[.int .i64 0, .int .i64 0, .int .i64 0, .int .u64 0, .int .u64 0, .bool false]))
            | have h6 := hid ((h5.undrew.newBlk (t := 50) (cs := #[.int .i64 0, .int .i64 0, .int .i64 0, .int .u64 0, .int .u64 0, .bool false])).drew)
          go_wp2_with fail
          refine hQB.out _ _ (by first | exact ⟨arr_some h6.out.drop.drop HXP.out.1, h6.out.drop.drop.drop.drop.drop.blk.some_ (i := 0) rfl⟩ | exact ⟨by rw [← HPM2.out.2.1]; exact arr_some h6.out.drop.drop HPM2.out.1, h6.out.drop.drop.drop.drop.drop.blk.some_ (i := 0) rfl⟩) ?_
          clear hQB hQX QB
          replace h6 := h6.out
          generalize hW : World.alloc _ _ = W6 at h6 ⊢
          clear hW
          first | generalize v7.heap.size = gx at h6 ⊢ | generalize v3.heap.size = gx at h6 ⊢
          refine wpAnyB_brk [false, false, false, false, false, false, false, true] (fuel := 0) (by rfl) (by rfl) (by kernel_rfl) (by kernel_rfl) (fun QB hQB hQX => ?_)
          simp only [maskL]
          first
            | have hf : Hold w _ (blkA 50 gx #[.int .i64 0, .int .i64 0, .int .i64 0, .int .u64 0, .int .u64 0, .bool false] * (rowA 48 (.slice Aw 4 cw) 4 (hs.map (Value.int .u64)) * (arrP 67 pmA PM.g ga (xs.set t (some pm2)) * (memA m C2 * (refA r cfH C0 * (prA gp m r * Asr.emp)))))) := h6
            | have hf : Hold w _ (blkA 50 gx #[.int .i64 0, .int .i64 0, .int .i64 0, .int .u64 0, .int .u64 0, .bool false] * (rowA 48 (.slice Aw 4 cw) 4 (hs.map (Value.int .u64)) * (arrP 67 pmA PM.g ga (xs.set t (some pm2)) * (memA m C2 * (refA r cfH C0 * (prA gp m r * Asr.emp)))))) := h7.pk4 [2, 3, 0, 1]
          obtain ⟨⟨x0, x1, x2, x3, x4, x5⟩, z0, z1, z2, z3, z4, z5⟩ := blk_acc hf.blk
          have H8 := hid (hf.setAcc (.int .i64 ac.kind) (.int .i64 ac.cell) (.int .i64 ac.index) (.int .u64 ac.got) (.int .u64 ac.put) (.bool ac.done))
          clear hf h5 h6 h7
          go_wp2_with fail
          refine hQB.out _ _ ?_
          clear hQB hQX QB
          refine wpAnyB_forget (by kernel_rfl) ?_
          refine wpAnyB_done (by kernel_rfl) ?_ _
          -- END
          clear x0 x1 x2 x3 x4 x5 z0 z1 z2 z3 z4 z5
          go_wp2_with fail
          go_meet
          exact ⟨gx, rfl, H8.out⟩
        · simp only [maskL]
          first
            | have h6 := hid ((h7.pk3 [2, 0, 1]).newBlk (t := 50) (cs := #[.int .i64 0, .int .i64 0, .int .i64 0, .int .u64 0, .int .u64 0, .bool false]))
            | have h6 := hid ((h5.undrew.newBlk (t := 50) (cs := #[.int .i64 0, .int .i64 0, .int .i64 0, .int .u64 0, .int .u64 0, .bool false])).drew)
          go_wp2_with fail
          refine hQB.out _ _ (by first | exact ⟨arr_some h6.out.drop.drop HXP.out.1, h6.out.drop.drop.drop.drop.drop.blk.some_ (i := 0) rfl⟩ | exact ⟨by rw [← HPM2.out.2.1]; exact arr_some h6.out.drop.drop HPM2.out.1, h6.out.drop.drop.drop.drop.drop.blk.some_ (i := 0) rfl⟩) ?_
          clear hQB hQX QB
          replace h6 := h6.out
          generalize hW : World.alloc _ _ = W6 at h6 ⊢
          clear hW
          first | generalize v7.heap.size = gx at h6 ⊢ | generalize v3.heap.size = gx at h6 ⊢
          refine wpAnyB_bar [false, false, false, false, false, true] (fuel := 1) (by rfl) (by rfl) (by kernel_rfl) (fun QB hQB hQX => ?_)
          simp only [maskL]
          go_wp2_with fail
          first
            | refine (arr_pop w _ _ ga t m C hs ns i xs pm (h6.pk4 [2, 3, 0, 1]) HXP.out.1 HV.out HT.out.fi ib HXP.out.2).mono ?_
            | refine (arr_pop w _ _ ga t m C hs ns i xs pm (h5.pk3 [1, 2, 0]) HXP.out.1 HV.out HT.out.fi ib HXP.out.2).mono ?_
          rintro e v7 ⟨rfl, h7⟩
          rw [← HAC.out]
          rw [← HPM2.out.2.2, ← HC2.out] at h7
          go_wp2_with fail
          refine hQB.out _ _ (by rw [← HPM2.out.2.1]; first | exact ⟨arr_some h7 HPM2.out.1, h7.drop.drop.drop.drop.drop.blk.some_ (i := 0) rfl⟩ | exact ⟨arr_some h7 HPM2.out.1, h7.drop.drop.drop.drop.blk.some_ (i := 0) rfl⟩) ?_
          clear hQB hQX QB
          refine wpAnyB_brk [false, false, false, false, false, false, false, true] (fuel := 0) (by rfl) (by rfl) (by kernel_rfl) (by kernel_rfl) (fun QB hQB hQX => ?_)
          simp only [maskL]
          first
            | have hf : Hold w _ (blkA 50 gx #[.int .i64 0, .int .i64 0, .int .i64 0, .int .u64 0, .int .u64 0, .bool false] * (rowA 48 (.slice Aw 4 cw) 4 (hs.map (Value.int .u64)) * (arrP 67 pmA PM.g ga (xs.set t (some pm2)) * (memA m C2 * (refA r cfH C0 * (prA gp m r * Asr.emp)))))) := h6
            | have hf : Hold w _ (blkA 50 gx #[.int .i64 0, .int .i64 0, .int .i64 0, .int .u64 0, .int .u64 0, .bool false] * (rowA 48 (.slice Aw 4 cw) 4 (hs.map (Value.int .u64)) * (arrP 67 pmA PM.g ga (xs.set t (some pm2)) * (memA m C2 * (refA r cfH C0 * (prA gp m r * Asr.emp)))))) := h7.pk4 [2, 3, 0, 1]
          obtain ⟨⟨x0, x1, x2, x3, x4, x5⟩, z0, z1, z2, z3, z4, z5⟩ := blk_acc hf.blk
          have H8 := hid (hf.setAcc (.int .i64 ac.kind) (.int .i64 ac.cell) (.int .i64 ac.index) (.int .u64 ac.got) (.int .u64 ac.put) (.bool ac.done))
          clear hf h5 h6 h7
          go_wp2_with fail
          refine hQB.out _ _ ?_
          clear hQB hQX QB
          refine wpAnyB_forget (by kernel_rfl) ?_
          refine wpAnyB_done (by kernel_rfl) ?_ _
          -- END
          clear x0 x1 x2 x3 x4 x5 z0 z1 z2 z3 z4 z5
          go_wp2_with fail
          go_meet
          exact ⟨gx, rfl, H8.out⟩
      case rest =>
      clear h4
      obtain ⟨gx, rfl, h5⟩ := hcut
      have HV2 : Hid (FV C2 (popH hs pm) ns) := hid (by rw [HC2.out]; exact popC_fv HV.out HT.out.fi HXP.out.2)
      have hT2 : TGI (popH hs pm) ns (xs.set t (some pm2)) ((i + 1 : Nat) : Int) := by
        rw [HPM2.out.2.2]
        have := HT.out.step (t := t) (m := pm) (by omega) HXP.out.2
        simpa using this
      have HT2 := hid hT2
      have hph := pop_heads HT.out.fi ib HXP.out.2
      rw [← HAC.out] at hph
      have HPH := hid hph
      have hpl := hT2.fi.hl
      have HFB := hid (And.intro HT.out.fi.hb hT2.fi.hb)
      obtain ⟨hs2, hhs2⟩ : ∃ hs2, hs2 = popH hs pm := ⟨_, rfl⟩
      rw [← hhs2] at HV2 HT2 HPH HFB hpl
      clear hT2 hph hhs2 HAC HPM2 HC2 HV
      have p0 := h5.drop.drop.drop.drop.drop.blk.some_ (i := 0) rfl
      go_wp2_with fail
      refine (image_any w _ _ m C2 (h5.pk4 [3, 0, 1, 2]) HV2.out.ok).mono ?_
      rintro e v8 ⟨y2, rfl, h8⟩
      unfold imgV
      have fh := field_head (slV C2 y2 1) (slV C2 y2 2) (.int .u64 (w1 C2 3)) (.int .u64 (w1 C2 4)) (.int .u64 (w1 C2 5)) (slV C2 y2 6) (slV C2 y2 7) (slV C2 y2 8)
      obtain ⟨An, cn, hsln, h9⟩ : ∃ (An : Option Addr) (cn : Nat), slV C2 y2 7 = .slice An 4 cn ∧ Hold w v8 (rowA 48 (.slice An 4 cn) 4 (hs2.map (Value.int .u64)) * (blkA 50 gx #[.int .i64 ac.kind, .int .i64 ac.cell, .int .i64 ac.index, .int .u64 ac.got, .int .u64 ac.put, .bool ac.done] * (rowA 48 (.slice Aw 4 cw) 4 (hs.map (Value.int .u64)) * (arrP 67 pmA PM.g ga (xs.set t (some pm2)) * (memA m C2 * (refA r cfH C0 * (prA gp m r * Asr.emp))))))) := by
        have e4 : (C2 7).length = 4 := by rw [HV2.out.h7]; exact hpl
        refine ⟨y2.A 7, y2.c 7, by unfold slV; rw [e4], ?_⟩
        have h4 : Hold w v8 (numA (slV C2 y2 7) (C2 7).length (C2 7) * _) := Hold.pk9 h8 [3, 6, 7, 8, 5]
        unfold slV at h4
        rw [e4, HV2.out.h7] at h4
        exact h4
      rw [hsln] at fh ⊢
      clear h5 h8 p0 hsln
      obtain ⟨ad1, hA1, _⟩ := h9.drop.drop.rowReads.numAt (i := 0) (by omega)
      obtain ⟨ad2, hA2, _⟩ := h9.rowReads.numAt (i := 0) (by omega)
      subst hA1 hA2
      go_wp2_with fail
      clear fh
      go_loopw [14] (fun u wx => ∃ k : Nat, k ≤ 4 ∧ u = .int .i64 k ∧ Hold w wx (rowA 48 (.slice (some ad2) 4 cn) 4 (hs2.map (Value.int .u64)) * (blkA 50 gx #[.int .i64 ac.kind, .int .i64 ac.cell, .int .i64 ac.index, .int .u64 ac.got, .int .u64 ac.put, .bool ac.done] * (rowA 48 (.slice (some ad1) 4 cw) 4 (hs.map (Value.int .u64)) * (arrP 67 pmA PM.g ga (xs.set t (some pm2)) * (memA m C2 * (refA r cfH C0 * (prA gp m r * Asr.emp)))))))) (fun u _ => 4 - (intOf u).toNat)
      case atStart => exact ⟨0, by omega, rfl, h9⟩
      case round =>
        clear h9
        obtain ⟨k, hk, rfl, h⟩ := hrel
        by_cases hk4 : k < 4
        · have e2 : decide ((k : Int) < 4) = true := decide_eq_true (by omega)
          have k0' : (0 : Int) ≤ (k : Int) := by omega
          have k4' : (k : Int) < 4 := by omega
          have hb1 := HFB.out.1 k hk4
          have hb2 := HFB.out.2 k hk4
          obtain ⟨x1v, hx1⟩ : ∃ x, x = hs.getD k 0 := ⟨_, rfl⟩
          obtain ⟨x2v, hx2⟩ : ∃ x, x = hs2.getD k 0 := ⟨_, rfl⟩
          rw [← hx1] at hb1
          rw [← hx2] at hb2
          have hat : ∀ w', Hold w w' (rowA 48 (.slice (some ad2) 4 cn) 4 (hs2.map (Value.int .u64)) * (blkA 50 gx #[.int .i64 ac.kind, .int .i64 ac.cell, .int .i64 ac.index, .int .u64 ac.got, .int .u64 ac.put, .bool ac.done] * (rowA 48 (.slice (some ad1) 4 cw) 4 (hs.map (Value.int .u64)) * (arrP 67 pmA PM.g ga (xs.set t (some pm2)) * (memA m C2 * (refA r cfH C0 * (prA gp m r * Asr.emp))))))) → w'.cell? (ad1.add k) = some (.int .u64 x1v) ∧ w'.cell? (ad2.add k) = some (.int .u64 x2v) ∧ w'.cell? ⟨gx, 0, none⟩ = some (.int .i64 ac.kind) ∧ w'.cell? ⟨gx, 2, none⟩ = some (.int .i64 ac.index) ∧ w'.cell? ⟨gx, 5, none⟩ = some (.bool ac.done) := fun w' h' => by
            obtain ⟨a1, ha1, _, hc1⟩ := h'.drop.drop.rowReads.numAt (i := k) (by omega)
            obtain ⟨a2, ha2, _, hc2⟩ := h'.rowReads.numAt (i := k) (by omega)
            obtain rfl := Option.some.inj ha1
            obtain rfl := Option.some.inj ha2
            exact ⟨by rw [hx1]; exact hc1, by rw [hx2]; exact hc2, h'.drop.blk.some_ rfl, h'.drop.blk.some_ rfl, h'.drop.blk.some_ rfl⟩
          have HX12 := hid (And.intro hx1 hx2)
          clear hx1 hx2
          rcases HPH.out with ⟨hkd, he⟩ | ⟨hkd, hdn, he⟩ | ⟨hkd, hdn, hix, v, he, hv, _, _⟩
          · have ek : (ac.kind == 3) = false := by rw [hkd]; rfl
            have ec : (x1v != x2v) = false := by rw [HX12.out.1, HX12.out.2, he]; simp
            have HAT := hid hat
            clear hat hkd he HX12
            go_upto_region 25 with fail
            replace h := h.drew
            refine wp_region_brk [] (by kernel_rfl) ?_
            refine wpAnyB_now (fun w' => w'.cell? (ad1.add k) = some (.int .u64 x1v) ∧ w'.cell? (ad2.add k) = some (.int .u64 x2v)) (fun _ _ => trivial) _ _ _ _ ?_
            refine' wpAnyB_bulk [true, true, true, true, true, true, true, true, true, true] 129 (listed' := #[true, true, true, true, true, true, true, true, true, true]) rfl (by kernel_rfl) (by kernel_rfl) (by kernel_rfl) (by kernel_rfl) (by kernel_rfl) (by kernel_rfl) (by decide) (fun _ _ _ _ h => h) rfl ⟨(HAT.out _ h).1, (HAT.out _ h).2.1⟩ (fun wq hq => ?_) ?_; rotate_left 1
            · simp only [maskL]
              obtain ⟨q1, q2⟩ := hq
              repeat (go_big_quiet_step (fail))
              exact wpQuiet_nil rfl
            refine wpAnyB_done (by kernel_rfl) ?_ _
            go_upto_region 26 with fail
            replace h := h.drew
            refine wp_region_brk [] (by kernel_rfl) ?_
            refine wpAnyB_now (fun w' => w'.cell? (ad1.add k) = some (.int .u64 x1v) ∧ w'.cell? (ad2.add k) = some (.int .u64 x2v) ∧ w'.cell? ⟨gx, 0, none⟩ = some (.int .i64 ac.kind) ∧ w'.cell? ⟨gx, 2, none⟩ = some (.int .i64 ac.index) ∧ w'.cell? ⟨gx, 5, none⟩ = some (.bool ac.done)) (fun _ _ => trivial) _ _ _ _ ?_
            refine' wpAnyB_bulk [true, true, true, true, true, true, true, true, true, true, true, true, true, true, true, true, true, true, true, true, true, true, true, true, true, true, true, true, true, true, true, true] 129 (listed' := #[true, true, true, true, true, true, true, true, true, true, true, true, true, true, true, true, true, true, true, true, true, true, true, true, true, true, true, true, true, true, true, true]) rfl (by kernel_rfl) (by kernel_rfl) (by kernel_rfl) (by kernel_rfl) (by kernel_rfl) (by kernel_rfl) (by decide) (fun _ _ _ _ h => h) rfl (HAT.out _ h) (fun wq hq => ?_) ?_; rotate_left 1
            · simp only [maskL]
              obtain ⟨q1, q2, q3, q4, q5⟩ := hq
              repeat (first | go_big_quiet_step (fail) | (go_big_quiet_want; go_big_quiet_op; apply Exists.intro; refine ⟨?_, ?_⟩; (exact (W.rtag_any _ _ (by omega) (by omega)).mono fun e w' h => ⟨h.1, h.2.symm⟩); go_big_quiet_on))
              exact wpQuiet_nil rfl
            refine wpAnyB_done (by kernel_rfl) ?_ _
            go_wp2_with fail
            go_round
            case rel => exact ⟨k + 1, by omega, by go_num, h⟩
            case measure => simp [intOf]; omega
          · have ek : (ac.kind == 3) = true := by rw [hkd]; rfl
            have ec : (x1v != x2v) = false := by rw [HX12.out.1, HX12.out.2, he]; simp
            have HAT := hid hat
            have HDN := hid hdn
            clear hat hkd hdn he HX12
            go_upto_region 25 with fail
            replace h := h.drew
            refine wp_region_brk [] (by kernel_rfl) ?_
            refine wpAnyB_now (fun w' => w'.cell? (ad1.add k) = some (.int .u64 x1v) ∧ w'.cell? (ad2.add k) = some (.int .u64 x2v)) (fun _ _ => trivial) _ _ _ _ ?_
            refine' wpAnyB_bulk [true, true, true, true, true, true, true, true, true, true] 129 (listed' := #[true, true, true, true, true, true, true, true, true, true]) rfl (by kernel_rfl) (by kernel_rfl) (by kernel_rfl) (by kernel_rfl) (by kernel_rfl) (by kernel_rfl) (by decide) (fun _ _ _ _ h => h) rfl ⟨(HAT.out _ h).1, (HAT.out _ h).2.1⟩ (fun wq hq => ?_) ?_; rotate_left 1
            · simp only [maskL]
              obtain ⟨q1, q2⟩ := hq
              repeat (go_big_quiet_step (fail))
              exact wpQuiet_nil rfl
            refine wpAnyB_done (by kernel_rfl) ?_ _
            go_upto_region 26 with fail
            replace h := h.drew
            refine wp_region_brk [] (by kernel_rfl) ?_
            refine wpAnyB_now (fun w' => w'.cell? (ad1.add k) = some (.int .u64 x1v) ∧ w'.cell? (ad2.add k) = some (.int .u64 x2v) ∧ w'.cell? ⟨gx, 0, none⟩ = some (.int .i64 ac.kind) ∧ w'.cell? ⟨gx, 2, none⟩ = some (.int .i64 ac.index) ∧ w'.cell? ⟨gx, 5, none⟩ = some (.bool ac.done)) (fun _ _ => trivial) _ _ _ _ ?_
            refine' wpAnyB_bulk [true, true, true, true, true, true, true, true, true, true, true, true, true, true, true, true, true, true, true, true, true, true, true, true, true, true, true, true, true, true, true, true] 129 (listed' := #[true, true, true, true, true, true, true, true, true, true, true, true, true, true, true, true, true, true, true, true, true, true, true, true, true, true, true, true, true, true, true, true]) rfl (by kernel_rfl) (by kernel_rfl) (by kernel_rfl) (by kernel_rfl) (by kernel_rfl) (by kernel_rfl) (by decide) (fun _ _ _ _ h => h) rfl (HAT.out _ h) (fun wq hq => ?_) ?_; rotate_left 1
            · simp only [maskL]
              obtain ⟨q1, q2, q3, q4, q5⟩ := hq
              rw [HDN.out] at q5
              repeat (first | go_big_quiet_step (fail) | (go_big_quiet_want; go_big_quiet_op; apply Exists.intro; refine ⟨?_, ?_⟩; (exact (W.rtag_any _ _ (by omega) (by omega)).mono fun e w' h => ⟨h.1, h.2.symm⟩); go_big_quiet_on))
              exact wpQuiet_nil rfl
            refine wpAnyB_done (by kernel_rfl) ?_ _
            go_wp2_with fail
            go_round
            case rel => exact ⟨k + 1, by omega, by go_num, h⟩
            case measure => simp [intOf]; omega
          · have ek : (ac.kind == 3) = true := by rw [hkd]; rfl
            have hkl : pm.cl < hs.length := by rw [HT.out.fi.hl]; exact HXP.out.2.c
            have HAT := hid hat
            have HDN := hid hdn
            by_cases hck : k = pm.cl
            · have ei : (ac.index == (k : Int)) = true := by rw [hix, hck]; exact beq_self_eq_true _
              have hx2 : x2v / 65536 = x1v / 65536 + 1 := by rw [HX12.out.1, HX12.out.2, he, getD_set hkl, if_pos hck, hck]; exact hv
              have ec : (x1v != x2v) = true := by simp; omega
              have et : (x2v / 65536 != x1v / 65536 + 1) = false := by simp; omega
              clear hat hkd hdn he HX12 hck hix hv hkl
              go_upto_region 25 with fail
              replace h := h.drew
              refine wp_region_brk [] (by kernel_rfl) ?_
              refine wpAnyB_now (fun w' => w'.cell? (ad1.add k) = some (.int .u64 x1v) ∧ w'.cell? (ad2.add k) = some (.int .u64 x2v)) (fun _ _ => trivial) _ _ _ _ ?_
              refine' wpAnyB_bulk [true, true, true, true, true, true, true, true, true, true] 129 (listed' := #[true, true, true, true, true, true, true, true, true, true]) rfl (by kernel_rfl) (by kernel_rfl) (by kernel_rfl) (by kernel_rfl) (by kernel_rfl) (by kernel_rfl) (by decide) (fun _ _ _ _ h => h) rfl ⟨(HAT.out _ h).1, (HAT.out _ h).2.1⟩ (fun wq hq => ?_) ?_; rotate_left 1
              · simp only [maskL]
                obtain ⟨q1, q2⟩ := hq
                repeat (go_big_quiet_step (fail))
                exact wpQuiet_nil rfl
              refine wpAnyB_done (by kernel_rfl) ?_ _
              go_upto_region 26 with fail
              replace h := h.drew
              refine wp_region_brk [] (by kernel_rfl) ?_
              refine wpAnyB_now (fun w' => w'.cell? (ad1.add k) = some (.int .u64 x1v) ∧ w'.cell? (ad2.add k) = some (.int .u64 x2v) ∧ w'.cell? ⟨gx, 0, none⟩ = some (.int .i64 ac.kind) ∧ w'.cell? ⟨gx, 2, none⟩ = some (.int .i64 ac.index) ∧ w'.cell? ⟨gx, 5, none⟩ = some (.bool ac.done)) (fun _ _ => trivial) _ _ _ _ ?_
              refine' wpAnyB_bulk [true, true, true, true, true, true, true, true, true, true, true, true, true, true, true, true, true, true, true, true, true, true, true, true, true, true, true, true, true, true, true, true] 129 (listed' := #[true, true, true, true, true, true, true, true, true, true, true, true, true, true, true, true, true, true, true, true, true, true, true, true, true, true, true, true, true, true, true, true]) rfl (by kernel_rfl) (by kernel_rfl) (by kernel_rfl) (by kernel_rfl) (by kernel_rfl) (by kernel_rfl) (by decide) (fun _ _ _ _ h => h) rfl (HAT.out _ h) (fun wq hq => ?_) ?_; rotate_left 1
              · simp only [maskL]
                obtain ⟨q1, q2, q3, q4, q5⟩ := hq
                rw [HDN.out] at q5
                repeat (first | go_big_quiet_step (fail) | (go_big_quiet_want; go_big_quiet_op; apply Exists.intro; refine ⟨?_, ?_⟩; (exact (W.rtag_any _ _ (by omega) (by omega)).mono fun e w' h => ⟨h.1, h.2.symm⟩); go_big_quiet_on))
                exact wpQuiet_nil rfl
              refine wpAnyB_done (by kernel_rfl) ?_ _
              go_wp2_with fail
              go_round
              case rel => exact ⟨k + 1, by omega, by go_num, h⟩
              case measure => simp [intOf]; omega
            · have ei : (ac.index == (k : Int)) = false := by rw [hix]; simp; omega
              have ec : (x1v != x2v) = false := by rw [HX12.out.1, HX12.out.2, he, getD_set hkl, if_neg hck]; simp
              clear hat hkd hdn he HX12 hck hix hv hkl
              go_upto_region 25 with fail
              replace h := h.drew
              refine wp_region_brk [] (by kernel_rfl) ?_
              refine wpAnyB_now (fun w' => w'.cell? (ad1.add k) = some (.int .u64 x1v) ∧ w'.cell? (ad2.add k) = some (.int .u64 x2v)) (fun _ _ => trivial) _ _ _ _ ?_
              refine' wpAnyB_bulk [true, true, true, true, true, true, true, true, true, true] 129 (listed' := #[true, true, true, true, true, true, true, true, true, true]) rfl (by kernel_rfl) (by kernel_rfl) (by kernel_rfl) (by kernel_rfl) (by kernel_rfl) (by kernel_rfl) (by decide) (fun _ _ _ _ h => h) rfl ⟨(HAT.out _ h).1, (HAT.out _ h).2.1⟩ (fun wq hq => ?_) ?_; rotate_left 1
              · simp only [maskL]
                obtain ⟨q1, q2⟩ := hq
                repeat (go_big_quiet_step (fail))
                exact wpQuiet_nil rfl
              refine wpAnyB_done (by kernel_rfl) ?_ _
              go_upto_region 26 with fail
              replace h := h.drew
              refine wp_region_brk [] (by kernel_rfl) ?_
              refine wpAnyB_now (fun w' => w'.cell? (ad1.add k) = some (.int .u64 x1v) ∧ w'.cell? (ad2.add k) = some (.int .u64 x2v) ∧ w'.cell? ⟨gx, 0, none⟩ = some (.int .i64 ac.kind) ∧ w'.cell? ⟨gx, 2, none⟩ = some (.int .i64 ac.index) ∧ w'.cell? ⟨gx, 5, none⟩ = some (.bool ac.done)) (fun _ _ => trivial) _ _ _ _ ?_
              refine' wpAnyB_bulk [true, true, true, true, true, true, true, true, true, true, true, true, true, true, true, true, true, true, true, true, true, true, true, true, true, true, true, true, true, true, true, true] 129 (listed' := #[true, true, true, true, true, true, true, true, true, true, true, true, true, true, true, true, true, true, true, true, true, true, true, true, true, true, true, true, true, true, true, true]) rfl (by kernel_rfl) (by kernel_rfl) (by kernel_rfl) (by kernel_rfl) (by kernel_rfl) (by kernel_rfl) (by decide) (fun _ _ _ _ h => h) rfl (HAT.out _ h) (fun wq hq => ?_) ?_; rotate_left 1
              · simp only [maskL]
                obtain ⟨q1, q2, q3, q4, q5⟩ := hq
                rw [HDN.out] at q5
                repeat (first | go_big_quiet_step (fail) | (go_big_quiet_want; go_big_quiet_op; apply Exists.intro; refine ⟨?_, ?_⟩; (exact (W.rtag_any _ _ (by omega) (by omega)).mono fun e w' h => ⟨h.1, h.2.symm⟩); go_big_quiet_on))
                exact wpQuiet_nil rfl
              refine wpAnyB_done (by kernel_rfl) ?_ _
              go_wp2_with fail
              go_round
              case rel => exact ⟨k + 1, by omega, by go_num, h⟩
              case measure => simp [intOf]; omega
        · obtain rfl : k = 4 := by omega
          have e2 : decide (((4 : Nat) : Int) < 4) = false := rfl
          have H9 := hid (h.pk3 [])
          clear h
          go_wp2_with fail
          go_round
          case rel => exact ⟨i + 1, q, C2, hs2, ns, _, by omega, by omega, by go_num, rfl, HV2.out, HT2.out, H9.out⟩
          case measure => simp [intOf]; omega
    · obtain rfl : i = n1 := by omega
      have e1 : decide ((i : Int) < (i : Int)) = false := by simp
      go_wp2_with fail
      refine (awake11_any w _ _ h).mono ?_
      rintro e v5 ⟨rfl, h6⟩
      have H6 := hid h6.below
      clear h h6
      go_wp2_with fail
      go_ret
      exact ⟨rfl, H6.out⟩
end Go.Proofs.Ytigjpfhjddkckaa
