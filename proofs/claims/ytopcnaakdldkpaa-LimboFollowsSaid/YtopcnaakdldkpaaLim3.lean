/- limbo: Drain. -/
import Derived.Test.YtopcnaakdldkpaaLim2
import Derived.Test.YtopcnaakdldkpaaQue
import Derived.Test.YtopcnaakdldkpaaFls
namespace Go.Proofs.Ytopcnaakdldkpaa
open Go.RowKit
set_option linter.unusedVariables false

theorem lcls_nat {x : Int} (h : 0 ≤ x ∧ x < 6) : lcls x = (fcls x.toNat : Nat) := by
  unfold lcls fcls
  repeat' split
  all_goals omega
def qOf (g : Nat) (e : Int × Int) : QM := ⟨g, fcls e.1.toNat, e.1.toNat, 0, 0⟩
def ptrs (qs : List QM) : List Value := qs.map fun q => .pointer (some ⟨q.g, 0, none⟩)
/-- The machine of a drain. -/
def drA (d : Nat) (qs : List QM) : Asr := Asr.ex fun v => blkA 88 d #[v] * (queA 89 v (ptrs qs) * sepR (qs.map qmA) Asr.emp)
theorem drOpen {w0 w : World} {R : Asr} {d : Nat} {qs : List QM} (h : Hold w0 w (drA d qs * R)) : ∃ A c, Hold w0 w (blkA 88 d #[.slice A qs.length c] * (queA 89 (.slice A qs.length c) (ptrs qs) * (sepR (qs.map qmA) R))) := by
  obtain ⟨v, h⟩ := h.exOpen
  have h1 := h.part
  obtain ⟨A, c, hv⟩ := h1.drop.part.queForm
  have e : (ptrs qs).length = qs.length := by simp [ptrs]
  rw [e] at hv
  subst hv
  exact ⟨A, c, h1.imp (Imp.under _ ((Imp.assoc _ _ _).trans (Imp.under _ (Imp.flat R _))))⟩
theorem drClose {w0 w : World} {R : Asr} {d : Nat} {v : Value} {qs : List QM} (h : Hold w0 w (blkA 88 d #[v] * (queA 89 v (ptrs qs) * (sepR (qs.map qmA) R)))) : Hold w0 w (drA d qs * R) :=
  Hold.exClose (x := v) ((h.imp (Imp.under _ ((Imp.under _ (Imp.fold R _)).trans (Imp.assoc' _ _ _)))).join)
def keptE (lim : Int) (es : List (Int × Int)) : List (Int × Int) := es.filter fun e => lim < e.2
def outE (lim : Int) (es : List (Int × Int)) : List (Int × Int) := es.filter fun e => e.2 ≤ lim
theorem info_ptr18 : (Try.prog.info? 89).map (fun i => (i.zero, i.size, i.bytes)) = some (some (.pointer none), 1, 8) := by kernel_rfl
theorem Imp.snoc (p R : Asr) : ∀ ps : List Asr, Imp (p * sepR ps R) (sepR (ps ++ [p]) R)
  | [] => Imp.refl _
  | x :: ps => (Imp.swap p x _).trans (Imp.under x (Imp.snoc p R ps))
theorem Imp.into (p R : Asr) : ∀ ps : List Asr, Imp (p * sepR ps R) (sepR ps (p * R))
  | [] => Imp.refl _
  | x :: ps => (Imp.swap p x _).trans (Imp.under x (Imp.into p R ps))
set_option maxRecDepth 8000 in
set_option maxHeartbeats 16000000 in
theorem lim_drain (w0 w : World) (R : Asr) (g : Nat) (es : List (Int × Int)) (lim : Int) (h : Hold w0 w (limA g es * R)) (he : es.length ≤ 1000) (hb : ∀ e ∈ es, 0 ≤ e.1 ∧ e.1 < 6) :
    Calls Try.prog 15 #[.pointer (some ⟨g, 0, none⟩), .int .i64 lim] w fun e w' => ∃ (d : Nat) (gs : List Nat), e = .returned (.pointer (some ⟨d, 0, none⟩)) ∧ gs.length = (outE lim es).length ∧ Hold w0 w' (drA d (List.zipWith qOf gs (outE lim es)) * (limA g (keptE lim es) * R)) := by
  obtain ⟨iE, hiE, hz0, hz1, hz2⟩ := parts5L info_ent
  obtain ⟨iP, hiP, pz0, pz1, pz2⟩ := parts5L info_ptr18
  obtain ⟨n, hn⟩ : ∃ n, n = es.length := ⟨_, rfl⟩
  obtain ⟨A, c, h⟩ := limOpen h
  rw [← hn] at h he
  have HN := hid hn
  have HB := hid hb
  clear hn hb
  have h1 := ((h.nilRowS 85 2).nilQue 89).newBlk (t := 88) (cs := #[.slice none 0 0])
  have q13 := h1.drop.drop.drop.blk.some_ (i := 13) rfl
  obtain ⟨d, hd⟩ : ∃ d, d = w.heap.size := ⟨_, rfl⟩
  rw [← hd] at h1
  have H1 := hid h1
  clear h h1
  go_enter Try.func15, Try.ntmps15
  go_wp2_with fail
  have h1 := H1.out
  generalize hW : w.alloc _ = W at h1 ⊢
  rw [← hd]
  clear hW hd H1 q13
  have h2 : Hold w0 W (blkA 82 g (liC (.slice A n c)) * (rowS 85 2 (.slice A n c) n (ents es) * (blkA 88 d #[.slice none 0 0] * (queA 89 (.slice none 0 0) (ptrs []) * (rowS 85 2 (.slice none 0 0) 0 [] * sepR [] R))))) := h1.pk5 [3, 4, 0, 1, 2]
  clear h1
  go_loopw [6, 19] (fun v6 i wr => ∃ (k : Nat) (Ar : Option Addr) (cr : Nat) (Ad : Option Addr) (cd : Nat) (gs : List Nat) (qs : List QM), k ≤ n ∧ i = .int .i64 (k : Int) ∧ v6 = .slice Ar (keptE lim (es.take k)).length cr ∧ gs.length = (outE lim (es.take k)).length ∧ qs = List.zipWith qOf gs (outE lim (es.take k)) ∧ Hold w0 wr (blkA 82 g (liC (.slice A n c)) * (rowS 85 2 (.slice A n c) n (ents es) * (blkA 88 d #[.slice Ad qs.length cd] * (queA 89 (.slice Ad qs.length cd) (ptrs qs) * (rowS 85 2 v6 (keptE lim (es.take k)).length (ents (keptE lim (es.take k))) * sepR (qs.map qmA) R)))))) (fun _ i _ => n - (intOf i).toNat)
  case atStart => exact ⟨0, none, 0, none, 0, [], [], Nat.zero_le _, rfl, rfl, rfl, rfl, h2⟩
  case round =>
    clear h2
    obtain ⟨k, Ar, cr, Ad, cd, gs, qs, hk, rfl, rfl, hgl, hqs, h⟩ := hrel
    by_cases hlt : k < n
    · have e1 : decide ((k : Int) < (n : Int)) = true := decide_eq_true (by omega)
      have e1' : decide (k < n) = true := decide_eq_true hlt
      have hkl : k < es.length := by rw [← HN.out]; exact hlt
      obtain ⟨x, hx⟩ : ∃ x, x = es[k] := ⟨_, rfl⟩
      have hxk : es[k]? = some x := by rw [hx]; exact List.getElem?_eq_getElem hkl
      have ht : es.take (k + 1) = es.take k ++ [x] := by rw [hx]; exact (List.take_append_getElem hkl).symm
      have hx6 : 0 ≤ x.1 ∧ x.1 < 6 := by rw [hx]; exact HB.out _ (List.getElem_mem hkl)
      obtain ⟨b, hr⟩ := h.drop.rowSReads
      obtain ⟨ad, hA, d0, d1⟩ := hr.ent hxk hlt
      have HT := hid ht
      have HG := hid (And.intro hgl hqs)
      have k0 : (0 : Int) ≤ (k : Int) := by omega
      have k1 : (k : Int) < (n : Int) := by omega
      obtain ⟨x1, x2⟩ := x
      simp only at d0 d1 hx6
      subst hA
      have hkp : (keptE lim (es.take k)).length ≤ 1000 := by
        unfold keptE
        have := List.length_filter_le (fun e => decide (lim < e.2)) (es.take k)
        rw [List.length_take] at this
        omega
      have hql : qs.length ≤ 1000 := by
        rw [hqs, List.length_zipWith]
        unfold outE
        have := List.length_filter_le (fun e => decide (e.2 ≤ lim)) (es.take k)
        rw [List.length_take] at this
        omega
      clear hr ht hx hxk hgl hqs
      generalize hks : keptE lim (es.take k) = ks at *
      generalize hos : outE lim (es.take k) = os at *
      have HK := hid hks
      have HO := hid hos
      clear hks hos
      have h3 := h.newBlk (t := 85) (cs := #[.int .i64 x1, .int .i64 x2])
      have H3 := hid h3
      clear h h3
      go_upto_region 8 with fail
      have h3 := H3.out
      generalize hW : wr.alloc _ = W2 at h3 ⊢
      generalize wr.heap.size = gx at h3 ⊢
      clear hW H3 d0 d1
      have x0 := h3.blk.some_ (i := 0) rfl
      have x1' := h3.blk.some_ (i := 1) rfl
      by_cases hp : lim < x2
      · have e2 : decide (lim < x2) = true := decide_eq_true hp
        have h4 : Hold w0 W2 (rowS 85 2 (.slice Ar ks.length cr) ks.length (ents ks) * (blkA 85 gx #[.int .i64 x1, .int .i64 x2] * (blkA 82 g (liC (.slice (some ad) n c)) * (rowS 85 2 (.slice (some ad) n c) n (ents es) * (blkA 88 d #[.slice Ad qs.length cd] * (queA 89 (.slice Ad qs.length cd) (ptrs qs) * sepR (qs.map qmA) R)))))) := h3.pk6 [5, 0, 1, 2, 3, 4]
        clear h3
        go_wp2_with (at_builtin; refine wpList_app rfl _ _ 80 rfl 85 iE (.agg #[.int .i64 0, .int .i64 0]) 2 16 Try.underlying80 hiE hz0 hz1 hz2 rfl (by decide) (.slice Ar ks.length cr) ks.length (ents ks) [.int .i64 x1, .int .i64 x2] _ rfl h4 _ rfl rfl rfl rfl (by omega) (by decide) ?_)
        intro A3 c3 w3 h5
        have H5 := hid (h5.drop.swap.drop)
        have H6 := hid (h5.pk6 [2, 3, 4, 5, 0])
        clear h4 h5 x0 x1'
        go_wp2_with fail
        go_roundw
        case rel =>
          have e3 : keptE lim (es.take (k + 1)) = ks ++ [(x1, x2)] := by
            rw [HT.out, ← HK.out]; unfold keptE; rw [List.filter_append]; simp [hp]
          have e4 : outE lim (es.take (k + 1)) = os := by
            rw [HT.out, ← HO.out]; unfold outE; rw [List.filter_append]; simp; omega
          refine ⟨k + 1, A3, c3, Ad, cd, gs, qs, by omega, by go_num, by rw [e3, List.length_append]; rfl, by rw [e4]; exact HG.out.1, by rw [e4]; exact HG.out.2, ?_⟩
          rw [e3, ents_snoc, List.length_append]
          exact H6.out
        case measure => simp [intOf]; omega
      · have e2 : decide (lim < x2) = false := decide_eq_false hp
        go_upto_region 10 with fail
        clear x0 x1'
        have h := h3.pk4 [0, 1, 3, 2]
        clear h3
        replace h := h.drew
        refine wp_region_brk [19] (by kernel_rfl) ?_
        generalize hw5 : W2.drew = W5 at h ⊢
        clear hw5
        refine wpAnyB_now (fun w' => ∃ Z, Hold w0 w' (blkA 85 gx #[.int .i64 x1, .int .i64 x2] * (blkA 82 g (liC (.slice (some ad) n c)) * (blkA 88 d #[.slice Ad qs.length cd] * Z)))) (fun _ _ => trivial) _ _ _ _ ?_
        refine' wpAnyB_bulk [true, true, true, true, true, true, true, true, true, true, true, false, true, true] 56 (listed' := #[true, true, true, true, true, true, true, true, true, true, true, false, true, true, false, false, false, false, false, false]) rfl (by kernel_rfl) (by kernel_rfl) (by kernel_rfl) (by kernel_rfl) (by kernel_rfl) (by kernel_rfl) (by decide) (fun _ _ _ _ h => h) rfl ⟨_, h⟩ (fun wq hq => ?_) ?_; rotate_left 1
        · simp only [maskL]
          obtain ⟨Z, hq⟩ := hq
          have y0 := hq.blk.some_ (i := 0) rfl
          have y88 := hq.drop.drop.blk.some_ (i := 0) rfl
          have q0 := hq.drop.blk.some_ (i := 0) rfl
          have q1 := hq.drop.blk.some_ (i := 1) rfl
          have q2 := hq.drop.blk.some_ (i := 2) rfl
          have q3 := hq.drop.blk.some_ (i := 3) rfl
          have q4 := hq.drop.blk.some_ (i := 4) rfl
          have q5 := hq.drop.blk.some_ (i := 5) rfl
          have q6 := hq.drop.blk.some_ (i := 6) rfl
          have q7 := hq.drop.blk.some_ (i := 7) rfl
          have q8 := hq.drop.blk.some_ (i := 8) rfl
          have q9 := hq.drop.blk.some_ (i := 9) rfl
          have q10 := hq.drop.blk.some_ (i := 10) rfl
          have q11 := hq.drop.blk.some_ (i := 11) rfl
          have q12 := hq.drop.blk.some_ (i := 12) rfl
          have q13 := hq.drop.blk.some_ (i := 13) rfl
          clear hq
          repeat (go_big_quiet_step (fail))
          exact wpQuiet_nil rfl
        refine wpAnyB_bar [false, false, false, false, false, false, false, false, false, false, false, true] (fuel := 6) (by rfl) (by rfl) (by kernel_rfl) (fun QB hQB hQX => ?_)
        simp only [maskL]
        go_wp2_with fail
        refine (class_any W5 x1 (by unfold I64b; omega)).mono ?_
        rintro e y1 ⟨rfl, hc1⟩
        have h1 := h.chg0 hc1
        clear h hc1
        have h := h1
        clear h1
        go_wp2_with fail
        refine hQB.out _ _ ⟨_, h⟩ ?_
        clear hQB hQX QB
        refine wpAnyB_bar [false, false, false, false, false, false, false, false, false, false, false, false, false, false, true] (fuel := 5) (by rfl) (by rfl) (by kernel_rfl) (fun QB hQB hQX => ?_)
        simp only [maskL]
        go_wp2_with fail
        refine (pu_new w0 _ _ _ _ h).mono ?_
        rintro e y2 ⟨gq, rfl, h2⟩
        clear h
        have h := h2.pk4 [1, 2, 3, 0]
        clear h2
        go_wp2_with fail
        refine hQB.out _ _ ⟨_, h⟩ ?_
        clear hQB hQX QB
        have h9 : Hold w0 y2 (queA 89 (.slice Ad qs.length cd) (ptrs qs) * (blkA 85 gx #[.int .i64 x1, .int .i64 x2] * (blkA 82 g (liC (.slice (some ad) n c)) * (blkA 88 d #[.slice Ad qs.length cd] * (puA gq (lcls x1) x1 0 0 * (rowS 85 2 (.slice (some ad) n c) n (ents es) * (rowS 85 2 (.slice Ar ks.length cr) ks.length (ents ks) * sepR (qs.map qmA) R))))))) := Hold.pk6 h [5, 0, 1, 2, 3, 4]
        have hpl : (ptrs qs).length ≤ 1000000 := by simp [ptrs]; omega
        refine wpAnyB_bar [false, false, false, false, false, false, false, false, false, false, false, false, false, false, false, true] (fuel := 4) (by rfl) (by rfl) (by kernel_rfl) (fun QB hQB hQX => ?_)
        simp only [maskL]
        go_wp2_with fail
        refine hQB.out _ _ ⟨_, h.alloc _⟩ ?_
        clear hQB hQX QB
        refine wpAnyB_bar [false, false, false, false, false, false, false, false, false, false, false, false, false, false, false, false, true] (fuel := 3) (by rfl) (by rfl) (by kernel_rfl) (fun QB hQB hQX => ?_)
        simp only [maskL]
        go_wp2_with (at_builtin; refine wpList_que rfl _ _ 86 rfl iP (.pointer none) 8 Try.underlying86 hiP pz0 pz1 pz2 rfl (.pointer (some ⟨gq, 0, none⟩)) _ rfl h9 rfl rfl hpl (by decide) ?_)
        intro v9 y4 h5
        obtain ⟨A9, c9, hv9⟩ := h5.queForm
        have e9 : (ptrs qs ++ [Value.pointer (some ⟨gq, 0, none⟩)]).length = qs.length + 1 := by simp [ptrs]
        rw [e9] at hv9
        subst hv9
        clear h h9 e9
        have h9 := h5
        clear h5
        go_wp2_with fail
        refine hQB.out _ _ ⟨_, h9.drop⟩ ?_
        clear hQB hQX QB
        refine' wpAnyB_bulkT [false, false, false, false, false, false, false, false, false, false, false, false, false, false, false, false, false, true, true] 56 (listed' := #[true, true, true, true, true, true, true, true, true, true, true, true, true, true, true, true, true, true, true, false]) rfl (by kernel_rfl) (by kernel_rfl) (by kernel_rfl) (by kernel_rfl) (by kernel_rfl) (by decide) (fun _ _ _ _ h => h) rfl ⟨_, h9.drop⟩ (fun wq _ => ?_) ?_; rotate_left 1
        · simp only [maskL]
          repeat (go_big_quiet_step (fail))
          exact wpQuiet_nil rfl
        refine wpAnyB_brk [false, false, false, false, false, false, false, false, false, false, false, false, false, false, false, false, false, false, false, true] (fuel := 0) (by rfl) (by rfl) (by kernel_rfl) (by kernel_rfl) (fun QB hQB hQX => ?_)
        simp only [maskL]
        have p2 := h9.drop.drop.drop.blk.some_ (i := 0) rfl
        have z2 := h9.drop.drop.drop.blk.frozen 0
        have H10 := hid ((h9.pk4 [3, 0, 1, 2]).setBlk 0 (.slice A9 (qs.length + 1) c9))
        clear h9
        go_wp2_with fail
        refine hQB.out _ _ ?_
        refine wpAnyB_forget (by kernel_rfl) ?_
        refine wpAnyB_done (by kernel_rfl) ?_ _
        have hzip : ∀ (a : List Nat) (b : List (Int × Int)) (x : Nat) (y : Int × Int), a.length = b.length → List.zipWith qOf (a ++ [x]) (b ++ [y]) = List.zipWith qOf a b ++ [qOf x y] := fun a b x y hab => by
          rw [List.zipWith_append hab]; rfl
        have hfin : ∀ w', Hold w0 w' (blkA 88 d #[.slice A9 (qs.length + 1) c9] * (queA 89 (.slice A9 (qs.length + 1) c9) (ptrs qs ++ [Value.pointer (some ⟨gq, 0, none⟩)]) * (blkA 85 gx #[.int .i64 x1, .int .i64 x2] * (blkA 82 g (liC (.slice (some ad) n c)) * (puA gq (lcls x1) x1 0 0 * (rowS 85 2 (.slice (some ad) n c) n (ents es) * (rowS 85 2 (.slice Ar ks.length cr) ks.length (ents ks) * sepR (qs.map qmA) R))))))) →
            Hold w0 w' (blkA 82 g (liC (.slice (some ad) n c)) * (rowS 85 2 (.slice (some ad) n c) n (ents es) * (blkA 88 d #[.slice A9 (qs ++ [qOf gq (x1, x2)]).length c9] * (queA 89 (.slice A9 (qs ++ [qOf gq (x1, x2)]).length c9) (ptrs (qs ++ [qOf gq (x1, x2)])) * (rowS 85 2 (.slice Ar ks.length cr) ks.length (ents ks) * sepR ((qs ++ [qOf gq (x1, x2)]).map qmA) R))))) := fun w' h => by
          have h1 : Hold w0 w' (blkA 82 g (liC (.slice (some ad) n c)) * (rowS 85 2 (.slice (some ad) n c) n (ents es) * (blkA 88 d #[.slice A9 (qs.length + 1) c9] * (queA 89 (.slice A9 (qs.length + 1) c9) (ptrs qs ++ [Value.pointer (some ⟨gq, 0, none⟩)]) * (rowS 85 2 (.slice Ar ks.length cr) ks.length (ents ks) * (puA gq (lcls x1) x1 0 0 * sepR (qs.map qmA) R)))))) := h.pk7 [3, 5, 0, 1, 6, 4]
          have h2 := h1.imp (Imp.under _ (Imp.under _ (Imp.under _ (Imp.under _ (Imp.under _ (Imp.snoc _ _ _))))))
          have e1 : (qs ++ [qOf gq (x1, x2)]).length = qs.length + 1 := by simp
          have e2 : ptrs (qs ++ [qOf gq (x1, x2)]) = ptrs qs ++ [Value.pointer (some ⟨gq, 0, none⟩)] := by simp [ptrs, qOf]
          have e3 : qmA (qOf gq (x1, x2)) = puA gq (lcls x1) x1 0 0 := by
            rw [lcls_nat hx6]
            unfold qOf
            show puA gq _ ((x1.toNat : Nat) : Int) _ _ = _
            rw [Int.toNat_of_nonneg hx6.1]; rfl
          rw [e1, e2, List.map_append, List.map_singleton, e3]
          exact h2
        have HF := hid hfin
        have HZ := hid hzip
        clear hfin hzip
        go_wp2_with fail
        have h11 := HF.out _ H10.out
        go_roundw
        case rel =>
          have e3 : keptE lim (es.take (k + 1)) = ks := by
            rw [HT.out, ← HK.out]; unfold keptE; rw [List.filter_append]; simp; omega
          have e4 : outE lim (es.take (k + 1)) = os ++ [(x1, x2)] := by
            rw [HT.out, ← HO.out]; unfold outE; rw [List.filter_append]; simp; omega
          refine ⟨k + 1, Ar, cr, A9, c9, gs ++ [gq], qs ++ [qOf gq (x1, x2)], by omega, by go_num, by rw [e3], by rw [e4, List.length_append, List.length_append, HG.out.1]; rfl, by rw [e4, HZ.out _ _ _ _ HG.out.1, ← HG.out.2], ?_⟩
          rw [e3]
          exact h11
        case measure => simp [intOf]; omega
    · obtain rfl : k = n := by omega
      have e1 : decide ((k : Int) < (k : Int)) = false := decide_eq_false (by omega)
      rw [List.take_of_length_le (by rw [← HN.out]; exact Nat.le_refl _)] at h hgl hqs ⊢
      have HG := hid (And.intro hgl hqs)
      have p13 := h.blk.some_ (i := 13) rfl
      have z13 := h.blk.frozen 13
      have h1 := h.setBlk 13 (.slice Ar (keptE lim es).length cr)
      have h2 : Hold w0 _ (blkA 88 d #[.slice Ad qs.length cd] * (queA 89 (.slice Ad qs.length cd) (ptrs qs) * (blkA 82 g (liC (.slice Ar (keptE lim es).length cr)) * (rowS 85 2 (.slice Ar (keptE lim es).length cr) (keptE lim es).length (ents (keptE lim es)) * sepR (qs.map qmA) R)))) := Hold.pk5 h1 [2, 3, 0, 4]
      have h3 := drClose (h2.imp (Imp.under _ (Imp.under _ ((Imp.under _ (Imp.into _ _ _)).trans (Imp.into _ _ _)))))
      have h4 := (limClose (h3.pk3 [1, 2, 0])).swap
      have H4 := hid h4
      clear h h1 h2 h3 h4 hgl hqs
      go_wp2_with fail
      go_ret
      exact ⟨d, rfl, gs, HG.out.1, by rw [← HG.out.2]; exact H4.out⟩
end Go.Proofs.Ytopcnaakdldkpaa
