/- The contracts of package redo: Put's join, Get, the lists, Clear, New. -/
import Derived.Test.YtponapjgajmdnaaRedo3
namespace Go.Proofs.Ytponapjgajmdnaa
open Go.RowKit
set_option linter.unusedVariables false

theorem log_put (w : World) (fp : List Nat) (g : Nat) (L : PL) (a v : Int) (h : LogAt 71 w fp g L) (H : Inv L) :
    Calls Try.prog 36 #[.pointer (some ⟨g, 0, none⟩), .int .i64 a, .int .u64 v] w (PutPost 71 w fp g L a v) := by
  rcases Int.lt_or_le a 0 with ha | ha
  · exact log_put_neg w fp g L a v h ha
  · by_cases hin : a ∈ L.addrs
    · exact log_put_in w fp g L a v h H ha hin
    · exact log_put_out w fp g L a v h H ha hin

def GetPost (w : World) (L : PL) (a : Int) (e : Ending) (w' : World) : Prop := e = .returned (.tuple #[.int .u64 (getV L a), .bool (getOk L a)]) ∧ ∃ q, w' = w.drewN q

theorem log_get_nil (w : World) (a : Int) :
    Calls Try.prog 37 #[.pointer none, .int .i64 a] w fun e w' => e = .returned (.tuple #[.int .u64 0, .bool false]) ∧ w = w' := by
  go_enter Try.func37, Try.ntmps37
  go_wp2_with fail
  go_ret2
  exact ⟨rfl, rfl⟩

theorem getOut {L : PL} {a : Int} (h : a ∉ L.addrs) : getV L a = 0 ∧ getOk L a = false := ⟨if_neg h, decide_eq_false h⟩
theorem getIn {L : PL} {a : Int} (h : a ∈ L.addrs) : getV L a = L.vals.getD (L.addrs.idxOf a) 0 ∧ getOk L a = true := ⟨if_pos h, decide_eq_true h⟩

theorem log_get_neg (w : World) (fp : List Nat) (g : Nat) (L : PL) (a : Int) (H : Inv L) (ha : a < 0) :
    Calls Try.prog 37 #[.pointer (some ⟨g, 0, none⟩), .int .i64 a] w (GetPost w L a) := by
  have hin : a ∉ L.addrs := fun h => by
    have h1 := mem_adr h
    have h2 := H.nonneg _ h1.1
    omega
  have hfin : GetPost w L a (.returned (.tuple #[.int .u64 0, .bool false])) w := ⟨by rw [(getOut hin).1, (getOut hin).2], 0, rfl⟩
  have HF := hid hfin
  clear hfin hin H
  go_enter Try.func37, Try.ntmps37
  go_wp2_with fail
  go_ret2
  exact HF.out

set_option maxHeartbeats 1000000 in
theorem log_get_pos (w : World) (fp : List Nat) (g : Nat) (L : PL) (a : Int) (h : LogAt 71 w fp g L) (H : Inv L) (ha : 0 ≤ a) :
    Calls Try.prog 37 #[.pointer (some ⟨g, 0, none⟩), .int .i64 a] w (GetPost w L a) := by
  have h0 := h
  obtain ⟨A, c, V, d, X, e, hb, h1, h2, h3, h4, hfp⟩ := h.ex
  have c2 : w.cell? ⟨g, 2, none⟩ = some (.slice V L.addrs.length d) := hb.some_ rfl
  have c3 : w.cell? ⟨g, 3, none⟩ = some (.slice X L.idx.length e) := hb.some_ rfl
  have h3' := h3
  have h2' := h2
  have p64 := H.p64
  have n32 : L.addrs.length ≤ 32 := by have := H.le; have := H.cap32; omega
  obtain ⟨n, hn⟩ : ∃ n, n = L.addrs.length := ⟨_, rfl⟩
  obtain ⟨p, hp⟩ : ∃ p, p = L.idx.length := ⟨_, rfl⟩
  rw [← hn] at c2 n32
  rw [← hp] at c3 p64
  have Hn := hid hn
  have Hp := hid hp
  clear hfp hb h h1 h2 h3 h4 hn hp
  go_enter Try.func37, Try.ntmps37
  go_wp2_with fail
  refine wp_region_brk [] (by kernel_rfl) ?_
  refine wpAnyB_now (fun w' => ∀ p, w'.cell? p = w.cell? p) (fun _ _ => trivial) _ _ _ _ ?_
  refine' wpAnyB_bulk [true, true, true, true, true, true] 31 (listed' := #[true, true, true, true, true, true, false, false, false, false]) rfl (by kernel_rfl) (by kernel_rfl) (by kernel_rfl) (by kernel_rfl) (by kernel_rfl) (by kernel_rfl) (by decide) (fun _ _ _ _ h => h) rfl (fun _ => rfl) (fun wq hq => ?_) ?_; rotate_left 1
  · simp only [maskL]
    have q3 := (hq ⟨g, 3, none⟩).trans c3
    repeat (go_big_quiet_step (fail))
    exact wpQuiet_nil rfl
  refine wpAnyB_bar [false, false, false, false, false, false, true] (fuel := 3) (by rfl) (by rfl) (by kernel_rfl) (fun QB hQB hQX => ?_)
  simp only [maskL]
  go_wp2_with fail
  refine (log_place w.drew fp g L a ⟨h0.ex⟩ H ha).mono ?_
  rintro e' w' ⟨t, hE, rfl, q0, hq0⟩
  obtain ⟨q, rfl⟩ : ∃ q, w' = w.drewN q := ⟨1 + q0, hq0.trans (World.drewN_drewN w 1 q0)⟩
  clear hq0
  have hk := spot_lt H.pos a t
  obtain ⟨gx, hX, _, hcx, _, _⟩ := place_cell (a := a) (t := t) H h3'
  have hix : (∀ hin : a ∈ L.addrs, ix L.idx (spot L.idx a t) = (L.addrs.idxOf a : Nat)) ∧ (a ∉ L.addrs → ix L.idx (spot L.idx a t) < 0) := by
    obtain ⟨hE1, hE2, hE3⟩ := hE
    refine ⟨fun hin => ?_, fun hin => (H.find_out hin hE1 hE2 (fun s hs => (hE3 s hs).1)).1⟩
    have hm := mem_adr hin
    have h9 := H.find_in (i := L.addrs.idxOf a) (t := t) hm.1 (by rw [hm.2]; exact hE2) (fun s hs => by rw [hm.2]; exact hE3 s hs)
    rwa [hm.2] at h9
  rw [← Hp.out] at hk
  obtain ⟨k, hkk⟩ : ∃ k, k = spot L.idx a t := ⟨_, rfl⟩
  obtain ⟨j, hj⟩ : ∃ j, j = ix L.idx (spot L.idx a t) := ⟨_, rfl⟩
  rw [← hj] at hcx hix
  rw [← hkk] at hk hcx ⊢
  have Hix := hid hix
  subst hX
  clear hE hkk hj hix h3' h0
  have b1 : (0 : Int) ≤ (k : Int) := by omega
  have b2 : (k : Int) < (p : Int) := by omega
  go_wp2_with fail
  refine hQB.out _ _ (fun _ => rfl) ?_
  refine' wpAnyB_bulk [false, false, false, false, false, false, false, true, true, true] 31 (listed' := #[true, true, true, true, true, true, true, true, true, true]) rfl (by kernel_rfl) (by kernel_rfl) (by kernel_rfl) (by kernel_rfl) (by kernel_rfl) (by kernel_rfl) (by decide) (fun _ _ _ _ h => h) rfl (fun _ => rfl) (fun wq hq => ?_) ?_; rotate_left 1
  · simp only [maskL]
    have qx := (hq ⟨gx, k, none⟩).trans hcx
    repeat (go_big_quiet_step (fail))
    exact wpQuiet_nil rfl
  refine wpAnyB_done (by kernel_rfl) ?_ _
  -- END
  by_cases hin : a ∈ L.addrs
  · obtain ⟨hi1, hi2⟩ := mem_adr hin
    have hj := Hix.out.1 hin
    obtain ⟨gv, hV, _, hcv, _, _⟩ := row_at h2' hi1
    rw [num_some (by rw [H.vlen]; exact hi1)] at hcv
    have hg := getIn hin
    obtain ⟨i, hi⟩ : ∃ i, i = L.addrs.idxOf a := ⟨_, rfl⟩
    obtain ⟨y, hy⟩ : ∃ y, y = L.vals.getD (L.addrs.idxOf a) 0 := ⟨_, rfl⟩
    rw [← hi] at hi1 hj
    rw [← hy] at hcv hg
    rw [← hi] at hcv
    rw [← Hn.out] at hi1
    subst hV
    subst hj
    have hfin : ∀ q', GetPost w L a (.returned (.tuple #[.int .u64 y, .bool true])) (w.drewN q') := fun q' => ⟨by rw [hg.1, hg.2], q', rfl⟩
    have HF := hid hfin
    clear hfin hg hy hi h2' hi2
    have b3 : decide ((i : Int) < 0) = false := by simp
    have b4 : (0 : Int) ≤ (i : Int) := by omega
    have b5 : (i : Int) < (n : Int) := by omega
    go_wp2_with fail
    go_ret2
    first | exact HF.out _ | (rw [World.drewN_drewN]; exact HF.out _)
  · have hj := Hix.out.2 hin
    have b3 : decide (j < 0) = true := by simpa using hj
    have hfin : ∀ q', GetPost w L a (.returned (.tuple #[.int .u64 0, .bool false])) (w.drewN q') := fun q' => ⟨by rw [(getOut hin).1, (getOut hin).2], q', rfl⟩
    have HF := hid hfin
    clear hfin
    go_wp2_with fail
    go_ret2
    first | exact HF.out _ | (rw [World.drewN_drewN]; exact HF.out _)

theorem log_get (w : World) (fp : List Nat) (g : Nat) (L : PL) (a : Int) (h : LogAt 71 w fp g L) (H : Inv L) :
    Calls Try.prog 37 #[.pointer (some ⟨g, 0, none⟩), .int .i64 a] w (GetPost w L a) := by
  rcases Int.lt_or_le a 0 with ha | ha
  · exact log_get_neg w fp g L a H ha
  · exact log_get_pos w fp g L a h H ha

theorem log_len (w : World) (fp : List Nat) (g : Nat) (L : PL) (h : LogAt 71 w fp g L) :
    Calls Try.prog 38 #[.pointer (some ⟨g, 0, none⟩)] w fun e w' => e = .returned (.int .i64 L.addrs.length) ∧ w = w' := by
  obtain ⟨A, c, V, d, X, e, hb, h1, h2, h3, h4, hfp⟩ := h.ex
  have c1 : w.cell? ⟨g, 1, none⟩ = some (.slice A L.addrs.length c) := hb.some_ rfl
  clear hfp hb h h1 h2 h3 h4
  go_enter Try.func38, Try.ntmps38
  go_wp2_with fail
  go_ret
  exact ⟨rfl, rfl⟩
theorem log_len_nil (w : World) :
    Calls Try.prog 38 #[.pointer none] w fun e w' => e = .returned (.int .i64 0) ∧ w = w' := by
  go_enter Try.func38, Try.ntmps38
  go_wp2_with fail
  go_ret
  exact ⟨rfl, rfl⟩

/-- What the lists return. -/
def ListPost (w : World) (t : TypeId) (n : Nat) (xs : List Value) (e : Ending) (w' : World) : Prop := ∃ A' c', e = .returned (.slice A' n c') ∧ w'.ownsRow w.heap.size t 1 (.slice A' n c') n xs ∧ Chg [] w w'

theorem log_addrs (w : World) (fp : List Nat) (g : Nat) (L : PL) (h : LogAt 71 w fp g L) (H : Inv L) :
    Calls Try.prog 40 #[.pointer (some ⟨g, 0, none⟩)] w (ListPost w 3 L.addrs.length (L.addrs.map (Value.int .i64))) := by
  obtain ⟨A, c, V, d, X, e, hb, h1, h2, h3, h4, hfp⟩ := h.ex
  have c1 : w.cell? ⟨g, 1, none⟩ = some (.slice A L.addrs.length c) := hb.some_ rfl
  have hR := row_reads h1
  have hl : L.addrs.length ≤ 1000000 := by have := H.le; have := H.cap32; omega
  clear hfp hb h h1 h2 h3 h4 H
  go_enter Try.func40, Try.ntmps40
  go_wp2_with fail
  refine (clone_int _ _ _ _ _ _ hR hl).mono ?_
  rintro e w1 ⟨A', c', rfl, ho, hc⟩
  go_wp2_with fail
  go_ret
  exact ⟨A', c', rfl, ho, hc⟩
theorem log_addrs_nil (w : World) :
    Calls Try.prog 40 #[.pointer none] w fun e w' => e = .returned (.slice none 0 0) ∧ w = w' := by
  go_enter Try.func40, Try.ntmps40
  go_wp2_with fail
  go_ret
  exact ⟨rfl, rfl⟩

theorem log_values (w : World) (fp : List Nat) (g : Nat) (L : PL) (h : LogAt 71 w fp g L) (H : Inv L) :
    Calls Try.prog 44 #[.pointer (some ⟨g, 0, none⟩)] w (ListPost w 50 L.addrs.length (L.vals.map (Value.int .u64))) := by
  obtain ⟨A, c, V, d, X, e, hb, h1, h2, h3, h4, hfp⟩ := h.ex
  have c1 : w.cell? ⟨g, 2, none⟩ = some (.slice V L.addrs.length d) := hb.some_ rfl
  have hR := row_reads h2
  have hl : L.addrs.length ≤ 1000000 := by have := H.le; have := H.cap32; omega
  clear hfp hb h h1 h2 h3 h4 H
  go_enter Try.func44, Try.ntmps44
  go_wp2_with fail
  refine (clone_uint64 _ _ _ _ _ _ hR hl).mono ?_
  rintro e w1 ⟨A', c', rfl, ho, hc⟩
  go_wp2_with fail
  go_ret
  exact ⟨A', c', rfl, ho, hc⟩
theorem log_values_nil (w : World) :
    Calls Try.prog 44 #[.pointer none] w fun e w' => e = .returned (.slice none 0 0) ∧ w = w' := by
  go_enter Try.func44, Try.ntmps44
  go_wp2_with fail
  go_ret
  exact ⟨rfl, rfl⟩

theorem log_index (w : World) (fp : List Nat) (g : Nat) (L : PL) (h : LogAt 71 w fp g L) (H : Inv L) :
    Calls Try.prog 39 #[.pointer (some ⟨g, 0, none⟩)] w (ListPost w 3 L.idx.length (L.idx.map (Value.int .i64))) := by
  obtain ⟨A, c, V, d, X, e, hb, h1, h2, h3, h4, hfp⟩ := h.ex
  have c1 : w.cell? ⟨g, 3, none⟩ = some (.slice X L.idx.length e) := hb.some_ rfl
  have hR := row_reads h3
  have hl : L.idx.length ≤ 1000000 := by have := H.p64; omega
  clear hfp hb h h1 h2 h3 h4 H
  go_enter Try.func39, Try.ntmps39
  go_wp2_with fail
  refine (clone_int _ _ _ _ _ _ hR hl).mono ?_
  rintro e w1 ⟨A', c', rfl, ho, hc⟩
  go_wp2_with fail
  go_ret
  exact ⟨A', c', rfl, ho, hc⟩
theorem log_index_nil (w : World) :
    Calls Try.prog 39 #[.pointer none] w fun e w' => e = .returned (.slice none 0 0) ∧ w = w' := by
  go_enter Try.func39, Try.ntmps39
  go_wp2_with fail
  go_ret
  exact ⟨rfl, rfl⟩
end Go.Proofs.Ytponapjgajmdnaa
