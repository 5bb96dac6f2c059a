/- limbo: Done, Left and Step of a drain. -/
import Derived.Test.YtopcnaakdldkpaaLim3
namespace Go.Proofs.Ytopcnaakdldkpaa
open Go.RowKit
set_option linter.unusedVariables false

theorem queHead {w0 w : World} {R : Asr} {e : TypeId} {A : Option Addr} {n c : Nat} {x : Value} {xs : List Value} (h : Hold w0 w (queA e (.slice A (n + 1) c) (x :: xs) * R)) : ∃ g off, A = some ⟨g, off, none⟩ ∧ ∀ w' R', Hold w0 w' (queA e (.slice A (n + 1) c) (x :: xs) * R') → w'.cell? ⟨g, off, none⟩ = some x := by
  obtain ⟨fp, h1⟩ := h.get
  rcases h1 with ⟨_, h2, _⟩ | ⟨g, off, c', cs, h1, _⟩
  · cases h2
  · injection h1 with h1 _ _
    subst h1
    exact ⟨g, off, rfl, fun w' R' h' => Hold.queAt h' (k := 0) rfl⟩
theorem dr_done (w0 w : World) (R : Asr) (d : Nat) (qs : List QM) (h : Hold w0 w (drA d qs * R)) : Calls Try.prog 18 #[.pointer (some ⟨d, 0, none⟩)] w fun e w' => e = .returned (.bool qs.isEmpty) ∧ w = w' := by
  obtain ⟨A, c, h⟩ := drOpen h
  have q := h.blk.some_ (i := 0) rfl
  have e1 : ((qs.length : Int) == 0) = qs.isEmpty := by cases qs with
    | nil => rfl
    | cons x l => simp; omega
  obtain ⟨b, hb⟩ : ∃ b, b = qs.isEmpty := ⟨_, rfl⟩
  rw [← hb] at e1 ⊢
  clear h hb
  generalize qs.length = n at *
  go_enter Try.func18, Try.ntmps18
  go_wp2
  go_ret
  exact ⟨rfl, rfl⟩
theorem dr_left (w0 w : World) (R : Asr) (d : Nat) (qs : List QM) (h : Hold w0 w (drA d qs * R)) : Calls Try.prog 20 #[.pointer (some ⟨d, 0, none⟩)] w fun e w' => e = .returned (.int .i64 (qs.length : Int)) ∧ w = w' := by
  obtain ⟨A, c, h⟩ := drOpen h
  have q := h.blk.some_ (i := 0) rfl
  clear h
  go_enter Try.func20, Try.ntmps20
  go_wp2
  go_ret
  exact ⟨rfl, rfl⟩
theorem Imp.out (p R : Asr) : ∀ ps : List Asr, Imp (sepR ps (p * R)) (p * sepR ps R)
  | [] => Imp.refl _
  | x :: ps => (Imp.under x (Imp.out p R ps)).trans (Imp.swap x p _)
/-- The machines behind a step. -/
def drN (hs : List Int) : List QM → List QM
  | [] => []
  | q :: qs => if (pushN hs q).at_ = 3 then qs else pushN hs q :: qs
def drC (C : Nat → List Int) : List QM → Nat → List Int
  | [] => C
  | q :: _ => pushC C q
def drAc (hs ns : List Int) : List QM → Acc
  | [] => acc0
  | q :: _ => pushA hs ns q
abbrev acC (a : Acc) : Array Value := #[.int .i64 a.kind, .int .i64 a.cell, .int .i64 a.index, .int .u64 a.got, .int .u64 a.put, .bool a.done]
set_option maxRecDepth 8000 in
set_option maxHeartbeats 4000000 in
theorem dr_step0 (w0 w : World) (R : Asr) (d r : Nat) (h : Hold w0 w (drA d [] * R)) :
    Calls Try.prog 21 #[.pointer (some ⟨d, 0, none⟩), .pointer (some ⟨r, 0, none⟩)] w (RAccPost w0 (drA d [] * R) acc0) := by
  have h1 := h.newBlk (t := 55) (cs := acC acc0)
  have HD := hid (dr_done w0 _ _ d [] h1.drop)
  have H1 := hid h1
  clear h h1
  go_enter Try.func21, Try.ntmps21
  go_wp2_with fail
  refine HD.out.mono ?_
  rintro e w1 ⟨rfl, rfl⟩
  clear HD
  go_wp2_with (refine wpList_store rfl 55 _ _ rfl w.heap.size _ _ (acC acc0) rfl rfl _ Try.sizeOf55 H1.out rfl rfl rfl ?_; intro y2 h2)
  have HF : Hid (RAccPost w0 (drA d [] * R) acc0 (.returned acc0.val) y2) := hid ⟨rfl, h2.drop⟩
  exact bodyPost_ret (results_blk1 Try.results21 _ rfl Try.isAgg55 _ Try.sizeOf55 h2.blk rfl) rfl HF.out
set_option maxRecDepth 8000 in
set_option maxHeartbeats 4000000 in
theorem dr_step1 (w0 w : World) (R : Asr) (d r : Nat) (C : Nat → List Int) (hs ns : List Int) (B : Int) (q : QM) (qs : List QM) (h : Hold w0 w (drA d (q :: qs) * (memA r C * R))) (v : FV C hs ns) (f : FI hs ns B) (hB : B ≤ 1000) (p : QW hs ns B q) :
    Calls Try.prog 21 #[.pointer (some ⟨d, 0, none⟩), .pointer (some ⟨r, 0, none⟩)] w (RAccPost w0 (drA d (drN hs (q :: qs)) * (memA r (pushC C q) * R)) (pushA hs ns q)) := by
  have h1 := h.newBlk (t := 55) (cs := acC acc0)
  have HD := hid (dr_done w0 _ _ d (q :: qs) h1.drop)
  have H1 := hid h1
  clear h h1
  obtain ⟨gr, hgr⟩ : ∃ g, g = w.heap.size := ⟨_, rfl⟩
  go_enter Try.func21, Try.ntmps21
  go_wp2_with fail
  refine HD.out.mono ?_
  rintro e w1 ⟨rfl, rfl⟩
  clear HD
  have h1 := H1.out
  go_upto_region 3 with fail
  rw [← hgr] at h1 ⊢
  clear H1 hgr
  generalize hW : w.alloc _ = W1 at h1 ⊢
  clear hW
  obtain ⟨A, c, h2⟩ := drOpen h1.swap
  obtain ⟨n, hn⟩ : ∃ n, n = qs.length := ⟨_, rfl⟩
  rw [List.length_cons, ← hn] at h2
  have HN := hid hn
  clear hn
  obtain ⟨ga, off, rfl, hat⟩ := queHead (x := .pointer (some ⟨q.g, 0, none⟩)) (xs := ptrs qs) h2.drop
  have h3 : Hold w0 W1 (blkA 88 d #[.slice (some ⟨ga, off, none⟩) (n + 1) c] * (queA 89 (.slice (some ⟨ga, off, none⟩) (n + 1) c) (.pointer (some ⟨q.g, 0, none⟩) :: ptrs qs) * (qmA q * sepR (qs.map qmA) (blkA 55 gr (acC acc0) * (memA r C * R))))) := h2
  have h4 : Hold w0 W1 (blkA 88 d #[.slice (some ⟨ga, off, none⟩) (n + 1) c] * (queA 89 (.slice (some ⟨ga, off, none⟩) (n + 1) c) (.pointer (some ⟨q.g, 0, none⟩) :: ptrs qs) * (qmA q * (blkA 55 gr (acC acc0) * (memA r C * sepR (qs.map qmA) R))))) :=
    h3.imp (Imp.under _ (Imp.under _ (Imp.under _ ((Imp.out _ _ _).trans (Imp.under _ (Imp.out _ _ _))))))
  have hc0 := hat _ _ h3.drop
  have k0 := h3.blk.some_ (i := 0) rfl
  have h5 : Hold w0 W1 (qmA q * (memA r C * (blkA 88 d #[.slice (some ⟨ga, off, none⟩) (n + 1) c] * (queA 89 (.slice (some ⟨ga, off, none⟩) (n + 1) c) (.pointer (some ⟨q.g, 0, none⟩) :: ptrs qs) * (blkA 55 gr (acC acc0) * sepR (qs.map qmA) R))))) := h4.pk5 [2, 4, 0, 1, 3]
  have HP := hid (pu_step w0 W1 _ r C hs ns B q h5 v f hB p)
  have HAT := hid hat
  clear h1 h2 h3 h4 h5 hat v f p
  obtain ⟨a, ha⟩ : ∃ a, a = pushA hs ns q := ⟨_, rfl⟩
  obtain ⟨q', hq⟩ : ∃ q', q' = pushN hs q := ⟨_, rfl⟩
  obtain ⟨gq, hg⟩ : ∃ g, g = q.g := ⟨_, rfl⟩
  have hg' : q'.g = gq := by
    rw [hq, hg]; unfold pushN; split
    · rfl
    split
    · rfl
    split <;> rfl
  have hdn : drN hs (q :: qs) = if q'.at_ = 3 then qs else q' :: qs := by rw [hq]; rfl
  have HDR := hid hdn
  rw [← ha]
  rw [← ha, ← hq, ← hg] at HP
  rw [← hg] at HAT hc0
  have HDN := hid (And.intro ha (And.intro hq hg'))
  clear ha hdn hq hg hg'
  go_wp2_with fail
  refine HP.out.mono ?_
  rintro e w2 ⟨rfl, h6⟩
  clear HP hc0 k0
  have h7 := h6.newBlk (t := 55) (cs := acC acc0)
  have H7 := hid h7
  clear h6 h7
  go_upto_region 4 with (refine wpList_store rfl 55 _ _ rfl w2.heap.size _ _ (acC a) rfl rfl _ Try.sizeOf55 H7.out rfl rfl rfl ?_; intro y2 h8)
  clear H7
  generalize w2.heap.size = gc at h8 ⊢
  have hc0 := HAT.out _ _ h8.drop.drop.drop.drop
  have k0 := h8.drop.drop.drop.blk.some_ (i := 0) rfl
  have h9 : Hold w0 y2 (qmA q' * (blkA 55 gc (acC a) * (memA r (pushC C q) * (blkA 88 d #[.slice (some ⟨ga, off, none⟩) (n + 1) c] * (queA 89 (.slice (some ⟨ga, off, none⟩) (n + 1) c) (.pointer (some ⟨gq, 0, none⟩) :: ptrs qs) * (blkA 55 gr (acC acc0) * sepR (qs.map qmA) R)))))) := h8.swap
  have HPD := pu_done w0 y2 _ q'.g _ _ _ _ h9
  rw [HDN.out.2.2] at HPD
  have HPD := hid HPD
  go_wp2_with fail
  refine HPD.out.mono ?_
  rintro e w' ⟨rfl, rfl⟩
  clear HPD hc0
  by_cases h3 : q'.at_ = 3
  · have e1 : ((q'.at_ : Int) == 3) = true := by rw [h3]; rfl
    obtain ⟨A2, hA2⟩ : ∃ A2 : Option Addr, A2 = if c = 1 then some ⟨ga, off, none⟩ else some ((⟨ga, off, none⟩ : Addr).add 1) := ⟨_, rfl⟩
    have hsl : ∀ w, (Instr.slice 86 (.slice (some ⟨ga, off, none⟩) (n + 1) c) (some (.int .i64 1)) none none).run Try.prog w = .ok (.slice A2 n (c - 1)) w := fun w => by
      rw [hA2]; exact slice_tailP 86 (by kernel_rfl) (fun _ => by kernel_rfl) w ⟨ga, off, none⟩ n c
    have z0 := h9.drop.drop.drop.blk.frozen 0
    have h10 := (h9.pk6 [3, 4, 0, 1, 2, 5]).setBlk 0 (.slice A2 n (c - 1))
    have hA := hid hA2
    have H10 := hid h10
    clear h8 h9 h10 hA2
    rw [e1]
    go_upto_region 6 with fail
    have h10 := H10.out
    generalize hW : World.setCell _ _ _ = W3 at h10 ⊢
    clear hW H10 z0 k0 hsl
    have h11 : Hold w0 W3 (blkA 55 gr (acC acc0) * (blkA 55 gc (acC a) * (memA r (pushC C q) * (blkA 88 d #[.slice A2 n (c - 1)] * (queA 89 (.slice (some ⟨ga, off, none⟩) (n + 1) c) (.pointer (some ⟨gq, 0, none⟩) :: ptrs qs) * sepR (qs.map qmA) R))))) := h10.pk6 [5, 3, 4, 0, 1]
    clear h10
    go_wp2_with (first | (refine wpList_load rfl 55 _ rfl gc _ _ rfl Try.isAgg55 _ Try.sizeOf55 h11.drop.blk rfl ?_) | (refine wpList_store rfl 55 _ _ rfl gr _ _ (acC a) rfl rfl _ Try.sizeOf55 h11 rfl rfl rfl ?_; intro y3 h12))
    clear h11
    have h13 : Hold w0 y3 (blkA 88 d #[.slice A2 n (c - 1)] * (queA 89 (.slice (some ⟨ga, off, none⟩) (n + 1) c) (.pointer (some ⟨gq, 0, none⟩) :: ptrs qs) * (memA r (pushC C q) * sepR (qs.map qmA) R))) := h12.pk5 [3, 4, 2]
    have h14 := h13.imp (Imp.under _ ((Imp.on _ (Imp.queTail _ _ _ _ _ _)).trans (Imp.under _ (Imp.into _ _ _))))
    rw [← hA.out] at h14
    have h15 : Hold w0 y3 (drA d (drN hs (q :: qs)) * (memA r (pushC C q) * R)) := by
      rw [HDR.out, if_pos h3]; exact drClose h14
    rw [← HDN.out.1]
    have HF : Hid (RAccPost w0 (drA d (drN hs (q :: qs)) * (memA r (pushC C q) * R)) a (.returned a.val) y3) := hid ⟨rfl, h15⟩
    exact bodyPost_ret (results_blk1 Try.results21 _ rfl Try.isAgg55 _ Try.sizeOf55 h12.blk rfl) rfl HF.out
  · have e1 : ((q'.at_ : Int) == 3) = false := by
      have : (q'.at_ : Int) ≠ 3 := by omega
      simpa using this
    have h11 : Hold w0 y2 (blkA 55 gr (acC acc0) * (blkA 55 gc (acC a) * (memA r (pushC C q) * (blkA 88 d #[.slice (some ⟨ga, off, none⟩) (n + 1) c] * (queA 89 (.slice (some ⟨ga, off, none⟩) (n + 1) c) (.pointer (some ⟨gq, 0, none⟩) :: ptrs qs) * (qmA q' * sepR (qs.map qmA) R)))))) := h9.pk6 [5, 1, 2, 3, 4, 0]
    clear h8 h9 k0
    rw [e1]
    go_wp2_with (first | (refine wpList_load rfl 55 _ rfl gc _ _ rfl Try.isAgg55 _ Try.sizeOf55 h11.drop.blk rfl ?_) | (refine wpList_store rfl 55 _ _ rfl gr _ _ (acC a) rfl rfl _ Try.sizeOf55 h11 rfl rfl rfl ?_; intro y3 h12))
    clear h11
    have h13 : Hold w0 y3 (blkA 88 d #[.slice (some ⟨ga, off, none⟩) (n + 1) c] * (queA 89 (.slice (some ⟨ga, off, none⟩) (n + 1) c) (.pointer (some ⟨gq, 0, none⟩) :: ptrs qs) * (memA r (pushC C q) * sepR ((q' :: qs).map qmA) R))) := h12.pk5 [3, 4, 2]
    have h14 := h13.imp (Imp.under _ (Imp.under _ (Imp.into _ _ _)))
    have h15 : Hold w0 y3 (drA d (drN hs (q :: qs)) * (memA r (pushC C q) * R)) := by
      rw [HDR.out, if_neg h3]
      refine drClose (v := .slice (some ⟨ga, off, none⟩) (n + 1) c) ?_
      rw [show ptrs (q' :: qs) = .pointer (some ⟨gq, 0, none⟩) :: ptrs qs by rw [← HDN.out.2.2]; rfl]
      exact h14
    rw [← HDN.out.1]
    have HF : Hid (RAccPost w0 (drA d (drN hs (q :: qs)) * (memA r (pushC C q) * R)) a (.returned a.val) y3) := hid ⟨rfl, h15⟩
    exact bodyPost_ret (results_blk1 Try.results21 _ rfl Try.isAgg55 _ Try.sizeOf55 h12.blk rfl) rfl HF.out
end Go.Proofs.Ytopcnaakdldkpaa
