/- writer and strongtxref09.Stores: contracts. -/
import Derived.Test.YtddghhddafeojaaLab
import Derived.Test.YtddghhddafeojaaSl
import Derived.Deep.DeepCutAuto
namespace Go.Proofs.Ytddghhddafeojaa
open Go.RowKit
set_option linter.unusedVariables false

theorem sz_int (w : World) : (sizeOf (Try.prog.elem 22)).run Try.prog w = .ok 1 w := by kernel_rfl
theorem sz_u64 (w : World) : (sizeOf (Try.prog.elem 23)).run Try.prog w = .ok 1 w := by kernel_rfl
structure WLay where
  A : Option Addr
  c : Nat
  B : Option Addr
  d : Nat
abbrev wrX (g : Nat) (ps vs : List Int) (x : WLay) : Asr :=
  blkA 99 g #[.slice x.A ps.length x.c, .slice x.B ps.length x.d] * (slA x.A ps.length x.c (ps.map (Value.int .i64)) * slA x.B ps.length x.d (vs.map (Value.int .u64)))
/-- The program's writeback: what is left. -/
def wrA (g : Nat) (ps vs : List Int) : Asr := Asr.ex (wrX g ps vs)
section
variable {w0 w : World} {R : Asr} {g : Nat} {ps vs : List Int}
theorem Hold.wrOpen (h : Hold w0 w (wrA g ps vs * R)) : ∃ A c B d, Hold w0 w (blkA 99 g #[.slice A ps.length c, .slice B ps.length d] * (slA A ps.length c (ps.map (Value.int .i64)) * (slA B ps.length d (vs.map (Value.int .u64)) * R))) := by
  obtain ⟨⟨A, c, B, d⟩, h⟩ := h.exOpen
  exact ⟨A, c, B, d, h.part.imp (Imp.under _ (Imp.assoc _ _ _))⟩
theorem Hold.wrShut {A B : Option Addr} {c d : Nat} (h : Hold w0 w (blkA 99 g #[.slice A ps.length c, .slice B ps.length d] * (slA A ps.length c (ps.map (Value.int .i64)) * (slA B ps.length d (vs.map (Value.int .u64)) * R)))) : Hold w0 w (wrA g ps vs * R) :=
  Hold.exClose (x := ⟨A, c, B, d⟩) (h.imp (Imp.under _ (Imp.assoc' _ _ _))).join
end
set_option maxHeartbeats 2000000 in
theorem wr_new (w0 w : World) (R : Asr) (A B : Option Addr) (n c m d : Nat) (xs ys : List Int) (h : Hold w0 w R) (hA : ∀ w', Hold w0 w' R → ∃ bA, Reads w' bA A n (xs.map (Value.int .i64))) (hB : ∀ w', Hold w0 w' R → ∃ bB, Reads w' bB B m (ys.map (Value.int .u64)))
    (hn : n ≤ 1000) (hm : m ≤ 1000) (hc : n ≤ c) (hd : m ≤ d) (k : Nat) (hk : k = min n m) :
    Calls Try.prog 17 #[.slice A n c, .slice B m d] w fun e w' => ∃ g, e = .returned (.pointer (some ⟨g, 0, none⟩)) ∧ Hold w0 w' (wrA g (xs.take k) (ys.take k) * R) := by
  have lx : xs.length = n := by obtain ⟨_, hq⟩ := hA w h; have := hq.len; simpa using this
  have ly : ys.length = m := by obtain ⟨_, hq⟩ := hB w h; have := hq.len; simpa using this
  have hk1 : k ≤ n ∧ k ≤ m := by omega
  have hmin : min (n : Int) (m : Int) = (k : Int) := by omega
  have s1 := fun w => slice_headP (P := Try.prog) 22 (by kernel_rfl) sz_int w A n c k (by omega)
  have s2 := fun w => slice_headP (P := Try.prog) 23 (by kernel_rfl) sz_u64 w B m d k (by omega)
  have HA : Hid (∀ w', Hold w0 w' R → ∃ bA, Reads w' bA A k ((xs.take k).map (Value.int .i64))) := hid fun w' h' => by obtain ⟨b, hq⟩ := hA w' h'; have := hq.take hk1.1; exact ⟨b, by rwa [← List.map_take] at this⟩
  have HB : Hid (∀ w', Hold w0 w' R → ∃ bB, Reads w' bB B k ((ys.take k).map (Value.int .u64))) := hid fun w' h' => by obtain ⟨b, hq⟩ := hB w' h'; have := hq.take hk1.2; exact ⟨b, by rwa [← List.map_take] at this⟩
  have hl : (xs.take k).length = k := by simp; omega
  have HL := hid hl
  clear hA hB lx ly hl
  rcases Nat.lt_or_ge m n with hnm | hnm
  · obtain rfl : m = k := by omega
    clear hk
    go_enter Try.func17, Try.ntmps17
    go_wp2_with fail
    clear hmin
    replace h := h.drew
    refine wp_region_brk [] (by kernel_rfl) ?_
    refine' wpAnyB_bulk [true, true, true, false, true, true, true] 21 (listed' := #[true, true, true, false, true, true, true, false, false, false, false]) rfl (by kernel_rfl) (by kernel_rfl) (by kernel_rfl) (by kernel_rfl) (by kernel_rfl) (by kernel_rfl) (by decide) (fun _ _ _ _ h => h) rfl trivial (fun wq hq => ?_) ?_; rotate_left 1
    · simp only [maskL]
      repeat (go_big_quiet_step (fail))
      exact wpQuiet_nil rfl
    refine wpAnyB_bar [false, false, false, true] (fuel := 4) (by rfl) (by rfl) (by kernel_rfl) (fun QB hQB hQX => ?_)
    simp only [maskL]
    go_wp2_with fail
    obtain ⟨bA, hra⟩ := HA.out _ h
    refine (clone_int _ A m c bA (xs.take m) hra (by omega)).mono ?_
    rintro e w1 ⟨A1, c1, rfl, hown, hc1⟩
    have h1 := (h.newRow hc1 hown (Nat.le_refl _)).imp (Imp.on _ (Imp.rowSl _ _ _ _ _))
    clear h hown hc1
    go_wp2_with fail
    refine hQB.out _ _ trivial ?_
    clear hQB hQX QB
    refine wpAnyB_bar [false, false, false, false, false, false, false, true] (fuel := 3) (by rfl) (by rfl) (by kernel_rfl) (fun QB hQB hQX => ?_)
    simp only [maskL]
    go_wp2_with fail
    obtain ⟨bB, hrb⟩ := HB.out _ h1.drop
    refine (clone_uint64 _ B m d bB (ys.take m) hrb (by omega)).mono ?_
    rintro e w2 ⟨B1, d1, rfl, hown, hc2⟩
    have h2 := (h1.newRow hc2 hown (Nat.le_refl _)).imp (Imp.on _ (Imp.rowSl _ _ _ _ _))
    have h3 := h2.newBlk (t := 99) (cs := #[.slice A1 m c1, .slice B1 m d1])
    have H3 := hid h3
    clear h1 h2 h3 hown hc2
    go_wp2_with fail
    refine hQB.out _ _ trivial ?_
    clear hQB hQX QB
    refine' wpAnyB_bulk [false, false, false, false, false, false, false, false, true] 21 (listed' := #[true, true, true, true, true, true, true, true, true, false, false]) rfl (by kernel_rfl) (by kernel_rfl) (by kernel_rfl) (by kernel_rfl) (by kernel_rfl) (by kernel_rfl) (by decide) (fun _ _ _ _ h => h) rfl trivial (fun wq hq => ?_) ?_; rotate_left 1
    · simp only [maskL]
      repeat (go_big_quiet_step (fail))
      exact wpQuiet_nil rfl
    refine wpAnyB_bar [false, false, false, false, false, false, false, false, false, true] (fuel := 1) (by rfl) (by rfl) (by kernel_rfl) (fun QB hQB hQX => ?_)
    simp only [maskL]
    go_wp2_with fail
    refine hQB.out _ _ trivial ?_
    clear hQB hQX QB
    refine' wpAnyB_bulk [false, false, false, false, false, false, false, false, false, false, true] 21 (listed' := #[true, true, true, true, true, true, true, true, true, true, true]) rfl (by kernel_rfl) (by kernel_rfl) (by kernel_rfl) (by kernel_rfl) (by kernel_rfl) (by kernel_rfl) (by decide) (fun _ _ _ _ h => h) rfl trivial (fun wq hq => ?_) ?_; rotate_left 1
    · simp only [maskL]
      repeat (go_big_quiet_step (fail))
      exact wpQuiet_nil rfl
    refine wpAnyB_done (by kernel_rfl) ?_ _
    have H4 : Hid (Hold w0 _ (wrA w2.heap.size (xs.take m) (ys.take m) * R)) := hid (Hold.wrShut (by rw [HL.out]; exact H3.out.pk3 [0, 2, 1]))
    clear s1 s2
    go_wp2_with fail
    go_ret
    exact ⟨_, rfl, H4.out⟩
  · obtain rfl : n = k := by omega
    clear hk
    go_enter Try.func17, Try.ntmps17
    go_wp2_with fail
    clear hmin
    replace h := h.drew
    refine wp_region_brk [] (by kernel_rfl) ?_
    refine' wpAnyB_bulk [true, true, true, false, true, true, true] 21 (listed' := #[true, true, true, false, true, true, true, false, false, false, false]) rfl (by kernel_rfl) (by kernel_rfl) (by kernel_rfl) (by kernel_rfl) (by kernel_rfl) (by kernel_rfl) (by decide) (fun _ _ _ _ h => h) rfl trivial (fun wq hq => ?_) ?_; rotate_left 1
    · simp only [maskL]
      repeat (go_big_quiet_step (fail))
      exact wpQuiet_nil rfl
    refine wpAnyB_bar [false, false, false, true] (fuel := 4) (by rfl) (by rfl) (by kernel_rfl) (fun QB hQB hQX => ?_)
    simp only [maskL]
    go_wp2_with fail
    obtain ⟨bA, hra⟩ := HA.out _ h
    refine (clone_int _ A n c bA (xs.take n) hra (by omega)).mono ?_
    rintro e w1 ⟨A1, c1, rfl, hown, hc1⟩
    have h1 := (h.newRow hc1 hown (Nat.le_refl _)).imp (Imp.on _ (Imp.rowSl _ _ _ _ _))
    clear h hown hc1
    go_wp2_with fail
    refine hQB.out _ _ trivial ?_
    clear hQB hQX QB
    refine wpAnyB_bar [false, false, false, false, false, false, false, true] (fuel := 3) (by rfl) (by rfl) (by kernel_rfl) (fun QB hQB hQX => ?_)
    simp only [maskL]
    go_wp2_with fail
    obtain ⟨bB, hrb⟩ := HB.out _ h1.drop
    refine (clone_uint64 _ B n d bB (ys.take n) hrb (by omega)).mono ?_
    rintro e w2 ⟨B1, d1, rfl, hown, hc2⟩
    have h2 := (h1.newRow hc2 hown (Nat.le_refl _)).imp (Imp.on _ (Imp.rowSl _ _ _ _ _))
    have h3 := h2.newBlk (t := 99) (cs := #[.slice A1 n c1, .slice B1 n d1])
    have H3 := hid h3
    clear h1 h2 h3 hown hc2
    go_wp2_with fail
    refine hQB.out _ _ trivial ?_
    clear hQB hQX QB
    refine' wpAnyB_bulk [false, false, false, false, false, false, false, false, true] 21 (listed' := #[true, true, true, true, true, true, true, true, true, false, false]) rfl (by kernel_rfl) (by kernel_rfl) (by kernel_rfl) (by kernel_rfl) (by kernel_rfl) (by kernel_rfl) (by decide) (fun _ _ _ _ h => h) rfl trivial (fun wq hq => ?_) ?_; rotate_left 1
    · simp only [maskL]
      repeat (go_big_quiet_step (fail))
      exact wpQuiet_nil rfl
    refine wpAnyB_bar [false, false, false, false, false, false, false, false, false, true] (fuel := 1) (by rfl) (by rfl) (by kernel_rfl) (fun QB hQB hQX => ?_)
    simp only [maskL]
    go_wp2_with fail
    refine hQB.out _ _ trivial ?_
    clear hQB hQX QB
    refine' wpAnyB_bulk [false, false, false, false, false, false, false, false, false, false, true] 21 (listed' := #[true, true, true, true, true, true, true, true, true, true, true]) rfl (by kernel_rfl) (by kernel_rfl) (by kernel_rfl) (by kernel_rfl) (by kernel_rfl) (by kernel_rfl) (by decide) (fun _ _ _ _ h => h) rfl trivial (fun wq hq => ?_) ?_; rotate_left 1
    · simp only [maskL]
      repeat (go_big_quiet_step (fail))
      exact wpQuiet_nil rfl
    refine wpAnyB_done (by kernel_rfl) ?_ _
    have H4 : Hid (Hold w0 _ (wrA w2.heap.size (xs.take n) (ys.take n) * R)) := hid (Hold.wrShut (by rw [HL.out]; exact H3.out.pk3 [0, 2, 1]))
    clear s1 s2
    go_wp2_with fail
    go_ret
    exact ⟨_, rfl, H4.out⟩
theorem wr_done (w0 w : World) (R : Asr) (g : Nat) (ps vs : List Int) (h : Hold w0 w (wrA g ps vs * R)) :
    Calls Try.prog 20 #[.pointer (some ⟨g, 0, none⟩)] w fun e w' => e = .returned (.bool ps.isEmpty) ∧ w = w' := by
  obtain ⟨A, c, B, d, h1⟩ := h.wrOpen
  have q0 := h1.blk.some_ (i := 0) rfl
  clear h h1
  cases ps with
  | nil =>
    go_enter Try.func20, Try.ntmps20
    go_wp2
    go_ret
    exact ⟨rfl, rfl⟩
  | cons z zs =>
    have e1 : (((z :: zs).length : Int) == 0) = false := by simp; omega
    go_enter Try.func20, Try.ntmps20
    go_wp2
    go_ret
    exact ⟨bool_eq (by simp; try omega), rfl⟩
theorem wr_left (w0 w : World) (R : Asr) (g : Nat) (ps vs : List Int) (h : Hold w0 w (wrA g ps vs * R)) :
    Calls Try.prog 22 #[.pointer (some ⟨g, 0, none⟩)] w fun e w' => e = .returned (.int .i64 ps.length) ∧ w = w' := by
  obtain ⟨A, c, B, d, h1⟩ := h.wrOpen
  have q0 := h1.blk.some_ (i := 0) rfl
  clear h h1
  go_enter Try.func22, Try.ntmps22
  go_wp2
  go_ret
  exact ⟨rfl, rfl⟩
theorem wr_step_done (w0 w : World) (R : Asr) (g : Nat) (m : Value) (vs : List Int) (h : Hold w0 w (wrA g [] vs * R)) :
    Calls Try.prog 23 #[.pointer (some ⟨g, 0, none⟩), m] w (RAccPost w0 (wrA g [] vs * R) acc0) := by
  have h1 := h.alloc (.cells #[.int .i64 0, .int .i64 0, .int .i64 0, .int .u64 0, .int .u64 0, .bool false] 45)
  go_enter Try.func23, Try.ntmps23
  go_wp2_with fail
  refine (wr_done w0 _ R g [] vs h1).mono ?_
  rintro e w' ⟨rfl, rfl⟩
  go_wp2_with fail
  exact bodyPost_ret (v := acc0.val) (by simp [results, Try.results23, acc0, go_sem]) rfl ⟨rfl, h1⟩
set_option maxRecDepth 8000 in
set_option maxHeartbeats 4000000 in
theorem wr_step (w0 w : World) (R : Asr) (g m : Nat) (C : Nat → List Int) (z x : Int) (zs xs : List Int) (h : Hold w0 w (wrA g (z :: zs) (x :: xs) * (memA m C * R))) (hC : COk C) (hz : -9223372036854775808 ≤ z ∧ z ≤ 9223372036854775807) :
    Calls Try.prog 23 #[.pointer (some ⟨g, 0, none⟩), .pointer (some ⟨m, 0, none⟩)] w
      (RAccPost w0 (wrA g zs xs * (memA m (opC C 1 z x true) * R)) (opA C 2 1 z x true)) := by
  obtain ⟨a, ha⟩ : ∃ a, a = opA C 2 1 z x true := ⟨_, rfl⟩
  obtain ⟨C', hC'⟩ : ∃ C', C' = opC C 1 z x true := ⟨_, rfl⟩
  rw [← ha, ← hC']
  have HA := hid ha
  have HC' := hid hC'
  have HK := hid hC
  clear ha hC hC'
  have h1 := (h.newBlk (t := 45) (cs := #[.int .i64 0, .int .i64 0, .int .i64 0, .int .u64 0, .int .u64 0, .bool false])).swap
  have H1 := hid h1
  clear h h1
  go_enter Try.func23, Try.ntmps23
  go_wp2_with fail
  have h1 := H1.out
  generalize hW : World.alloc _ _ = W at h1 ⊢
  generalize w.heap.size = gr at h1 ⊢
  clear hW H1
  refine (wr_done w0 _ _ g (z :: zs) (x :: xs) h1).mono ?_
  rintro e w' ⟨rfl, rfl⟩
  rw [show (z :: zs).isEmpty = false from rfl]
  obtain ⟨A, c, B, d, h2⟩ := h1.wrOpen
  obtain ⟨ad, rfl, hat⟩ := (h2.pk3 [1, 0, 2]).slAt2 (k := 0) (by simp)
  obtain ⟨bd, rfl, hbt⟩ := (h2.pk3 [2, 0, 1]).slAt2 (k := 0) (by simp)
  have HAT : Hid (∀ w' R', Hold w0 w' (slA (some ad) (z :: zs).length c ((z :: zs).map (Value.int .i64)) * R') → w'.cell? (ad.add 0) = some (.int .i64 z)) := hid hat
  have HBT : Hid (∀ w' R', Hold w0 w' (slA (some bd) (z :: zs).length d ((x :: xs).map (Value.int .u64)) * R') → w'.cell? (bd.add 0) = some (.int .u64 x)) := hid hbt
  have hlen : 0 < (z :: zs).length := by simp
  have hlen2 : 0 < zs.length + 1 := by omega
  have hxl : xs.length = zs.length := by have := (h2.pk3 [2, 0, 1]).slLen; simpa using this
  clear h1 hat hbt
  go_upto_region 3 with fail
  go_cut [5] (fun s wx => ∃ ga, s = .pointer (some ⟨ga, 0, none⟩) ∧ Hold w0 wx (blkA 45 ga #[.int .i64 a.kind, .int .i64 a.cell, .int .i64 a.index, .int .u64 a.got, .int .u64 a.put, .bool a.done] * (blkA 99 g #[.slice (some ad) (z :: zs).length c, .slice (some bd) (z :: zs).length d] * (slA (some ad) (z :: zs).length c ((z :: zs).map (Value.int .i64)) * (slA (some bd) (z :: zs).length d ((x :: xs).map (Value.int .u64)) * (blkA 45 gr #[.int .i64 0, .int .i64 0, .int .i64 0, .int .u64 0, .int .u64 0, .bool false] * (memA m C' * R)))))))
  case first =>
    replace h2 := h2.drew
    refine wp_region_brk [18] (by kernel_rfl) ?_
    refine wpAnyB_now (fun w' => ∃ Z, Hold w0 w' (blkA 99 g #[.slice (some ad) (z :: zs).length c, .slice (some bd) (z :: zs).length d] * (slA (some ad) (z :: zs).length c ((z :: zs).map (Value.int .i64)) * (slA (some bd) (z :: zs).length d ((x :: xs).map (Value.int .u64)) * Z)))) (fun _ _ => trivial) _ _ _ _ ?_
    refine' wpAnyB_bulk [true, true, true, true, true, true, true, true, true, true, true, true, true] 44 (listed' := #[true, true, true, true, true, true, true, true, true, true, true, true, true, false, false, false, false, false, false, false]) rfl (by kernel_rfl) (by kernel_rfl) (by kernel_rfl) (by kernel_rfl) (by kernel_rfl) (by kernel_rfl) (by decide) (fun _ _ _ _ h => h) rfl ⟨_, h2⟩ (fun wq hq => ?_) ?_; rotate_left 1
    · simp only [maskL]
      obtain ⟨Z, hq⟩ := hq
      have q0 := hq.blk.some_ (i := 0) rfl
      have q1 := hq.blk.some_ (i := 1) rfl
      have q2 := HAT.out wq _ (hq.pk3 [1, 0, 2])
      have q3 := HBT.out wq _ (hq.pk3 [2, 0, 1])
      have q4 : wq.cell? ad = some (.int .i64 z) := q2
      have q5 : wq.cell? bd = some (.int .u64 x) := q3
      repeat (go_big_quiet_step (fail))
      exact wpQuiet_nil rfl
    refine wpAnyB_two [false, false, false, false, false, false, false, false, false, false, false, false, false, true] [false, false, false, false, false, false, false, false, false, false, false, false, false, false, false, false, false, true] (fuel := 6) (by rfl) (by rfl) (by rfl) (by rfl) (by kernel_rfl) (fun QB hQB hQX => ?_) (fun QB hQB hQX => ?_)
    · simp only [maskL]
      go_wp2_with fail
      first
        | refine (mem_store w0 _ _ m C 1 z x (h4.pk6 [5, 0, 1, 2, 3, 4]) hz HK.out.len).mono ?_
        | refine (mem_store w0 _ _ m C 1 z x (h2.pk5 [4, 0, 1, 2, 3]) hz HK.out.len).mono ?_
      rintro e w2 ⟨rfl, h5⟩
      rw [← HA.out]
      rw [← HC'.out] at h5
      generalize opE C 1 z = er
      go_wp2_with fail
      refine hQB.out _ _ (by first | exact ⟨_, h5.pk6 [2, 3, 4, 5, 1, 0]⟩ | exact ⟨_, h5.pk5 [1, 2, 3, 4, 0]⟩) ?_
      clear hQB hQX QB
      refine' wpAnyB_bulkT [false, false, false, false, false, false, false, false, false, false, false, false, false, false, true, true, true] 44 (listed' := #[true, true, true, true, true, true, true, true, true, true, true, true, true, true, true, true, true, false, false, false]) rfl (by kernel_rfl) (by kernel_rfl) (by kernel_rfl) (by kernel_rfl) (by kernel_rfl) (by decide) (fun _ _ _ _ h => h) rfl (by first | exact ⟨_, h5.pk6 [2, 3, 4, 5, 1, 0]⟩ | exact ⟨_, h5.pk5 [1, 2, 3, 4, 0]⟩) (fun wq _ => ?_) ?_; rotate_left 1
      · simp only [maskL]
        repeat (go_big_quiet_step (fail))
        exact wpQuiet_nil rfl
      refine wpAnyB_bar [false, false, false, false, false, false, false, false, false, false, false, false, false, false, false, false, false, true] (fuel := 2) (by rfl) (by rfl) (by kernel_rfl) (fun QB hQB hQX => ?_)
      simp only [maskL]
      first
        | have h4 := hid ((h5.pk5 [1, 2, 3, 4, 0]).newBlk (t := 45) (cs := #[.int .i64 0, .int .i64 0, .int .i64 0, .int .u64 0, .int .u64 0, .bool false]))
        | have h4 := hid ((h2.undrew.newBlk (t := 45) (cs := #[.int .i64 0, .int .i64 0, .int .i64 0, .int .u64 0, .int .u64 0, .bool false])).drew)
      go_wp2_with fail
      refine hQB.out _ _ ⟨_, h4.out.drop⟩ ?_
      clear hQB hQX QB
      replace h4 := h4.out
      generalize hW : World.alloc _ _ = W4 at h4 ⊢
      clear hW
      first | generalize w2.heap.size = ga at h4 ⊢ | generalize W.heap.size = ga at h4 ⊢
      refine wpAnyB_brk [false, false, false, false, false, false, false, false, false, false, false, false, false, false, false, false, false, false, true] (fuel := 1) (by rfl) (by rfl) (by kernel_rfl) (by kernel_rfl) (fun QB hQB hQX => ?_)
      simp only [maskL]
      first | have hf := h5.pk6 [1, 2, 3, 4, 5, 0] | have hf := h4
      obtain ⟨⟨x0, x1, x2, x3, x4, x5⟩, z0, z1, z2, z3, z4, z5⟩ := blk_acc hf.blk
      have H8 := hid (hf.setAcc (.int .i64 a.kind) (.int .i64 a.cell) (.int .i64 a.index) (.int .u64 a.got) (.int .u64 a.put) (.bool a.done))
      clear hf h2 h4 h5
      go_wp2_with fail
      refine hQB.out _ _ ?_
      clear hQB hQX QB
      refine wpAnyB_forget (by kernel_rfl) ?_
      refine' wpAnyB_bulk [false, false, false, false, false, false, false, false, false, false, false, false, false, false, false, false, false, false, false, true] 44 (listed' := #[true, true, true, true, true, true, true, true, true, true, true, true, true, true, true, true, true, true, true, true]) rfl (by kernel_rfl) (by kernel_rfl) (by kernel_rfl) (by kernel_rfl) (by kernel_rfl) (by kernel_rfl) (by decide) (fun _ _ _ _ h => h) rfl trivial (fun wq hq => ?_) ?_; rotate_left 1
      · simp only [maskL]
        repeat (go_big_quiet_step (fail))
        exact wpQuiet_nil rfl
      refine wpAnyB_done (by kernel_rfl) ?_ _
      -- END
      clear x0 x1 x2 x3 x4 x5 z0 z1 z2 z3 z4 z5
      go_wp2_with fail
      go_meet
      exact ⟨ga, rfl, H8.out⟩
    · simp only [maskL]
      first
        | have h4 := hid ((h5.pk5 [1, 2, 3, 4, 0]).newBlk (t := 45) (cs := #[.int .i64 0, .int .i64 0, .int .i64 0, .int .u64 0, .int .u64 0, .bool false]))
        | have h4 := hid ((h2.undrew.newBlk (t := 45) (cs := #[.int .i64 0, .int .i64 0, .int .i64 0, .int .u64 0, .int .u64 0, .bool false])).drew)
      go_wp2_with fail
      refine hQB.out _ _ ⟨_, h4.out.drop⟩ ?_
      clear hQB hQX QB
      replace h4 := h4.out
      generalize hW : World.alloc _ _ = W4 at h4 ⊢
      clear hW
      first | generalize w2.heap.size = ga at h4 ⊢ | generalize W.heap.size = ga at h4 ⊢
      refine wpAnyB_bar [false, false, false, false, false, false, false, false, false, false, false, false, false, true] (fuel := 5) (by rfl) (by rfl) (by kernel_rfl) (fun QB hQB hQX => ?_)
      simp only [maskL]
      go_wp2_with fail
      first
        | refine (mem_store w0 _ _ m C 1 z x (h4.pk6 [5, 0, 1, 2, 3, 4]) hz HK.out.len).mono ?_
        | refine (mem_store w0 _ _ m C 1 z x (h2.pk5 [4, 0, 1, 2, 3]) hz HK.out.len).mono ?_
      rintro e w2 ⟨rfl, h5⟩
      rw [← HA.out]
      rw [← HC'.out] at h5
      generalize opE C 1 z = er
      go_wp2_with fail
      refine hQB.out _ _ (by first | exact ⟨_, h5.pk6 [2, 3, 4, 5, 1, 0]⟩ | exact ⟨_, h5.pk5 [1, 2, 3, 4, 0]⟩) ?_
      clear hQB hQX QB
      refine' wpAnyB_bulkT [false, false, false, false, false, false, false, false, false, false, false, false, false, false, true, true, true] 44 (listed' := #[true, true, true, true, true, true, true, true, true, true, true, true, true, true, true, true, true, true, false, false]) rfl (by kernel_rfl) (by kernel_rfl) (by kernel_rfl) (by kernel_rfl) (by kernel_rfl) (by decide) (fun _ _ _ _ h => h) rfl (by first | exact ⟨_, h5.pk6 [2, 3, 4, 5, 1, 0]⟩ | exact ⟨_, h5.pk5 [1, 2, 3, 4, 0]⟩) (fun wq _ => ?_) ?_; rotate_left 1
      · simp only [maskL]
        repeat (go_big_quiet_step (fail))
        exact wpQuiet_nil rfl
      refine wpAnyB_brk [false, false, false, false, false, false, false, false, false, false, false, false, false, false, false, false, false, false, true] (fuel := 1) (by rfl) (by rfl) (by kernel_rfl) (by kernel_rfl) (fun QB hQB hQX => ?_)
      simp only [maskL]
      first | have hf := h5.pk6 [1, 2, 3, 4, 5, 0] | have hf := h4
      obtain ⟨⟨x0, x1, x2, x3, x4, x5⟩, z0, z1, z2, z3, z4, z5⟩ := blk_acc hf.blk
      have H8 := hid (hf.setAcc (.int .i64 a.kind) (.int .i64 a.cell) (.int .i64 a.index) (.int .u64 a.got) (.int .u64 a.put) (.bool a.done))
      clear hf h2 h4 h5
      go_wp2_with fail
      refine hQB.out _ _ ?_
      clear hQB hQX QB
      refine wpAnyB_forget (by kernel_rfl) ?_
      refine' wpAnyB_bulk [false, false, false, false, false, false, false, false, false, false, false, false, false, false, false, false, false, false, false, true] 44 (listed' := #[true, true, true, true, true, true, true, true, true, true, true, true, true, true, true, true, true, true, true, true]) rfl (by kernel_rfl) (by kernel_rfl) (by kernel_rfl) (by kernel_rfl) (by kernel_rfl) (by kernel_rfl) (by decide) (fun _ _ _ _ h => h) rfl trivial (fun wq hq => ?_) ?_; rotate_left 1
      · simp only [maskL]
        repeat (go_big_quiet_step (fail))
        exact wpQuiet_nil rfl
      refine wpAnyB_done (by kernel_rfl) ?_ _
      -- END
      clear x0 x1 x2 x3 x4 x5 z0 z1 z2 z3 z4 z5
      go_wp2_with fail
      go_meet
      exact ⟨ga, rfl, H8.out⟩
  case rest =>
  obtain ⟨ga, rfl, h5⟩ := hcut
  clear HAT HBT h2 hlen hlen2
  have t1 := fun w => slice_tailP (P := Try.prog) 22 (by kernel_rfl) sz_int w ad zs.length c
  have t2 := fun w => slice_tailP (P := Try.prog) 23 (by kernel_rfl) sz_u64 w bd zs.length d
  obtain ⟨A2, hA2⟩ : ∃ A2, A2 = if c = 1 then some ad else some (ad.add 1) := ⟨_, rfl⟩
  obtain ⟨B2, hB2⟩ : ∃ B2, B2 = if d = 1 then some bd else some (bd.add 1) := ⟨_, rfl⟩
  rw [← hA2] at t1
  rw [← hB2] at t2
  have HA2 := hid hA2
  have HB2 := hid hB2
  have HXL := hid hxl
  clear hA2 hB2 hxl
  replace h5 := h5.pk3 [1, 0, 2]
  go_wp2_with fail
  replace h5 := h5.drew
  refine wp_region_brk [14, 17] (by kernel_rfl) ?_
  refine wpAnyB_now (fun w' => ∃ Z, Hold w0 w' (blkA 99 g #[.slice (some ad) (zs.length + 1) c, .slice (some bd) (zs.length + 1) d] * Z)) (fun _ _ => trivial) _ _ _ _ ?_
  refine' wpAnyB_bulkT [true, true, true, true, true, false, false, true, true, true] 44 (listed' := #[true, true, true, true, true, false, false, true, true, true, false, false, false, false, false, false, false, false]) rfl (by kernel_rfl) (by kernel_rfl) (by kernel_rfl) (by kernel_rfl) (by kernel_rfl) (by decide) (fun _ _ _ _ h => h) rfl ⟨_, h5⟩ (fun wq _ => ?_) ?_; rotate_left 1
  · simp only [maskL]
    repeat (go_big_quiet_step (fail))
    exact wpQuiet_nil rfl
  refine' wpAnyB_bulk [false, false, false, false, false, true, true, false, false, false, true] 44 (listed' := #[true, true, true, true, true, true, true, true, true, true, true, false, false, false, false, false, false, false]) rfl (by kernel_rfl) (by kernel_rfl) (by kernel_rfl) (by kernel_rfl) (by kernel_rfl) (by kernel_rfl) (by decide) (fun _ _ _ _ h => h) rfl ⟨_, h5⟩ (fun wq hq => ?_) ?_; rotate_left 1
  · simp only [maskL]
    obtain ⟨Z, hq⟩ := hq
    have q0 := hq.blk.some_ (i := 0) rfl
    have q1 := hq.blk.some_ (i := 1) rfl
    repeat (go_big_quiet_step (fail))
    exact wpQuiet_nil rfl
  refine' wpAnyB_bulkT [false, false, false, false, false, false, false, false, false, false, false, true, true, true] 44 (listed' := #[true, true, true, true, true, true, true, true, true, true, true, true, true, true, false, false, false, false]) rfl (by kernel_rfl) (by kernel_rfl) (by kernel_rfl) (by kernel_rfl) (by kernel_rfl) (by decide) (fun _ _ _ _ h => h) rfl ⟨_, h5⟩ (fun wq _ => ?_) ?_; rotate_left 1
  · simp only [maskL]
    repeat (go_big_quiet_step (fail))
    exact wpQuiet_nil rfl
  refine wpAnyB_brk [false, false, false, false, false, false, false, false, false, false, false, false, false, false, true] (fuel := 3) (by rfl) (by rfl) (by kernel_rfl) (by kernel_rfl) (fun QB hQB hQX => ?_)
  simp only [maskL]
  replace h5 := h5.undrew
  have q0 := h5.blk.some_ (i := 0) (u := .slice (some ad) (zs.length + 1) c) rfl
  have q1 := h5.blk.some_ (i := 1) (u := .slice (some bd) (zs.length + 1) d) rfl
  have z0 := h5.blk.frozen 0
  have z1 := h5.blk.frozen 1
  have h6 := (h5.setBlk 0 (.slice A2 zs.length (c - 1))).setBlk 1 (.slice B2 zs.length (d - 1))
  have H6 := hid h6
  clear h5 h6
  go_wp2_with fail
  refine hQB.out _ _ ?_
  clear hQB hQX QB
  refine wpAnyB_forget (by kernel_rfl) ?_
  refine' wpAnyB_bulk [false, false, false, false, false, false, false, false, false, false, false, false, false, false, false, true, true] 44 (listed' := #[true, true, true, true, true, true, true, true, true, true, true, true, true, true, true, true, true, false]) rfl (by kernel_rfl) (by kernel_rfl) (by kernel_rfl) (by kernel_rfl) (by kernel_rfl) (by kernel_rfl) (by decide) (fun _ _ _ _ h => h) rfl trivial (fun wq hq => ?_) ?_; rotate_left 1
  · simp only [maskL]
    repeat (go_big_quiet_step (fail))
    exact wpQuiet_nil rfl
  refine wpAnyB_bar [false, false, false, false, false, false, false, false, false, false, false, false, false, false, false, false, false, true] (fuel := 0) (by rfl) (by rfl) (by kernel_rfl) (fun QB hQB hQX => ?_)
  simp only [maskL]
  go_wp2_with fail
  refine hQB.out _ _ trivial ?_
  clear hQB hQX QB
  refine wpAnyB_done (by kernel_rfl) ?_ _
  clear q0 q1 z0 z1 t1 t2
  have h6 := H6.out
  generalize hW : World.setCell _ _ _ = W6 at h6 ⊢
  clear hW H6
  have h7 : Hold w0 W6 (blkA 99 g #[.slice A2 zs.length (c - 1), .slice B2 zs.length (d - 1)] * (blkA 45 ga #[.int .i64 a.kind, .int .i64 a.cell, .int .i64 a.index, .int .u64 a.got, .int .u64 a.put, .bool a.done] * (slA A2 zs.length (c - 1) (zs.map (Value.int .i64)) * (slA B2 zs.length (d - 1) (xs.map (Value.int .u64)) * (blkA 45 gr #[.int .i64 0, .int .i64 0, .int .i64 0, .int .u64 0, .int .u64 0, .bool false] * (memA m C' * R)))))) := by
    rw [HA2.out, HB2.out]
    rw [HA2.out, HB2.out] at h6
    exact h6.imp (Imp.under _ (Imp.under _ ((Imp.on _ (Imp.slTail _ _ _ _ _)).trans (Imp.under _ (Imp.on _ (Imp.slTail _ _ _ _ _))))))
  clear h6 HA2 HB2
  obtain ⟨⟨x0, x1, x2, x3, x4, x5⟩, z0, z1, z2, z3, z4, z5⟩ := blk_acc (h7.pk5 [4, 0, 1, 2, 3]).blk
  obtain ⟨⟨y0, y1, y2, y3, y4, y5⟩, _⟩ := blk_acc h7.drop.blk
  have H8 := hid ((h7.pk5 [4, 0, 1, 2, 3]).setAcc (.int .i64 a.kind) (.int .i64 a.cell) (.int .i64 a.index) (.int .u64 a.got) (.int .u64 a.put) (.bool a.done))
  clear h7
  go_wp2_with fail
  have h8 := H8.out
  generalize hW : World.setCell _ _ _ = W8 at h8 ⊢
  clear hW H8 x0 x1 x2 x3 x4 x5 z0 z1 z2 z3 z4 z5 y0 y1 y2 y3 y4 y5
  obtain ⟨⟨y0, y1, y2, y3, y4, y5⟩, _⟩ := blk_acc h8.blk
  have h9 : Hold w0 W8 (blkA 99 g #[.slice A2 zs.length (c - 1), .slice B2 zs.length (d - 1)] * (slA A2 zs.length (c - 1) (zs.map (Value.int .i64)) * (slA B2 zs.length (d - 1) (xs.map (Value.int .u64)) * (memA m C' * R)))) := h8.pk5 [1, 3, 4]
  have hfin : Hid (RAccPost w0 (wrA g zs xs * (memA m C' * R)) a (.returned a.val) W8.drew) := hid ⟨rfl, h9.drew.wrShut⟩
  exact bodyPost_ret (v := a.val) (by simp [results, Try.results23, go_sem, y0, y1, y2, y3, y4, y5]) rfl hfin.out
abbrev stX (g : Nat) (cl : Int) (ps : List Int) (B : Option Addr) (d k : Nat) (x : Option Addr × Nat) : Asr :=
  blkA 42 g #[.int .i64 cl, .slice x.1 ps.length x.2, .slice B ps.length d, .int .i64 k] * slA x.1 ps.length x.2 (ps.map (Value.int .i64))
theorem st_done (w0 w : World) (R : Asr) (g : Nat) (cl : Int) (ps : List Int) (B : Option Addr) (d k : Nat) (ly : Option Addr × Nat) (h : Hold w0 w (stX g cl ps B d k ly * R)) :
    Calls Try.prog 21 #[.pointer (some ⟨g, 0, none⟩)] w fun e w' => e = .returned (.bool (decide (k = ps.length))) ∧ Hold w0 w' (stX g cl ps B d k ly * R) := by
  have hfin : Hid (∀ q, Hold w0 (w.drewN q) (stX g cl ps B d k ly * R)) := hid fun q => h.drewN q
  obtain ⟨A, c⟩ := ly
  have h1 := h.part
  have q1 := h1.blk.some_ (i := 1) rfl
  have q3 := h1.blk.some_ (i := 3) rfl
  clear h h1
  by_cases hk : k = ps.length
  · have e1 : ((k : Int) == (ps.length : Int)) = true := by simp [hk]
    have e2 : (k == ps.length) = true := by simp [hk]
    have HR : Hid (decide (k = ps.length) = true) := hid (decide_eq_true hk)
    clear hk
    go_enter Try.func21, Try.ntmps21
    go_wp2_with fail
    go_quiet (fail)
    go_wp2_with fail
    go_ret
    exact ⟨bool_eq HR.out.symm, hfin.out _⟩
  · have e1 : ((k : Int) == (ps.length : Int)) = false := by simp; omega
    have e2 : (k == ps.length) = false := by simp [hk]
    have HR : Hid (decide (k = ps.length) = false) := hid (decide_eq_false hk)
    clear hk
    go_enter Try.func21, Try.ntmps21
    go_wp2_with fail
    go_quiet (fail)
    go_wp2_with fail
    go_ret
    exact ⟨bool_eq HR.out.symm, hfin.out _⟩
theorem st_step_done (w0 w : World) (R : Asr) (g : Nat) (m : Value) (cl : Int) (ps : List Int) (B : Option Addr) (d : Nat) (ly : Option Addr × Nat) (h : Hold w0 w (stX g cl ps B d ps.length ly * R)) :
    Calls Try.prog 24 #[.pointer (some ⟨g, 0, none⟩), m] w (RAccPost w0 (stX g cl ps B d ps.length ly * R) acc0) := by
  have h1 := (h.newBlk (t := 45) (cs := #[.int .i64 0, .int .i64 0, .int .i64 0, .int .u64 0, .int .u64 0, .bool false])).swap
  go_enter Try.func24, Try.ntmps24
  go_wp2_with fail
  generalize hW : World.alloc _ _ = W at h1 ⊢
  generalize w.heap.size = gr at h1 ⊢
  clear hW h
  refine (st_done w0 _ _ g cl ps B d _ ly h1).mono ?_
  rintro e w1 ⟨rfl, h2⟩
  rw [decide_eq_true rfl]
  obtain ⟨⟨x0, x1, x2, x3, x4, x5⟩, z0, z1, z2, z3, z4, z5⟩ := blk_acc h2.swap.blk
  have H3 := hid (h2.swap.setAcc (.int .i64 0) (.int .i64 0) (.int .i64 0) (.int .u64 0) (.int .u64 0) (.bool false))
  clear h1 h2
  go_wp2_with fail
  have h3 := H3.out
  generalize hW : World.setCell _ _ _ = W3 at h3 ⊢
  clear hW H3 x0 x1 x2 x3 x4 x5 z0 z1 z2 z3 z4 z5
  obtain ⟨⟨y0, y1, y2, y3, y4, y5⟩, _⟩ := blk_acc h3.blk
  exact bodyPost_ret (v := acc0.val) (by simp [results, Try.results24, acc0, go_sem, y0, y1, y2, y3, y4, y5]) rfl ⟨rfl, h3.drop⟩
set_option maxRecDepth 8000 in
set_option maxHeartbeats 4000000 in
theorem st_step (w0 w : World) (R : Asr) (g m : Nat) (c : Cfg) (C : Nat → List Int) (cl z x : Int) (ps : List Int) (bd : Addr) (d k : Nat) (ly : Option Addr × Nat) (h : Hold w0 w (stX g cl ps (some bd) d k ly * (refA m c C * R))) (hC : COk C) (hk : k < ps.length) (hl : ps.length ≤ 1000) (hz : ps[k]? = some z) (hx : ∀ w', Below w0.heap.size w0 w' → w'.cell? (bd.add k) = some (.int .u64 x)) :
    Calls Try.prog 24 #[.pointer (some ⟨g, 0, none⟩), .pointer (some ⟨m, 0, none⟩)] w
      (RAccPost w0 (stX g cl ps (some bd) d (k + 1) ly * (refA m c (opC C cl z x true) * R)) (opA C 2 cl z x true)) := by
  obtain ⟨a, ha⟩ : ∃ a, a = opA C 2 cl z x true := ⟨_, rfl⟩
  obtain ⟨C', hC'⟩ : ∃ C', C' = opC C cl z x true := ⟨_, rfl⟩
  rw [← ha, ← hC']
  have HA := hid ha
  have HC' := hid hC'
  have HK := hid hC
  clear ha hC hC'
  have h1 := (h.newBlk (t := 45) (cs := #[.int .i64 0, .int .i64 0, .int .i64 0, .int .u64 0, .int .u64 0, .bool false])).swap
  have H1 := hid h1
  clear h h1
  go_enter Try.func24, Try.ntmps24
  go_wp2_with fail
  have h1 := H1.out
  generalize hW : World.alloc _ _ = W at h1 ⊢
  generalize w.heap.size = gr at h1 ⊢
  clear hW H1
  refine (st_done w0 _ _ g cl ps _ d k ly h1).mono ?_
  rintro e w1 ⟨rfl, h1⟩
  rw [decide_eq_false (show ¬ k = ps.length by omega)]
  obtain ⟨A, cp⟩ := ly
  have h2 := h1.part
  obtain ⟨ad, rfl, hat⟩ := (h2.pk2 [1, 0]).slAt2 (k := k) hk
  rw [List.getElem?_map, hz] at hat
  have HAT : Hid (∀ w' R', Hold w0 w' (slA (some ad) ps.length cp (ps.map (Value.int .i64)) * R') → w'.cell? (ad.add k) = some (.int .i64 z)) := hid hat
  have HBT := hid hx
  have q3 := h2.blk.some_ (i := 3) rfl
  have z3 := h2.blk.frozen 3
  have h3 := h2.setBlk 3 (.int .i64 ((k : Int) + 1))
  have H3 := hid h3
  have i0 : (0 : Int) ≤ (k : Int) := by omega
  have i1 : (k : Int) < (ps.length : Int) := by omega
  clear h1 h2 h3 hat hz hx
  go_wp2_with fail
  have h3 := H3.out
  generalize hW : World.setCell _ _ _ = W3 at h3 ⊢
  clear hW H3 q3 z3
  have hsub : IntKind.i64.wrap ((k : Int) + 1 - 1) = (k : Int) := by rw [show (k : Int) + 1 - 1 = k by omega]; exact IntWalk.i64_in _ (by omega)
  replace h3 := h3.drew
  refine wp_region_brk [28] (by kernel_rfl) ?_
  refine wpAnyB_now (fun w' => ∃ Z, Hold w0 w' (blkA 42 g #[.int .i64 cl, .slice (some ad) ps.length cp, .slice (some bd) ps.length d, .int .i64 ((k : Int) + 1)] * (slA (some ad) ps.length cp (ps.map (Value.int .i64)) * Z))) (fun _ _ => trivial) _ _ _ _ ?_
  refine' wpAnyB_bulk [true, true, true, true, true, true, true, true, true, true, true, true, true, true, true, true, true, true, true, true, true, true, true, true, true, true, true] 43 (listed' := #[true, true, true, true, true, true, true, true, true, true, true, true, true, true, true, true, true, true, true, true, true, true, true, true, true, true, true, false, false]) rfl (by kernel_rfl) (by kernel_rfl) (by kernel_rfl) (by kernel_rfl) (by kernel_rfl) (by kernel_rfl) (by decide) (fun _ _ _ _ h => h) rfl ⟨_, h3⟩ (fun wq hq => ?_) ?_; rotate_left 1
  · simp only [maskL]
    obtain ⟨Z, hq⟩ := hq
    have q0 := hq.blk.some_ (i := 0) rfl
    have q1 := hq.blk.some_ (i := 1) rfl
    have q2 := hq.blk.some_ (i := 2) rfl
    have q3 := hq.blk.some_ (i := 3) rfl
    have q4 := HAT.out wq _ (hq.pk2 [1, 0])
    have q5 := HBT.out wq hq.below
    repeat (go_big_quiet_step (fail))
    exact wpQuiet_nil rfl
  refine wpAnyB_bar [false, false, false, false, false, false, false, false, false, false, false, false, false, false, false, false, false, false, false, false, false, false, false, false, false, false, false, true] (fuel := 1) (by rfl) (by rfl) (by kernel_rfl) (fun QB hQB hQX => ?_)
  simp only [maskL]
  go_wp2_with fail
  clear hsub
  refine (ref_store w0 _ _ m c C cl z x (h3.pk4 [3, 0, 1, 2]) HK.out).mono ?_
  rintro e w2 ⟨rfl, h4⟩
  rw [← HA.out]
  rw [← HC'.out] at h4
  have h5 : Hold w0 w2 (blkA 42 g #[.int .i64 cl, .slice (some ad) ps.length cp, .slice (some bd) ps.length d, .int .i64 ((k : Int) + 1)] * (slA (some ad) ps.length cp (ps.map (Value.int .i64)) * ((blkA 45 gr #[.int .i64 0, .int .i64 0, .int .i64 0, .int .u64 0, .int .u64 0, .bool false] * (refA m c C' * R))))) := h4.pk4 [1, 2, 3, 0]
  clear h3 h4
  go_wp2_with fail
  refine hQB.out _ _ ⟨_, h5⟩ ?_
  clear hQB hQX QB
  obtain ⟨⟨x0, x1, x2, x3, x4, x5⟩, z0, z1, z2, z3, z4, z5⟩ := blk_acc (h5.pk3 [2, 0, 1]).blk
  have H8 := hid ((h5.pk3 [2, 0, 1]).setAcc (.int .i64 a.kind) (.int .i64 a.cell) (.int .i64 a.index) (.int .u64 a.got) (.int .u64 a.put) (.bool a.done))
  clear h5
  refine wpAnyB_brk [false, false, false, false, false, false, false, false, false, false, false, false, false, false, false, false, false, false, false, false, false, false, false, false, false, false, false, false, true] (fuel := 0) (by rfl) (by rfl) (by kernel_rfl) (by kernel_rfl) (fun QB hQB hQX => ?_)
  simp only [maskL]
  go_wp2_with fail
  refine hQB.out _ _ ?_
  clear hQB hQX QB
  refine wpAnyB_forget (by kernel_rfl) ?_
  refine wpAnyB_done (by kernel_rfl) ?_ _
  have h8 := H8.out
  generalize hW : World.setCell _ _ _ = W8 at h8 ⊢
  clear hW H8 x0 x1 x2 x3 x4 x5 z0 z1 z2 z3 z4 z5
  obtain ⟨⟨y0, y1, y2, y3, y4, y5⟩, _⟩ := blk_acc h8.blk
  have h9 : Hold w0 W8 (blkA 42 g #[.int .i64 cl, .slice (some ad) ps.length cp, .slice (some bd) ps.length d, .int .i64 ((k + 1 : Nat) : Int)] * (slA (some ad) ps.length cp (ps.map (Value.int .i64)) * (refA m c C' * R))) := h8.drop
  have hfin : Hid (RAccPost w0 (stX g cl ps (some bd) d (k + 1) (some ad, cp) * (refA m c C' * R)) a (.returned a.val) W8) := hid ⟨rfl, h9.join⟩
  go_wp2_with fail
  exact bodyPost_ret (v := a.val) (by simp [results, Try.results24, go_sem, y0, y1, y2, y3, y4, y5]) rfl hfin.out
end Go.Proofs.Ytddghhddafeojaa
