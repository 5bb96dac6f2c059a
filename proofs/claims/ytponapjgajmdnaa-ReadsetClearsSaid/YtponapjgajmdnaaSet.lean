/- The contracts of package readset and of the reference's sets. -/
import Derived.Test.YtponapjgajmdnaaKit
namespace Go.Proofs.Ytponapjgajmdnaa
open Go.RowKit
set_option linter.unusedVariables false

/-! ## The plain sets -/
def clamp32 (c : Int) : Nat := (max 0 (min c 32)).toNat
def addOk (cap : Nat) (xs : List Int) (v : Int) : Bool := decide (v ∈ xs) || decide (xs.length < cap)
def addL (cap : Nat) (xs : List Int) (v : Int) : List Int := if v ∈ xs then xs else if xs.length < cap then xs ++ [v] else xs
theorem addL_le (cap : Nat) (xs : List Int) (v : Int) (h : xs.length ≤ cap) : (addL cap xs v).length ≤ cap := by
  unfold addL
  split
  · exact h
  · split
    · simp; omega
    · exact h
theorem addL_mem {cap : Nat} {xs : List Int} {v : Int} (h : v ∈ xs) : addL cap xs v = xs := by simp [addL, h]
theorem addL_room {cap : Nat} {xs : List Int} {v : Int} (h : v ∉ xs) (hr : xs.length < cap) : addL cap xs v = xs ++ [v] := by simp [addL, h, hr]
theorem addL_full {cap : Nat} {xs : List Int} {v : Int} (h : v ∉ xs) (hr : ¬ xs.length < cap) : addL cap xs v = xs := by simp [addL, h, hr]

/-! ## The program's set: a block of two cells, and a row -/
structure SetAt (T : TypeId) (w : World) (fp : List Nat) (g : Nat) (cap : Nat) (xs : List Int) : Prop where
  ex : ∃ A c, Blk w g T #[.int .i64 cap, .slice A xs.length c] ∧ w.ownsRow 0 3 1 (.slice A xs.length c) xs.length (xs.map (Value.int .i64)) ∧ fp = g :: fpV (.slice A xs.length c)

section
variable {T : TypeId} {w w' : World} {fp S : List Nat} {g cap : Nat} {xs : List Int}
theorem SetAt.chg (h : SetAt T w fp g cap xs) (hc : Chg S w w') (hd : ∀ b ∈ fp, b ∉ S) : SetAt T w' fp g cap xs := by
  obtain ⟨A, c, hb, hr, rfl⟩ := h.ex
  exact ⟨A, c, hb.chg hc (hd g (by simp)), row_chg hr hc (fun k hk => hd k (by simp [hk])), rfl⟩
theorem SetAt.lt (h : SetAt T w fp g cap xs) : ∀ b ∈ fp, b < w.heap.size := by
  obtain ⟨A, c, hb, hr, rfl⟩ := h.ex
  intro b hb'
  rcases List.mem_cons.1 hb' with rfl | h
  · exact hb.lt
  · exact row_lt hr b h
theorem SetAt.drewN (h : SetAt T w fp g cap xs) (n : Nat) : SetAt T (w.drewN n) fp g cap xs := ⟨h.ex⟩
end

theorem set_new (w : World) (c : Int) :
    Calls Try.prog 16 #[.int .i64 c] w fun e w' => e = .returned (.pointer (some ⟨w.heap.size, 0, none⟩)) ∧ w.alloc (.cells #[.int .i64 (clamp32 c), .slice none 0 0] 68) = w' := by
  by_cases h1 : 32 < c
  · have hm : ((clamp32 c : Nat) : Int) = 32 := by unfold clamp32; omega
    rw [hm]
    clear hm
    go_enter Try.func16, Try.ntmps16
    go_wp2
    go_ret
    exact ⟨rfl, rfl⟩
  · by_cases h2 : 0 < c
    · have hm : ((clamp32 c : Nat) : Int) = c := by unfold clamp32; omega
      rw [hm]
      clear hm
      go_enter Try.func16, Try.ntmps16
      go_wp2
      go_ret
      exact ⟨rfl, rfl⟩
    · have hm : ((clamp32 c : Nat) : Int) = 0 := by unfold clamp32; omega
      rw [hm]
      clear hm
      go_enter Try.func16, Try.ntmps16
      go_wp2
      go_ret
      exact ⟨rfl, rfl⟩
theorem set_make (w : World) (c : Int) :
    Calls Try.prog 16 #[.int .i64 c] w fun e w' => ∃ g, e = .returned (.pointer (some ⟨g, 0, none⟩)) ∧ SetAt 68 w' [g] g (clamp32 c) [] ∧ Chg [] w w' ∧ w.heap.size ≤ g :=
  (set_new w c).mono fun e w' ⟨he, hw⟩ => ⟨_, he, hw ▸ ⟨none, 0, Blk.new _ _ _, World.ownsRow_nil _ _ _ _, rfl⟩, hw ▸ (Chg.refl _ _).alloc _, Nat.le_refl _⟩
theorem rset_new (w : World) (c : Int) :
    Calls Try.prog 17 #[.int .i64 c] w fun e w' => e = .returned (.pointer (some ⟨w.heap.size, 0, none⟩)) ∧ w.alloc (.cells #[.int .i64 (clamp32 c), .slice none 0 0] 32) = w' := by
  by_cases h1 : 32 < c
  · have hm : ((clamp32 c : Nat) : Int) = 32 := by unfold clamp32; omega
    rw [hm]
    clear hm
    go_enter Try.func17, Try.ntmps17
    go_wp2
    go_ret
    exact ⟨rfl, rfl⟩
  · by_cases h2 : 0 < c
    · have hm : ((clamp32 c : Nat) : Int) = c := by unfold clamp32; omega
      rw [hm]
      clear hm
      go_enter Try.func17, Try.ntmps17
      go_wp2
      go_ret
      exact ⟨rfl, rfl⟩
    · have hm : ((clamp32 c : Nat) : Int) = 0 := by unfold clamp32; omega
      rw [hm]
      clear hm
      go_enter Try.func17, Try.ntmps17
      go_wp2
      go_ret
      exact ⟨rfl, rfl⟩
theorem rset_make (w : World) (c : Int) :
    Calls Try.prog 17 #[.int .i64 c] w fun e w' => ∃ g, e = .returned (.pointer (some ⟨g, 0, none⟩)) ∧ SetAt 32 w' [g] g (clamp32 c) [] ∧ Chg [] w w' ∧ w.heap.size ≤ g :=
  (rset_new w c).mono fun e w' ⟨he, hw⟩ => ⟨_, he, hw ▸ ⟨none, 0, Blk.new _ _ _, World.ownsRow_nil _ _ _ _, rfl⟩, hw ▸ (Chg.refl _ _).alloc _, Nat.le_refl _⟩

theorem set_has (w : World) (fp : List Nat) (g cap : Nat) (xs : List Int) (v : Int) (h : SetAt 68 w fp g cap xs) (hl : xs.length ≤ 1000000) :
    Calls Try.prog 24 #[.pointer (some ⟨g, 0, none⟩), .int .i64 v] w fun e w' => e = .returned (.bool (decide (v ∈ xs))) ∧ w = w' := by
  obtain ⟨A, c, hb, hr, rfl⟩ := h.ex
  have c1 : w.cell? ⟨g, 1, none⟩ = some (.slice A xs.length c) := hb.some_ rfl
  have hR := row_reads hr
  clear hb hr h
  go_enter Try.func24, Try.ntmps24
  go_wp2_with (go_at_call 49; refine (contains_any _ _ _ _ _ _ _ hR (by omega)).mono ?_; rintro e w' ⟨rfl, rfl⟩)
  go_ret
  exact ⟨rfl, rfl⟩
theorem set_has_nil (w : World) (v : Int) :
    Calls Try.prog 24 #[.pointer none, .int .i64 v] w fun e w' => e = .returned (.bool false) ∧ w = w' := by
  go_enter Try.func24, Try.ntmps24
  go_wp2
  go_ret
  exact ⟨rfl, rfl⟩
theorem set_len (w : World) (fp : List Nat) (g cap : Nat) (xs : List Int) (h : SetAt 68 w fp g cap xs) :
    Calls Try.prog 21 #[.pointer (some ⟨g, 0, none⟩)] w fun e w' => e = .returned (.int .i64 xs.length) ∧ w = w' := by
  obtain ⟨A, c, hb, hr, rfl⟩ := h.ex
  have c1 : w.cell? ⟨g, 1, none⟩ = some (.slice A xs.length c) := hb.some_ rfl
  clear hb hr h
  go_enter Try.func21, Try.ntmps21
  go_wp2
  go_ret
  exact ⟨rfl, rfl⟩
theorem set_len_nil (w : World) :
    Calls Try.prog 21 #[.pointer none] w fun e w' => e = .returned (.int .i64 0) ∧ w = w' := by
  go_enter Try.func21, Try.ntmps21
  go_wp2
  go_ret
  exact ⟨rfl, rfl⟩
theorem set_list (w : World) (fp : List Nat) (g cap : Nat) (xs : List Int) (h : SetAt 68 w fp g cap xs) (hl : xs.length ≤ 1000000) :
    Calls Try.prog 23 #[.pointer (some ⟨g, 0, none⟩)] w fun e w' => ∃ A' c', e = .returned (.slice A' xs.length c') ∧ w'.ownsRow w.heap.size 3 1 (.slice A' xs.length c') xs.length (xs.map (Value.int .i64)) ∧ Chg [] w w' := by
  obtain ⟨A, c, hb, hr, rfl⟩ := h.ex
  have c1 : w.cell? ⟨g, 1, none⟩ = some (.slice A xs.length c) := hb.some_ rfl
  have hR := row_reads hr
  clear hb hr h
  go_enter Try.func23, Try.ntmps23
  go_wp2_with fail
  refine (clone_int _ _ _ _ _ _ hR hl).mono ?_
  rintro e w1 ⟨A', c', rfl, ho, hc⟩
  go_wp2
  go_ret
  exact ⟨A', c', rfl, ho, hc⟩
theorem set_list_nil (w : World) :
    Calls Try.prog 23 #[.pointer none] w fun e w' => e = .returned (.slice none 0 0) ∧ w = w' := by
  go_enter Try.func23, Try.ntmps23
  go_wp2
  go_ret
  exact ⟨rfl, rfl⟩
theorem set_clear (w : World) (fp : List Nat) (g cap : Nat) (xs : List Int) (h : SetAt 68 w fp g cap xs) :
    Calls Try.prog 26 #[.pointer (some ⟨g, 0, none⟩)] w fun e w' => e = .returned (.tuple #[]) ∧ SetAt 68 w' [g] g cap [] ∧ Chg [g] w w' := by
  obtain ⟨A, c, hb, hr, rfl⟩ := h.ex
  have c1 : w.cell? ⟨g, 1, none⟩ = some (.slice A xs.length c) := hb.some_ rfl
  have f1 := hb.frozen 1
  go_enter Try.func26, Try.ntmps26
  go_wp2
  go_end0
  exact ⟨rfl, ⟨none, 0, hb.set_ 1 _, World.ownsRow_nil _ _ _ _, rfl⟩, (Chg.refl _ _).setCell (by simp) _⟩
theorem set_clear_nil (w : World) :
    Calls Try.prog 26 #[.pointer none] w fun e w' => e = .returned (.tuple #[]) ∧ w = w' := by
  go_enter Try.func26, Try.ntmps26
  go_wp2
  go_end0
  exact ⟨rfl, rfl⟩
theorem set_add_nil (w : World) (v : Int) :
    Calls Try.prog 19 #[.pointer none, .int .i64 v] w fun e w' => e = .returned (.bool false) ∧ w = w' := by
  go_enter Try.func19, Try.ntmps19
  go_wp2
  go_ret
  exact ⟨rfl, rfl⟩

/-- What an addition leaves. -/
def AddPost (T : TypeId) (w : World) (fp : List Nat) (g cap : Nat) (xs : List Int) (v : Int) (e : Ending) (w' : World) : Prop :=
  e = .returned (.bool (addOk cap xs v)) ∧ ∃ fp', SetAt T w' fp' g cap (addL cap xs v) ∧ Chg fp w w' ∧ ∀ b ∈ fp', b ∈ fp ∨ w.heap.size ≤ b

set_option maxHeartbeats 400000 in
theorem set_add (w : World) (fp : List Nat) (g cap : Nat) (xs : List Int) (v : Int) (h : SetAt 68 w fp g cap xs) (hl : xs.length ≤ cap) (hcap : cap ≤ 1000000) :
    Calls Try.prog 19 #[.pointer (some ⟨g, 0, none⟩), .int .i64 v] w (AddPost 68 w fp g cap xs v) := by
  have h0 := h
  obtain ⟨A, c, hb, hr, hfp⟩ := h.ex
  have hFp := hid hfp
  clear hfp
  have c0 : w.cell? ⟨g, 0, none⟩ = some (.int .i64 cap) := hb.some_ rfl
  have c1 : w.cell? ⟨g, 1, none⟩ = some (.slice A xs.length c) := hb.some_ rfl
  have f1 := hb.frozen 1
  by_cases hm : v ∈ xs
  · have hd : decide (v ∈ xs) = true := by simp [hm]
    have Hd := hid hd
    have hfin : addOk cap xs v = true := by simp [addOk, hm]
    have Hfin := hid hfin
    have hpost : AddPost 68 w fp g cap xs v (.returned (.bool true)) w := ⟨by rw [hfin], fp, by rw [addL_mem hm]; exact h0, Chg.refl _ _, fun b hb => .inl hb⟩
    have Hp := hid hpost
    clear hd hfin hpost hm
    go_enter Try.func19, Try.ntmps19
    go_wp2_with (go_at_call 24; refine (set_has _ _ _ _ _ _ h0 (by omega)).mono ?_; rintro e w' ⟨rfl, rfl⟩; rw [Hd.out])
    go_ret
    exact Hp.out
  · have hd : decide (v ∈ xs) = false := by simp [hm]
    have Hd := hid hd
    by_cases hlt : xs.length < cap
    · have hfin : addOk cap xs v = true := by simp [addOk, hlt]
      have hL : addL cap xs v = xs ++ [v] := addL_room hm hlt
      have Hfin := hid hfin
      have HL := hid hL
      have hge : decide (cap ≤ xs.length) = false := by simp; omega
      clear hd hfin hL hm
      obtain ⟨i0, hi, hz0, hz1, hz2⟩ := info_parts info_int
      go_enter Try.func19, Try.ntmps19
      go_wp2_with (go_at_call 24; refine (set_has _ _ _ _ _ _ h0 (by omega)).mono ?_; rintro e w' ⟨rfl, rfl⟩; rw [Hd.out])
      go_quiet (fail)
      have hr' : (w.drewN nq).ownsRow 0 3 1 (.slice A xs.length c) xs.length (xs.map (Value.int .i64)) := hr
      go_wp2_with (at_builtin; refine wpList_append1 rfl _ _ 22 rfl 3 i0 (.int .i64 0) 8 Try.underlying22 hi hz0 hz1 hz2 rfl (.slice A xs.length c) xs.length (xs.map (Value.int .i64)) (.int .i64 v) _ rfl hr' rfl rfl (by omega) (by decide) ?_)
      intro A' c' w1 hown hC0 hfp1
      have hC1 : Chg (fpV (.slice A xs.length c)) w w1 := hC0.of_drewN
      have hB1 : Blk w1 g 68 #[.int .i64 cap, .slice A xs.length c] := hb.chg hC1 (row_blk_ne hr hb (by decide))
      have d1 : w1.cell? ⟨g, 1, none⟩ = some (.slice A xs.length c) := hB1.some_ rfl
      have e1 := hB1.frozen 1
      have hL2 : (addL cap xs v).length = xs.length + 1 := by rw [HL.out]; simp
      have hne : g ∉ fpV (.slice A' (xs.length + 1) c') := row_blk_ne hown hB1 (by decide)
      have hpost : AddPost 68 w fp g cap xs v (.returned (.bool true)) (w1.setCell ⟨g, 1, none⟩ (.slice A' (xs.length + 1) c')) := by
        refine ⟨by rw [Hfin.out], g :: fpV (.slice A' (xs.length + 1) c'), ⟨A', c', ?_, ?_, ?_⟩, ?_, ?_⟩
        · rw [hL2]; exact hB1.set_ 1 _
        · rw [hL2, HL.out, List.map_append]; exact row_chg hown ((Chg.refl [g] w1).setCell (.inl (by simp)) _) (fun k hk => by simp; rintro rfl; exact hne hk)
        · rw [hL2]
        · exact (hC1.mono (fun k hk => .inl (by rw [hFp.out]; simp [hk]))).setCell (.inl (by rw [hFp.out]; simp)) _
        · intro k hk
          rw [hFp.out]
          rcases List.mem_cons.1 hk with rfl | hk
          · simp
          · rcases hfp1 k hk with h1 | h1
            · simp [h1]
            · exact .inr h1
      have Hp := hid hpost
      clear hL2 hpost
      go_wp2
      go_ret
      exact Hp.out
    · have hge : decide (cap ≤ xs.length) = true := by simp; omega
      have hfin : addOk cap xs v = false := by simp [addOk, hlt, hm]
      have hpost : ∀ q, AddPost 68 w fp g cap xs v (.returned (.bool false)) (w.drewN q) := fun q => ⟨by rw [hfin], fp, by rw [addL_full hm hlt]; exact h0.drewN q, (Chg.refl _ _).drewN q, fun b hb => .inl hb⟩
      have Hp := hid hpost
      clear hd hfin hpost hm
      go_enter Try.func19, Try.ntmps19
      go_wp2_with (go_at_call 24; refine (set_has _ _ _ _ _ _ h0 (by omega)).mono ?_; rintro e w' ⟨rfl, rfl⟩; rw [Hd.out])
      go_quiet (fail)
      go_wp2
      go_ret
      exact Hp.out _
set_option maxHeartbeats 400000 in
theorem rset_add (w : World) (fp : List Nat) (g cap : Nat) (xs : List Int) (v : Int) (h : SetAt 32 w fp g cap xs) (hl : xs.length ≤ cap) (hcap : cap ≤ 1000000) :
    Calls Try.prog 20 #[.pointer (some ⟨g, 0, none⟩), .int .i64 v] w (AddPost 32 w fp g cap xs v) := by
  have h0 := h
  obtain ⟨A, c, hb, hr, hfp⟩ := h.ex
  have hFp := hid hfp
  clear hfp
  have c0 : w.cell? ⟨g, 0, none⟩ = some (.int .i64 cap) := hb.some_ rfl
  have c1 : w.cell? ⟨g, 1, none⟩ = some (.slice A xs.length c) := hb.some_ rfl
  have f1 := hb.frozen 1
  have hR := row_reads hr
  by_cases hm : v ∈ xs
  · have hd : decide (v ∈ xs) = true := by simp [hm]
    have Hd := hid hd
    have hfin : addOk cap xs v = true := by simp [addOk, hm]
    have Hfin := hid hfin
    have hpost : AddPost 32 w fp g cap xs v (.returned (.bool true)) w := ⟨by rw [hfin], fp, by rw [addL_mem hm]; exact h0, Chg.refl _ _, fun b hb => .inl hb⟩
    have Hp := hid hpost
    clear hd hfin hpost hm
    go_enter Try.func20, Try.ntmps20
    go_wp2_with (go_at_call 25; refine (in_any _ _ _ _ _ _ _ hR (by omega)).mono ?_; rintro e w' ⟨rfl, rfl⟩; rw [Hd.out])
    go_ret
    exact Hp.out
  · have hd : decide (v ∈ xs) = false := by simp [hm]
    have Hd := hid hd
    by_cases hlt : xs.length < cap
    · have hfin : addOk cap xs v = true := by simp [addOk, hlt]
      have hL : addL cap xs v = xs ++ [v] := addL_room hm hlt
      have Hfin := hid hfin
      have HL := hid hL
      have hge : (xs.length == cap) = false := by simp; omega
      clear hd hfin hL hm
      obtain ⟨i0, hi, hz0, hz1, hz2⟩ := info_parts info_int
      go_enter Try.func20, Try.ntmps20
      go_wp2_with (go_at_call 25; refine (in_any _ _ _ _ _ _ _ hR (by omega)).mono ?_; rintro e w' ⟨rfl, rfl⟩; rw [Hd.out])
      go_quiet (fail)
      have hr' : (w.drewN nq).ownsRow 0 3 1 (.slice A xs.length c) xs.length (xs.map (Value.int .i64)) := hr
      go_wp2_with (at_builtin; refine wpList_append1 rfl _ _ 22 rfl 3 i0 (.int .i64 0) 8 Try.underlying22 hi hz0 hz1 hz2 rfl (.slice A xs.length c) xs.length (xs.map (Value.int .i64)) (.int .i64 v) _ rfl hr' rfl rfl (by omega) (by decide) ?_)
      intro A' c' w1 hown hC0 hfp1
      have hC1 : Chg (fpV (.slice A xs.length c)) w w1 := hC0.of_drewN
      have hB1 : Blk w1 g 32 #[.int .i64 cap, .slice A xs.length c] := hb.chg hC1 (row_blk_ne hr hb (by decide))
      have d1 : w1.cell? ⟨g, 1, none⟩ = some (.slice A xs.length c) := hB1.some_ rfl
      have e1 := hB1.frozen 1
      have hL2 : (addL cap xs v).length = xs.length + 1 := by rw [HL.out]; simp
      have hne : g ∉ fpV (.slice A' (xs.length + 1) c') := row_blk_ne hown hB1 (by decide)
      have hpost : AddPost 32 w fp g cap xs v (.returned (.bool true)) (w1.setCell ⟨g, 1, none⟩ (.slice A' (xs.length + 1) c')) := by
        refine ⟨by rw [Hfin.out], g :: fpV (.slice A' (xs.length + 1) c'), ⟨A', c', ?_, ?_, ?_⟩, ?_, ?_⟩
        · rw [hL2]; exact hB1.set_ 1 _
        · rw [hL2, HL.out, List.map_append]; exact row_chg hown ((Chg.refl [g] w1).setCell (.inl (by simp)) _) (fun k hk => by simp; rintro rfl; exact hne hk)
        · rw [hL2]
        · exact (hC1.mono (fun k hk => .inl (by rw [hFp.out]; simp [hk]))).setCell (.inl (by rw [hFp.out]; simp)) _
        · intro k hk
          rw [hFp.out]
          rcases List.mem_cons.1 hk with rfl | hk
          · simp
          · rcases hfp1 k hk with h1 | h1
            · simp [h1]
            · exact .inr h1
      have Hp := hid hpost
      clear hL2 hpost
      go_wp2
      go_ret
      exact Hp.out
    · have hge : (xs.length == cap) = true := by simp; omega
      have hfin : addOk cap xs v = false := by simp [addOk, hlt, hm]
      have hpost : ∀ q, AddPost 32 w fp g cap xs v (.returned (.bool false)) (w.drewN q) := fun q => ⟨by rw [hfin], fp, by rw [addL_full hm hlt]; exact h0.drewN q, (Chg.refl _ _).drewN q, fun b hb => .inl hb⟩
      have Hp := hid hpost
      clear hd hfin hpost hm
      go_enter Try.func20, Try.ntmps20
      go_wp2_with (go_at_call 25; refine (in_any _ _ _ _ _ _ _ hR (by omega)).mono ?_; rintro e w' ⟨rfl, rfl⟩; rw [Hd.out])
      go_quiet (fail)
      go_wp2
      go_ret
      exact Hp.out _
end Go.Proofs.Ytponapjgajmdnaa
