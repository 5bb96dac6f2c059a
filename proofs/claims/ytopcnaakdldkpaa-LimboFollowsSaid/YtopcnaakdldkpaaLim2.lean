/- limbo: Blocks, Versions. -/
import Derived.Test.YtopcnaakdldkpaaLim
namespace Go.Proofs.Ytopcnaakdldkpaa
open Go.RowKit
set_option linter.unusedVariables false

theorem add_of_add2 (a : Addr) (n j : Nat) : a.add (n + (j + 1)) = ⟨(a.add n).block, (a.add n).off + (j + 1), none⟩ := by
  unfold Addr.add
  by_cases hn : n = 0 <;> simp [hn, Nat.add_assoc]
theorem ents_at : ∀ (es : List (Int × Int)) (k : Nat) (e : Int × Int), es[k]? = some e → (ents es)[k * 2]? = some (.int .i64 e.1) ∧ (ents es)[k * 2 + 1]? = some (.int .i64 e.2)
  | [], k, e, h => by simp at h
  | x :: es, 0, e, h => by
    simp at h
    subst h
    exact ⟨rfl, rfl⟩
  | x :: es, k + 1, e, h => by
    have h' := ents_at es k e (by simpa using h)
    have e1 : ents (x :: es) = [.int .i64 x.1, .int .i64 x.2] ++ ents es := rfl
    rw [e1, List.getElem?_append_right (by simp; omega), List.getElem?_append_right (by simp; omega)]
    have e2 : (k + 1) * 2 - 2 = k * 2 := by omega
    have e3 : (k + 1) * 2 + 1 - 2 = k * 2 + 1 := by omega
    simp only [List.length_cons, List.length_nil]
    rw [show (k + 1) * 2 - (0 + 1 + 1) = k * 2 by omega, show (k + 1) * 2 + 1 - (0 + 1 + 1) = k * 2 + 1 by omega]
    exact h'
theorem Reads.ent {w : World} {b n : Nat} {A : Option Addr} {es : List (Int × Int)} (h : Reads w b A (n * 2) (ents es)) {k : Nat} {e : Int × Int} (hk : es[k]? = some e) (hn : k < n) :
    ∃ ad, A = some ad ∧ w.cell? (ad.add (k * 2)) = some (.int .i64 e.1) ∧ w.cell? ⟨(ad.add (k * 2)).block, (ad.add (k * 2)).off + 1, none⟩ = some (.int .i64 e.2) := by
  obtain ⟨h1, h2⟩ := ents_at es k e hk
  obtain ⟨ad, u, hA, _, _, h3, h4⟩ := h.at_ (k * 2) (by omega)
  obtain ⟨ad2, u2, hA2, _, _, h5, h6⟩ := h.at_ (k * 2 + 1) (by omega)
  rw [hA] at hA2
  obtain rfl := Option.some.inj hA2
  rw [h1] at h3
  rw [h2] at h5
  obtain rfl := Option.some.inj h3
  obtain rfl := Option.some.inj h5
  refine ⟨ad, hA, h4, ?_⟩
  have h7 := add_of_add2 ad (k * 2) 0
  rw [Nat.zero_add] at h7
  rw [← h7]; exact h6
theorem info_int18 : (Try.prog.info? 3).map (fun i => (i.zero, i.size, i.bytes)) = some (some (.int .i64 0), 1, 8) := by kernel_rfl
theorem lim_Blocks1 (w0 w : World) (R : Asr) (x v : Int) (h : Hold w0 w R) : Calls Try.prog 44 #[.agg #[.int .i64 x, .int .i64 v]] w fun e w' => e = .returned (.int .i64 x) ∧ Hold w0 w' R := by
  have H := hid (h.alloc (.cells #[.int .i64 x, .int .i64 v] 85))
  clear h
  go_enter Try.func44, Try.ntmps44
  go_wp2_with fail
  go_ret
  exact ⟨rfl, H.out⟩
set_option maxRecDepth 8000 in
set_option maxHeartbeats 4000000 in
theorem lim_listBlocks (w0 w : World) (R : Asr) (g : Nat) (es : List (Int × Int)) (h : Hold w0 w (limA g es * R)) (he : es.length ≤ 2000) :
    Calls Try.prog 43 #[.pointer (some ⟨g, 0, none⟩), .func (.func 44) #[] #[]] w fun e w' => ∃ A c, e = .returned (.slice A es.length c) ∧ Hold w0 w' (rowS 3 1 (.slice A es.length c) es.length (es.map fun e => .int .i64 e.1) * (limA g es * R)) := by
  obtain ⟨iI, hiI, hz0, hz1, hz2⟩ := parts5L info_int18
  obtain ⟨n, hn⟩ : ∃ n, n = es.length := ⟨_, rfl⟩
  obtain ⟨A, c, h⟩ := limOpen h
  rw [← hn] at h he ⊢
  have HN := hid hn
  clear hn
  have q13 := h.blk.some_ (i := 13) rfl
  have hcl : ∀ (w' : World) (q : Asr), Hold w0 w' (blkA 82 g (liC (.slice A n c)) * (rowS 85 2 (.slice A n c) n (ents es) * q)) → Hold w0 w' (limA g es * q) := fun w' q h => limClose (v := .slice A n c) (by rw [← HN.out]; exact h)
  have HCL := hid hcl
  have h0 := (h.nilRowS 3 1)
  clear hcl
  go_enter Try.func43, Try.ntmps43
  go_wp2_with fail
  go_loopw [5, 15] (fun v5 i wr => ∃ (k : Nat) (A2 : Option Addr) (c2 : Nat), k ≤ n ∧ i = .int .i64 (k : Int) ∧ v5 = .slice A2 k c2 ∧ Hold w0 wr (rowS 3 1 (.slice A2 k c2) k ((es.take k).map fun e => .int .i64 e.1) * (blkA 82 g (liC (.slice A n c)) * (rowS 85 2 (.slice A n c) n (ents es) * R)))) (fun _ i _ => n - (intOf i).toNat)
  case atStart => exact ⟨0, none, 0, Nat.zero_le _, rfl, rfl, h0⟩
  case round =>
    clear h0 h q13
    obtain ⟨k, A2, c2, hk, rfl, rfl, h⟩ := hrel
    by_cases hlt : k < n
    · have e1 : decide ((k : Int) < (n : Int)) = true := decide_eq_true (by omega)
      have e1' : decide (k < n) = true := decide_eq_true hlt
      have hkl : k < es.length := by rw [← HN.out]; exact hlt
      obtain ⟨x, hx⟩ : ∃ x, x = es[k] := ⟨_, rfl⟩
      have hxk : es[k]? = some x := by rw [hx]; exact List.getElem?_eq_getElem hkl
      have ht : es.take (k + 1) = es.take k ++ [x] := by rw [hx]; exact (List.take_append_getElem hkl).symm
      obtain ⟨b, hr⟩ := h.drop.drop.rowSReads
      obtain ⟨ad, hA, d0, d1⟩ := hr.ent hxk hlt
      have HT := hid ht
      have k0 : (0 : Int) ≤ (k : Int) := by omega
      have k1 : (k : Int) < (n : Int) := by omega
      obtain ⟨x1, x2⟩ := x
      simp only at d0 d1
      subst hA
      clear hr ht hx hxk
      have h1 := h.newBlk (t := 85) (cs := #[.int .i64 x1, .int .i64 x2])
      have H1 := hid h1
      have HC := hid (lim_Blocks1 w0 _ _ x1 x2 h1)
      clear h h1
      go_wp2_with fail
      refine HC.out.mono ?_
      rintro e w2 ⟨rfl, h2⟩
      clear HC H1
      have h3 := h2.drop
      clear h2 d0 d1
      go_wp2_with (at_builtin; refine wpList_app rfl _ _ 39 rfl 3 iI (.int .i64 0) 1 8 Try.underlying39 hiI hz0 hz1 hz2 rfl (by decide) (.slice A2 k c2) k _ [.int .i64 x1] _ rfl h3 _ rfl rfl rfl rfl (by omega) (by decide) ?_)
      intro A3 c3 w3 h4
      have H4 := hid h4
      clear h3 h4
      go_wp2_with fail
      go_roundw
      case rel =>
        refine ⟨k + 1, A3, c3, by omega, by go_num, by go_num, ?_⟩
        rw [HT.out, List.map_append, List.map_take]
        exact H4.out
      case measure => simp [intOf]; omega
    · obtain rfl : k = n := by omega
      have e1 : decide ((k : Int) < (k : Int)) = false := decide_eq_false (by omega)
      rw [List.take_of_length_le (by rw [← HN.out]; exact Nat.le_refl _)] at h
      have H2 := hid ((HCL.out _ _ (h.pk3 [1, 2, 0])).swap)
      clear h
      go_wp2_with fail
      go_ret
      exact ⟨_, _, rfl, H2.out⟩
theorem lim_Versions1 (w0 w : World) (R : Asr) (x v : Int) (h : Hold w0 w R) : Calls Try.prog 45 #[.agg #[.int .i64 x, .int .i64 v]] w fun e w' => e = .returned (.int .i64 v) ∧ Hold w0 w' R := by
  have H := hid (h.alloc (.cells #[.int .i64 x, .int .i64 v] 85))
  clear h
  go_enter Try.func45, Try.ntmps45
  go_wp2_with fail
  go_ret
  exact ⟨rfl, H.out⟩
set_option maxRecDepth 8000 in
set_option maxHeartbeats 4000000 in
theorem lim_listVersions (w0 w : World) (R : Asr) (g : Nat) (es : List (Int × Int)) (h : Hold w0 w (limA g es * R)) (he : es.length ≤ 2000) :
    Calls Try.prog 43 #[.pointer (some ⟨g, 0, none⟩), .func (.func 45) #[] #[]] w fun e w' => ∃ A c, e = .returned (.slice A es.length c) ∧ Hold w0 w' (rowS 3 1 (.slice A es.length c) es.length (es.map fun e => .int .i64 e.2) * (limA g es * R)) := by
  obtain ⟨iI, hiI, hz0, hz1, hz2⟩ := parts5L info_int18
  obtain ⟨n, hn⟩ : ∃ n, n = es.length := ⟨_, rfl⟩
  obtain ⟨A, c, h⟩ := limOpen h
  rw [← hn] at h he ⊢
  have HN := hid hn
  clear hn
  have q13 := h.blk.some_ (i := 13) rfl
  have hcl : ∀ (w' : World) (q : Asr), Hold w0 w' (blkA 82 g (liC (.slice A n c)) * (rowS 85 2 (.slice A n c) n (ents es) * q)) → Hold w0 w' (limA g es * q) := fun w' q h => limClose (v := .slice A n c) (by rw [← HN.out]; exact h)
  have HCL := hid hcl
  have h0 := (h.nilRowS 3 1)
  clear hcl
  go_enter Try.func43, Try.ntmps43
  go_wp2_with fail
  go_loopw [5, 15] (fun v5 i wr => ∃ (k : Nat) (A2 : Option Addr) (c2 : Nat), k ≤ n ∧ i = .int .i64 (k : Int) ∧ v5 = .slice A2 k c2 ∧ Hold w0 wr (rowS 3 1 (.slice A2 k c2) k ((es.take k).map fun e => .int .i64 e.2) * (blkA 82 g (liC (.slice A n c)) * (rowS 85 2 (.slice A n c) n (ents es) * R)))) (fun _ i _ => n - (intOf i).toNat)
  case atStart => exact ⟨0, none, 0, Nat.zero_le _, rfl, rfl, h0⟩
  case round =>
    clear h0 h q13
    obtain ⟨k, A2, c2, hk, rfl, rfl, h⟩ := hrel
    by_cases hlt : k < n
    · have e1 : decide ((k : Int) < (n : Int)) = true := decide_eq_true (by omega)
      have e1' : decide (k < n) = true := decide_eq_true hlt
      have hkl : k < es.length := by rw [← HN.out]; exact hlt
      obtain ⟨x, hx⟩ : ∃ x, x = es[k] := ⟨_, rfl⟩
      have hxk : es[k]? = some x := by rw [hx]; exact List.getElem?_eq_getElem hkl
      have ht : es.take (k + 1) = es.take k ++ [x] := by rw [hx]; exact (List.take_append_getElem hkl).symm
      obtain ⟨b, hr⟩ := h.drop.drop.rowSReads
      obtain ⟨ad, hA, d0, d1⟩ := hr.ent hxk hlt
      have HT := hid ht
      have k0 : (0 : Int) ≤ (k : Int) := by omega
      have k1 : (k : Int) < (n : Int) := by omega
      obtain ⟨x1, x2⟩ := x
      simp only at d0 d1
      subst hA
      clear hr ht hx hxk
      have h1 := h.newBlk (t := 85) (cs := #[.int .i64 x1, .int .i64 x2])
      have H1 := hid h1
      have HC := hid (lim_Versions1 w0 _ _ x1 x2 h1)
      clear h h1
      go_wp2_with fail
      refine HC.out.mono ?_
      rintro e w2 ⟨rfl, h2⟩
      clear HC H1
      have h3 := h2.drop
      clear h2 d0 d1
      go_wp2_with (at_builtin; refine wpList_app rfl _ _ 39 rfl 3 iI (.int .i64 0) 1 8 Try.underlying39 hiI hz0 hz1 hz2 rfl (by decide) (.slice A2 k c2) k _ [.int .i64 x2] _ rfl h3 _ rfl rfl rfl rfl (by omega) (by decide) ?_)
      intro A3 c3 w3 h4
      have H4 := hid h4
      clear h3 h4
      go_wp2_with fail
      go_roundw
      case rel =>
        refine ⟨k + 1, A3, c3, by omega, by go_num, by go_num, ?_⟩
        rw [HT.out, List.map_append, List.map_take]
        exact H4.out
      case measure => simp [intOf]; omega
    · obtain rfl : k = n := by omega
      have e1 : decide ((k : Int) < (k : Int)) = false := decide_eq_false (by omega)
      rw [List.take_of_length_le (by rw [← HN.out]; exact Nat.le_refl _)] at h
      have H2 := hid ((HCL.out _ _ (h.pk3 [1, 2, 0])).swap)
      clear h
      go_wp2_with fail
      go_ret
      exact ⟨_, _, rfl, H2.out⟩
theorem lim_Blocks (w0 w : World) (R : Asr) (g : Nat) (es : List (Int × Int)) (h : Hold w0 w (limA g es * R)) (he : es.length ≤ 2000) :
    Calls Try.prog 25 #[.pointer (some ⟨g, 0, none⟩)] w fun e w' => ∃ A c, e = .returned (.slice A es.length c) ∧ Hold w0 w' (rowS 3 1 (.slice A es.length c) es.length (es.map fun e => .int .i64 e.1) * (limA g es * R)) := by
  have HC := hid (lim_listBlocks w0 w R g es h he)
  clear h
  go_enter Try.func25, Try.ntmps25
  go_wp2_with fail
  refine HC.out.mono ?_
  rintro e w1 ⟨A, c, rfl, h1⟩
  clear HC
  have H1 := hid h1
  clear h1
  go_wp2_with fail
  go_ret
  exact ⟨_, _, rfl, H1.out⟩
theorem lim_Versions (w0 w : World) (R : Asr) (g : Nat) (es : List (Int × Int)) (h : Hold w0 w (limA g es * R)) (he : es.length ≤ 2000) :
    Calls Try.prog 26 #[.pointer (some ⟨g, 0, none⟩)] w fun e w' => ∃ A c, e = .returned (.slice A es.length c) ∧ Hold w0 w' (rowS 3 1 (.slice A es.length c) es.length (es.map fun e => .int .i64 e.2) * (limA g es * R)) := by
  have HC := hid (lim_listVersions w0 w R g es h he)
  clear h
  go_enter Try.func26, Try.ntmps26
  go_wp2_with fail
  refine HC.out.mono ?_
  rintro e w1 ⟨A, c, rfl, h1⟩
  clear HC
  have H1 := hid h1
  clear h1
  go_wp2_with fail
  go_ret
  exact ⟨_, _, rfl, H1.out⟩
end Go.Proofs.Ytopcnaakdldkpaa
