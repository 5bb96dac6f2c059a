/- Lists are appended to bytes by the program. -/
import Derived.Test.YtipafegiobnkpaaWn
namespace Go.Proofs.Ytipafegiobnkpaa
open Go.RowKit
set_option linter.unusedVariables false

def uv (xs : List Nat) : List Value := xs.map fun (x : Nat) => Value.int .u64 (x : Int)
theorem encU_flat_len (l : List Nat) (h : ∀ x ∈ l, x < 18446744073709551616) : (l.flatMap encU).length ≤ 10 * l.length := by
  induction l with
  | nil => simp
  | cons x l ih =>
    have h1 := encU_len10 (h x (by simp))
    have h2 := ih (fun y hy => h y (by simp [hy]))
    rw [List.flatMap_cons, List.length_append, List.length_cons]; omega
theorem flat_snoc {α : Type} (f : α → List Nat) (l : List α) {k : Nat} (hk : k < l.length) : (l.take (k + 1)).flatMap f = (l.take k).flatMap f ++ f l[k] := by
  rw [take_snoc l hk, List.flatMap_append]; simp
set_option maxRecDepth 8000 in
set_option maxHeartbeats 4000000 in
theorem wr_listU (w0 w : World) (R : Asr) (g : Nat) (bs : List Nat) (A : Option Addr) (n c : Nat) (xs : List Nat) (h : Hold w0 w (wrA g bs * R)) (hr : ∀ w' bs', Hold w0 w' (wrA g bs' * R) → ∃ b, Reads w' b A n (uv xs)) (hx : ∀ x ∈ xs, x < 18446744073709551616) (hb : bs.length + 10 + 10 * n ≤ 900000000) :
    Calls Try.prog 18 #[.pointer (some ⟨g, 0, none⟩), .slice A n c, .func (.func 19) #[.pointer (some ⟨g, 0, none⟩)] #[]] w fun e w' => e = .returned (.tuple #[]) ∧ Hold w0 w' (wrA g (bs ++ encL encU xs) * R) := by
  have hl : xs.length = n := by obtain ⟨b, hb⟩ := hr w bs h; simpa [uv] using hb.len
  have HR := hid hr
  have HX := hid hx
  have hn : n < 18446744073709551616 := by omega
  have h10 := encU_len10 hn
  clear hr hx
  go_enter Try.func18, Try.ntmps18
  go_wp2_with fail
  refine (wr_unsigned w0 w R g bs n h hn (by omega)).mono ?_
  rintro e w1 ⟨rfl, h1⟩
  clear h
  go_wp2_with fail
  go_loopw [15] (fun v wr => ∃ k : Nat, k ≤ n ∧ v = .int .i64 (k : Int) ∧ Hold w0 wr (wrA g (bs ++ encU n ++ (xs.take k).flatMap encU) * R)) (fun v _ => n - (intOf v).toNat)
  case atStart => exact ⟨0, Nat.zero_le _, rfl, by simpa using h1⟩
  case round =>
    clear h1
    obtain ⟨k, hk, rfl, h⟩ := hrel
    by_cases hlt : k < n
    · have e1 : decide ((k : Int) < (n : Int)) = true := decide_eq_true (by omega)
      obtain ⟨b, hrd⟩ := HR.out _ _ (by rw [List.append_assoc] at h; exact h)
      obtain ⟨ad, rfl, _, hcell⟩ := hrd.cellAt hlt
      have hkl : k < xs.length := by omega
      obtain ⟨x, hxe⟩ : ∃ x, x = xs[k] := ⟨_, rfl⟩
      replace hcell : wr.cell? (ad.add k) = some (.int .u64 (x : Int)) := by rw [hcell, hxe]; simp [uv]
      have hz : x < 18446744073709551616 := by rw [hxe]; exact HX.out _ (List.getElem_mem hkl)
      have e5 : (xs.take (k + 1)).flatMap encU = (xs.take k).flatMap encU ++ encU x := by rw [flat_snoc encU xs hkl, ← hxe]
      have E5 := hid e5
      have hlen : (bs ++ encU n ++ (xs.take k).flatMap encU).length ≤ 900000000 := by
        have := encU_flat_len (xs.take k) (fun y hy => HX.out y (List.mem_of_mem_take hy))
        rw [List.length_append, List.length_append]
        rw [List.length_take] at this
        omega
      have HH := hid h
      clear hrd hxe e5 h
      go_wp2_with fail
      refine (wr_unsigned w0 wr R g _ x HH.out hz hlen).mono ?_
      rintro e w2 ⟨rfl, h2⟩
      rw [List.append_assoc, ← E5.out] at h2
      clear HH E5
      go_wp2_with fail
      go_roundw
      case rel => exact ⟨k + 1, by omega, by go_num, h2⟩
      case measure => simp [intOf]; omega
    · obtain rfl : k = n := by omega
      have e1 : decide ((k : Int) < (k : Int)) = false := by simp
      rw [List.take_of_length_le (by omega), List.append_assoc] at h
      go_wp2_with fail
      first | go_end0 | go_ret
      exact ⟨rfl, by unfold encL; rw [hl]; exact h⟩
theorem Blk.reads {w : World} {g : Nat} {t : TypeId} {cs : Array Value} (h : Blk w g t cs) {n : Nat} {xs : List Value} (hx : cs.toList = xs) (hn : xs.length = n) : Reads w g (some ⟨g, 0, none⟩) n xs := by
  subst hx hn
  refine ⟨rfl, fun k hk => ⟨_, cs[k]'(by simpa using hk), rfl, rfl, h.lt, by simp, ?_⟩⟩
  rw [Addr.add_lit, h.cell, Nat.zero_add]
  exact Array.getElem?_eq_getElem (by simpa using hk)
theorem encS_flat_len (l : List Int) (h : ∀ x ∈ l, I64 x) : (l.flatMap encS).length ≤ 10 * l.length := encI_len l h
theorem encI5_len {i : List Int} (h : i.length = 5 ∧ ∀ x ∈ i, I64 x) : (encI i).length ≤ 50 := by
  have := encI_len i h.2
  omega
theorem encI_flat_len (l : List (List Int)) (h : ∀ x ∈ l, x.length = 5 ∧ ∀ y ∈ x, I64 y) : (l.flatMap encI).length ≤ 50 * l.length := by
  induction l with
  | nil => simp
  | cons x l ih =>
    have h1 := encI5_len (h x (by simp))
    have h2 := ih (fun y hy => h y (by simp [hy]))
    rw [List.flatMap_cons, List.length_append, List.length_cons]; omega
/-- The captured variable that holds the writer. -/
abbrev wcA (gw g : Nat) : Asr := blkA 47 gw #[.pointer (some ⟨g, 0, none⟩)]
theorem wr_one (w0 w : World) (R : Asr) (g gw : Nat) (bs : List Nat) (x : Int) (h : Hold w0 w (wrA g bs * (wcA gw g * R))) (hx : I64 x) (hb : bs.length + 10 ≤ 900000000) :
    Calls Try.prog 26 #[.int .i64 x, .pointer (some ⟨gw, 0, none⟩)] w fun e w' => e = .returned (.tuple #[]) ∧ Hold w0 w' (wrA g (bs ++ encS x) * (wcA gw g * R)) := by
  have c0 := h.drop.blk.some_ (i := 0) rfl
  have H1 := hid ((h.newBlk (t := 3) (cs := #[.int .i64 x])).pk3 [1, 0, 2])
  clear h
  go_enter Try.func26, Try.ntmps26
  go_wp2_with fail
  refine (wr_signed w0 _ _ g bs _ 1 1 [x] H1.out (fun w' bs' h => ⟨_, h.drop.blk.reads (xs := [.int .i64 x]) rfl rfl⟩) (by intro y hy; simp at hy; subst hy; exact hx) (by omega)).mono ?_
  rintro e w2 ⟨rfl, h2⟩
  clear H1 c0
  have h3 := h2.pk3 [0, 2]
  rw [show encI [x] = encS x by simp [encI]] at h3
  clear h2
  go_wp2_with fail
  first | go_end0 | go_ret
  exact ⟨rfl, h3⟩
set_option maxRecDepth 8000 in
set_option maxHeartbeats 4000000 in
theorem wr_listS (w0 w : World) (R : Asr) (g gw : Nat) (bs : List Nat) (A : Option Addr) (n c : Nat) (xs : List Int) (h : Hold w0 w (wrA g bs * (wcA gw g * R))) (hr : ∀ w' bs', Hold w0 w' (wrA g bs' * (wcA gw g * R)) → ∃ b, Reads w' b A n (xs.map (Value.int .i64))) (hx : ∀ x ∈ xs, I64 x) (hb : bs.length + 20 + 10 * n ≤ 900000000) :
    Calls Try.prog 25 #[.pointer (some ⟨g, 0, none⟩), .slice A n c, .func (.func 26) #[] #[.pointer (some ⟨gw, 0, none⟩)]] w fun e w' => e = .returned (.tuple #[]) ∧ Hold w0 w' (wrA g (bs ++ encL encS xs) * (wcA gw g * R)) := by
  have hl : xs.length = n := by obtain ⟨b, hb⟩ := hr w bs h; simpa using hb.len
  have HR := hid hr
  have HX := hid hx
  have hn : n < 18446744073709551616 := by omega
  have h10 := encU_len10 hn
  clear hr hx
  go_enter Try.func25, Try.ntmps25
  go_wp2_with fail
  refine (wr_unsigned w0 w _ g bs n h hn (by omega)).mono ?_
  rintro e w1 ⟨rfl, h1⟩
  clear h
  go_wp2_with fail
  go_loopw [15] (fun v wr => ∃ k : Nat, k ≤ n ∧ v = .int .i64 (k : Int) ∧ Hold w0 wr (wrA g (bs ++ encU n ++ (xs.take k).flatMap encS) * (wcA gw g * R))) (fun v _ => n - (intOf v).toNat)
  case atStart => exact ⟨0, Nat.zero_le _, rfl, by simpa using h1⟩
  case round =>
    clear h1
    obtain ⟨k, hk, rfl, h⟩ := hrel
    by_cases hlt : k < n
    · have e1 : decide ((k : Int) < (n : Int)) = true := decide_eq_true (by omega)
      obtain ⟨b, hrd⟩ := HR.out _ _ (by rw [List.append_assoc] at h; exact h)
      obtain ⟨ad, rfl, _, hcell⟩ := hrd.numAt hlt
      have hkl : k < xs.length := by omega
      obtain ⟨x, hxe⟩ : ∃ x, x = xs[k] := ⟨_, rfl⟩
      rw [getD_atI hkl, ← hxe] at hcell
      have hz : I64 x := by rw [hxe]; exact HX.out _ (List.getElem_mem hkl)
      have HZ := hid hz
      have e5 : (xs.take (k + 1)).flatMap encS = (xs.take k).flatMap encS ++ encS x := by rw [flat_snoc encS xs hkl, ← hxe]
      have E5 := hid e5
      have hlen : (bs ++ encU n ++ (xs.take k).flatMap encS).length + 10 ≤ 900000000 := by
        have := encS_flat_len (xs.take k) (fun y hy => HX.out y (List.mem_of_mem_take hy))
        rw [List.length_append, List.length_append]
        rw [List.length_take] at this
        omega
      have HH := hid h
      clear hrd hxe e5 h hz
      go_wp2_with fail
      refine (wr_one w0 wr R g gw _ x HH.out HZ.out hlen).mono ?_
      rintro e w2 ⟨rfl, h2⟩
      rw [List.append_assoc, ← E5.out] at h2
      clear HH E5
      go_wp2_with fail
      go_roundw
      case rel => exact ⟨k + 1, by omega, by go_num, h2⟩
      case measure => simp [intOf]; omega
    · obtain rfl : k = n := by omega
      have e1 : decide ((k : Int) < (k : Int)) = false := by simp
      rw [List.take_of_length_le (by omega), List.append_assoc] at h
      go_wp2_with fail
      first | go_end0 | go_ret
      exact ⟨rfl, by unfold encL; rw [hl]; exact h⟩
set_option maxHeartbeats 4000000 in
theorem wr_instr (w0 w : World) (R : Asr) (g gw : Nat) (bs : List Nat) (a b c d e : Int) (h : Hold w0 w (wrA g bs * (wcA gw g * R))) (hx : ∀ x ∈ [a, b, c, d, e], I64 x) (hb : bs.length + 50 ≤ 900000000) :
    Calls Try.prog 23 #[.agg #[.int .i64 a, .int .i64 b, .int .i64 c, .int .i64 d, .int .i64 e], .pointer (some ⟨gw, 0, none⟩)] w fun e' w' => e' = .returned (.tuple #[]) ∧ Hold w0 w' (wrA g (bs ++ encI [a, b, c, d, e]) * (wcA gw g * R)) := by
  have c0 := h.drop.blk.some_ (i := 0) rfl
  have gl : gw < w.heap.size := h.drop.blk.lt
  have gn : gw ≠ w.heap.size := by omega
  have H1 := (h.newBlk (t := 57) (cs := #[.int .i64 a, .int .i64 b, .int .i64 c, .int .i64 d, .int .i64 e])).newBlk (t := 3) (cs := #[.int .i64 a, .int .i64 b, .int .i64 c, .int .i64 d, .int .i64 e])
  simp only [World.size_alloc] at H1
  have H1 := hid (H1.pk4 [2, 0, 3])
  clear h
  go_enter Try.func23, Try.ntmps23
  go_wp2_with fail
  refine (wr_signed w0 _ _ g bs _ 5 5 [a, b, c, d, e] H1.out (fun w' bs' h => ⟨_, h.drop.blk.reads (xs := [.int .i64 a, .int .i64 b, .int .i64 c, .int .i64 d, .int .i64 e]) rfl rfl⟩) hx (by omega)).mono ?_
  rintro e w2 ⟨rfl, h2⟩
  clear H1 c0
  have h3 := h2.pk3 [0, 2]
  clear h2
  go_wp2_with fail
  first | go_end0 | go_ret
  exact ⟨rfl, h3⟩
theorem five {l : List Int} (h : l.length = 5) : ∃ a b c d e, l = [a, b, c, d, e] := by
  match l, h with
  | [a, b, c, d, e], _ => exact ⟨a, b, c, d, e, rfl⟩
theorem flat5_at : ∀ (p : List (List Int)) (k : Nat) (i : List Int) (j : Nat), (∀ x ∈ p, x.length = 5) → p[k]? = some i → j < 5 → (p.flatten)[k * 5 + j]? = i[j]?
  | [], k, i, j, _, hk, _ => by simp at hk
  | x :: p, 0, i, j, h, hk, hj => by
    have hx := h x (by simp)
    simp at hk
    subst hk
    rw [List.flatten_cons, List.getElem?_append_left (by omega)]
    congr 1; omega
  | x :: p, k + 1, i, j, h, hk, hj => by
    have hx := h x (by simp)
    rw [List.flatten_cons, List.getElem?_append_right (by omega), show (k + 1) * 5 + j - x.length = k * 5 + j by omega]
    exact flat5_at p k i j (fun y hy => h y (by simp [hy])) (by simpa using hk) hj
theorem flat5_len : ∀ (p : List (List Int)), (∀ x ∈ p, x.length = 5) → p.flatten.length = p.length * 5
  | [], _ => rfl
  | x :: p, h => by
    have hx := h x (by simp)
    have := flat5_len p (fun y hy => h y (by simp [hy]))
    rw [List.flatten_cons, List.length_append, List.length_cons]; omega
theorem cell_nth5 {w : World} {a : Addr} {n j : Nat} {v : Value} (h : w.cell? (a.add (n + (j + 1))) = some v) : w.cell? ⟨(a.add n).block, (a.add n).off + (j + 1), none⟩ = some v := by
  rw [← add_of_add] at h
  exact h
/-- The cells of the k-th instruction of a slice. -/
theorem Reads.five {w : World} {b n : Nat} {A : Option Addr} {p : List (List Int)} (h : Reads w b A (n * 5) (p.flatten.map (Value.int .i64))) (h5 : ∀ x ∈ p, x.length = 5) {k : Nat} {c0 c1 c2 c3 c4 : Int} (hk : p[k]? = some [c0, c1, c2, c3, c4]) :
    ∃ ad, A = some ad ∧ w.cell? (ad.add (k * 5)) = some (.int .i64 c0) ∧ w.cell? ⟨(ad.add (k * 5)).block, (ad.add (k * 5)).off + 1, none⟩ = some (.int .i64 c1) ∧ w.cell? ⟨(ad.add (k * 5)).block, (ad.add (k * 5)).off + 2, none⟩ = some (.int .i64 c2) ∧
      w.cell? ⟨(ad.add (k * 5)).block, (ad.add (k * 5)).off + 3, none⟩ = some (.int .i64 c3) ∧ w.cell? ⟨(ad.add (k * 5)).block, (ad.add (k * 5)).off + 4, none⟩ = some (.int .i64 c4) := by
  have hl := h.len
  rw [List.length_map, flat5_len p h5] at hl
  have hkl := (List.getElem?_eq_some_iff.1 hk).1
  have hat : ∀ j (v : Int), j < 5 → [c0, c1, c2, c3, c4][j]? = some v → ∃ ad, A = some ad ∧ w.cell? (ad.add (k * 5 + j)) = some (.int .i64 v) := fun j v hj hv => by
    obtain ⟨ad, hA, _, hc⟩ := h.cellAt (k := k * 5 + j) (by omega)
    refine ⟨ad, hA, hc.trans ?_⟩
    have h6 := (flat5_at p k _ j h5 hk hj).trans hv
    obtain ⟨h7, h8⟩ := List.getElem?_eq_some_iff.1 h6
    rw [List.getElem_map, h8]
  obtain ⟨ad, hA, d0⟩ := hat 0 c0 (by omega) rfl
  obtain ⟨ad1, hA1, d1⟩ := hat 1 c1 (by omega) rfl
  obtain ⟨ad2, hA2, d2⟩ := hat 2 c2 (by omega) rfl
  obtain ⟨ad3, hA3, d3⟩ := hat 3 c3 (by omega) rfl
  obtain ⟨ad4, hA4, d4⟩ := hat 4 c4 (by omega) rfl
  rw [hA] at hA1 hA2 hA3 hA4
  obtain rfl := Option.some.inj hA1
  obtain rfl := Option.some.inj hA2
  obtain rfl := Option.some.inj hA3
  obtain rfl := Option.some.inj hA4
  exact ⟨ad, hA, d0, cell_nth5 (j := 0) d1, cell_nth5 (j := 1) d2, cell_nth5 (j := 2) d3, cell_nth5 (j := 3) d4⟩
/-- The value of a slice of instructions, read. -/
def InsR (w : World) (v : Value) (p : List (List Int)) : Prop := ∃ A c b, v = .slice A p.length c ∧ Reads w b A (p.length * 5) (p.flatten.map (Value.int .i64))
def InsOk (p : List (List Int)) : Prop := ∀ i ∈ p, i.length = 5 ∧ ∀ x ∈ i, I64 x
theorem encLI_len {p : List (List Int)} (h : InsOk p) (hl : p.length < 18446744073709551616) : (encL encI p).length ≤ 10 + 50 * p.length := by
  have := encI_flat_len p h
  have := encU_len10 hl
  unfold encL
  rw [List.length_append]; omega
set_option maxRecDepth 8000 in
set_option maxHeartbeats 4000000 in
theorem wr_listI (w0 w : World) (R : Asr) (g gw : Nat) (bs : List Nat) (v : Value) (xs : List (List Int)) (h : Hold w0 w (wrA g bs * (wcA gw g * R))) (hr : ∀ w' bs', Hold w0 w' (wrA g bs' * (wcA gw g * R)) → InsR w' v xs) (hx : InsOk xs) (hb : bs.length + 70 + 50 * xs.length ≤ 900000000) :
    Calls Try.prog 22 #[.pointer (some ⟨g, 0, none⟩), v, .func (.func 23) #[] #[.pointer (some ⟨gw, 0, none⟩)]] w fun e w' => e = .returned (.tuple #[]) ∧ Hold w0 w' (wrA g (bs ++ encL encI xs) * (wcA gw g * R)) := by
  obtain ⟨A, c, b, rfl, _⟩ := hr w bs h
  obtain ⟨n, hl⟩ : ∃ n, n = xs.length := ⟨_, rfl⟩
  rw [← hl] at hb ⊢
  have HR := hid hr
  have HX := hid hx
  have HL := hid hl
  have hn : n < 18446744073709551616 := by omega
  have h10 := encU_len10 hn
  clear hr hx hl
  go_enter Try.func22, Try.ntmps22
  go_wp2_with fail
  refine (wr_unsigned w0 w _ g bs n h hn (by omega)).mono ?_
  rintro e w1 ⟨rfl, h1⟩
  clear h
  go_wp2_with fail
  go_loopw [15] (fun v wr => ∃ k : Nat, k ≤ n ∧ v = .int .i64 (k : Int) ∧ Hold w0 wr (wrA g (bs ++ encU n ++ (xs.take k).flatMap encI) * (wcA gw g * R))) (fun v _ => n - (intOf v).toNat)
  case atStart => exact ⟨0, Nat.zero_le _, rfl, by simpa using h1⟩
  case round =>
    clear h1
    obtain ⟨k, hk, rfl, h⟩ := hrel
    by_cases hlt : k < n
    · have e1 : decide ((k : Int) < (n : Int)) = true := decide_eq_true (by omega)
      obtain ⟨A2, c2, b2, he, hrd⟩ := HR.out _ _ (by rw [List.append_assoc] at h; exact h)
      injection he with he1 he2 he3
      subst he1 he3
      have hkl : k < xs.length := by rw [← HL.out]; omega
      obtain ⟨x0, x1, x2, x3, x4, hxe⟩ := five (HX.out _ (List.getElem_mem hkl)).1
      obtain ⟨ad, rfl, d0, d1, d2, d3, d4⟩ := hrd.five (fun x hx => (HX.out x hx).1) (by rw [List.getElem?_eq_getElem hkl, hxe])
      have hz : ∀ x ∈ [x0, x1, x2, x3, x4], I64 x := by rw [← hxe]; exact (HX.out _ (List.getElem_mem hkl)).2
      have HZ := hid hz
      have e5 : (xs.take (k + 1)).flatMap encI = (xs.take k).flatMap encI ++ encI [x0, x1, x2, x3, x4] := by rw [flat_snoc encI xs hkl, ← hxe]
      have E5 := hid e5
      have hlen : (bs ++ encU n ++ (xs.take k).flatMap encI).length + 50 ≤ 900000000 := by
        have := encI_flat_len (xs.take k) (fun y hy => HX.out y (List.mem_of_mem_take hy))
        rw [List.length_append, List.length_append]
        rw [List.length_take] at this
        omega
      have HH := hid ((h.newBlk (t := 57) (cs := #[.int .i64 x0, .int .i64 x1, .int .i64 x2, .int .i64 x3, .int .i64 x4])).pk3 [1, 2])
      clear hrd hxe e5 h hz he2
      go_wp2_with fail
      refine (wr_instr w0 _ R g gw _ x0 x1 x2 x3 x4 HH.out HZ.out hlen).mono ?_
      rintro e w2 ⟨rfl, h2⟩
      rw [List.append_assoc, ← E5.out] at h2
      clear HH E5
      go_wp2_with fail
      go_roundw
      case rel => exact ⟨k + 1, by omega, by go_num, h2⟩
      case measure => simp [intOf]; omega
    · obtain rfl : k = n := by omega
      have e1 : decide ((k : Int) < (k : Int)) = false := by simp
      rw [List.take_of_length_le (by rw [← HL.out]; omega), List.append_assoc] at h
      go_wp2_with fail
      first | go_end0 | go_ret
      exact ⟨rfl, by unfold encL; rw [← HL.out]; exact h⟩
theorem wr_prog (w0 w : World) (R : Asr) (g gw : Nat) (bs : List Nat) (v : Value) (xs : List (List Int)) (h : Hold w0 w (wrA g bs * (wcA gw g * R))) (hr : ∀ w' bs', Hold w0 w' (wrA g bs' * (wcA gw g * R)) → InsR w' v xs) (hx : InsOk xs) (hb : bs.length + 70 + 50 * xs.length ≤ 900000000) :
    Calls Try.prog 21 #[v, .pointer (some ⟨gw, 0, none⟩)] w fun e w' => e = .returned (.tuple #[]) ∧ Hold w0 w' (wrA g (bs ++ encL encI xs) * (wcA gw g * R)) := by
  have c0 := h.drop.blk.some_ (i := 0) rfl
  go_enter Try.func21, Try.ntmps21
  have hmf : ∀ (fn : Fn) (first cap : Array Value) (w : World), (Instr.makeFunc fn first cap).run Try.prog w = .ok (.func fn first cap) w := fun _ _ _ _ => rfl
  go_wp2_with fail
  refine (wr_listI w0 w R g gw bs v xs h hr hx hb).mono ?_
  rintro e w2 ⟨rfl, h2⟩
  clear h hr c0
  go_wp2_with fail
  first | go_end0 | go_ret
  exact ⟨rfl, h2⟩
end Go.Proofs.Ytipafegiobnkpaa
