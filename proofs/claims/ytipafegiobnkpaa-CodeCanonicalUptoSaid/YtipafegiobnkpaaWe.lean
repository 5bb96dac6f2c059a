/- Encode, of the program. -/
import Derived.Test.YtipafegiobnkpaaWl
import Derived.Lib.SmallJoins
namespace Go.Proofs.Ytipafegiobnkpaa
open Go.RowKit
set_option linter.unusedVariables false

/-- The value of a slice of slices of instructions, read. -/
def PrR (w : World) (A : Option Addr) (n : Nat) (vs : List Value) (ps : List (List (List Int))) : Prop := (∃ b, Reads w b A n vs) ∧ ps.length = n ∧ ∀ (j : Nat) (v : Value) (p : List (List Int)), vs[j]? = some v → ps[j]? = some p → InsR w v p
theorem encLI_flat_len (M : Nat) (l : List (List (List Int))) (h : ∀ p ∈ l, InsOk p) (hm : (l.map List.length).sum ≤ M) (hM : M < 18446744073709551616) : (l.flatMap (encL encI)).length ≤ 10 * l.length + 50 * (l.map List.length).sum := by
  induction l with
  | nil => simp
  | cons x l ih =>
    rw [List.map_cons, List.sum_cons] at hm ⊢
    have h1 := encLI_len (h x (by simp)) (by omega)
    have h2 := ih (fun y hy => h y (by simp [hy])) (by omega)
    rw [List.flatMap_cons, List.length_append, List.length_cons]; omega
theorem sum_take_le (l : List Nat) (k : Nat) : (l.take k).sum ≤ l.sum := by
  have := List.take_append_drop k l
  rw [← this, List.sum_append]
  simp
theorem sum_mem_le {l : List Nat} {x : Nat} (h : x ∈ l) : x ≤ l.sum := by
  induction l with
  | nil => simp at h
  | cons y l ih =>
    rw [List.sum_cons]
    rcases List.mem_cons.1 h with h | h
    · omega
    · have := ih h; omega
set_option maxRecDepth 8000 in
set_option maxHeartbeats 4000000 in
theorem wr_listP (w0 w : World) (R : Asr) (g gw : Nat) (bs : List Nat) (A : Option Addr) (n c M : Nat) (vs : List Value) (xs : List (List (List Int))) (h : Hold w0 w (wrA g bs * (wcA gw g * R))) (hr : ∀ w' bs', Hold w0 w' (wrA g bs' * (wcA gw g * R)) → PrR w' A n vs xs) (hx : ∀ p ∈ xs, InsOk p) (hM : (xs.map List.length).sum ≤ M) (hb : bs.length + 80 + 10 * n + 50 * M ≤ 900000000) :
    Calls Try.prog 20 #[.pointer (some ⟨g, 0, none⟩), .slice A n c, .func (.func 21) #[] #[.pointer (some ⟨gw, 0, none⟩)]] w fun e w' => e = .returned (.tuple #[]) ∧ Hold w0 w' (wrA g (bs ++ encL (encL encI) xs) * (wcA gw g * R)) := by
  have hl : xs.length = n := (hr w bs h).2.1
  have HR := hid hr
  have HX := hid hx
  have HL := hid hl
  have HM := hid hM
  have hn : n < 18446744073709551616 := by omega
  have h10 := encU_len10 hn
  clear hr hx hl hM
  go_enter Try.func20, Try.ntmps20
  go_wp2_with fail
  refine (wr_unsigned w0 w _ g bs n h hn (by omega)).mono ?_
  rintro e w1 ⟨rfl, h1⟩
  clear h
  go_wp2_with fail
  go_loopw [15] (fun v wr => ∃ k : Nat, k ≤ n ∧ v = .int .i64 (k : Int) ∧ Hold w0 wr (wrA g (bs ++ encU n ++ (xs.take k).flatMap (encL encI)) * (wcA gw g * R))) (fun v _ => n - (intOf v).toNat)
  case atStart => exact ⟨0, Nat.zero_le _, rfl, by simpa using h1⟩
  case round =>
    clear h1
    obtain ⟨k, hk, rfl, h⟩ := hrel
    by_cases hlt : k < n
    · have e1 : decide ((k : Int) < (n : Int)) = true := decide_eq_true (by omega)
      obtain ⟨⟨b, hrd⟩, _, hrp⟩ := HR.out _ _ (by rw [List.append_assoc] at h; exact h)
      obtain ⟨ad, rfl, _, hcell⟩ := hrd.cellAt hlt
      have hkl : k < xs.length := by rw [HL.out]; omega
      have hvl : k < vs.length := by rw [hrd.len]; exact hlt
      obtain ⟨x, hxe⟩ : ∃ x, x = xs[k] := ⟨_, rfl⟩
      obtain ⟨v, hve⟩ : ∃ v, v = vs[k] := ⟨_, rfl⟩
      rw [← hve] at hcell
      have hv? : vs[k]? = some v := by rw [hve]; exact List.getElem?_eq_getElem hvl
      have hx? : xs[k]? = some x := by rw [hxe]; exact List.getElem?_eq_getElem hkl
      have hxm : x ∈ xs := by rw [hxe]; exact List.getElem_mem hkl
      have hz : InsOk x := HX.out _ hxm
      have hxM : x.length ≤ M := Nat.le_trans (sum_mem_le (List.mem_map_of_mem hxm)) HM.out
      obtain ⟨A3, c3, b3, hv3, _⟩ := hrp k v x hv? hx?
      have HZ := hid hz
      have HV := hid (And.intro hv? hx?)
      have e5 : (xs.take (k + 1)).flatMap (encL encI) = (xs.take k).flatMap (encL encI) ++ encL encI x := by rw [flat_snoc (encL encI) xs hkl, ← hxe]
      have E5 := hid e5
      have hlen : (bs ++ encU n ++ (xs.take k).flatMap (encL encI)).length + 70 + 50 * x.length ≤ 900000000 := by
        have h6 := encLI_flat_len M (xs.take k) (fun y hy => HX.out y (List.mem_of_mem_take hy)) (by rw [List.map_take]; exact Nat.le_trans (sum_take_le _ _) HM.out) (by omega)
        rw [List.length_append, List.length_append]
        rw [List.length_take] at h6
        have h7 := HM.out
        have h8 : ((xs.take k).map List.length).sum + x.length ≤ (xs.map List.length).sum := by
          have h9 := sum_take_le (xs.map List.length) (k + 1)
          rw [← List.map_take, take_snoc xs hkl, ← hxe, List.map_append, List.sum_append] at h9
          simpa using h9
        omega
      have HH := hid h
      have HR2 : Hid (∀ w' bs', Hold w0 w' (wrA g bs' * (wcA gw g * R)) → InsR w' v x) := hid fun w' bs' h => (HR.out w' bs' h).2.2 k v x HV.out.1 HV.out.2
      clear hrd hxe e5 h hz hve hv? hx? hxm hrp
      subst hv3
      go_wp2_with fail
      refine (wr_prog w0 _ R g gw _ _ x HH.out HR2.out HZ.out hlen).mono ?_
      rintro e w2 ⟨rfl, h2⟩
      rw [List.append_assoc, ← E5.out] at h2
      clear HH E5
      go_wp2_with fail
      go_roundw
      case rel => exact ⟨k + 1, by omega, by go_num, h2⟩
      case measure => simp [intOf]; omega
    · obtain rfl : k = n := by omega
      have e1 : decide ((k : Int) < (k : Int)) = false := by simp
      rw [List.take_of_length_le (by rw [HL.out]; omega), List.append_assoc] at h
      go_wp2_with fail
      first | go_end0 | go_ret
      exact ⟨rfl, by unfold encL; rw [HL.out]; exact h⟩
theorem Blk.readsAt {w : World} {g : Nat} {t : TypeId} {cs : Array Value} (h : Blk w g t cs) (off n : Nat) {xs : List Value} (hx : (cs.toList.drop off).take n = xs) (hn : xs.length = n) : Reads w g (some ⟨g, off, none⟩) n xs := by
  subst hx
  refine ⟨hn, fun k hk => ?_⟩
  have hl : k < ((cs.toList.drop off).take n).length := by omega
  refine ⟨_, ((cs.toList.drop off).take n)[k], rfl, rfl, h.lt, List.getElem?_eq_getElem hl, ?_⟩
  rw [Addr.add_lit, h.cell, ← List.getElem?_eq_getElem hl, List.getElem?_take, if_pos hk, List.getElem?_drop]
  simp
theorem encI_app (a b : List Int) : encI (a ++ b) = encI a ++ encI b := by unfold encI; simp
theorem encI12 (c0 c1 c2 c3 c4 c5 c6 c7 c8 c9 c10 c11 : Int) : encI [c0, c1, c2, c3, c4, c5, c6, c7, c8, c9, c10, c11] = encI [c0, c1, c2] ++ (encI [c3, c4, c5, c6] ++ encI [c7, c8, c9, c10, c11]) := by
  rw [← encI_app, ← encI_app]; rfl
set_option maxRecDepth 8000 in
set_option maxHeartbeats 4000000 in
theorem wr_config (w0 w : World) (R : Asr) (g : Nat) (bs : List Nat) (c0 c1 c2 c3 c4 c5 c6 c7 c8 c9 c10 c11 : Int) (s : Bool) (h : Hold w0 w (wrA g bs * R)) (hx : ∀ x ∈ [c0, c1, c2, c3, c4, c5, c6, c7, c8, c9, c10, c11], I64 x) (hb : bs.length + 130 ≤ 900000000) :
    Calls Try.prog 17 #[.pointer (some ⟨g, 0, none⟩), .agg #[.int .i64 c0, .int .i64 c1, .int .i64 c2, .int .i64 c3, .int .i64 c4, .int .i64 c5, .int .i64 c6, .int .i64 c7, .int .i64 c8, .int .i64 c9, .int .i64 c10, .int .i64 c11, .bool s]] w fun e w' => e = .returned (.tuple #[]) ∧ Hold w0 w' (wrA g (bs ++ encC [c0, c1, c2, c3, c4, c5, c6, c7, c8, c9, c10, c11] s) * R) := by
  obtain ⟨i8, hi8, hz0, hz1, hz2⟩ := parts5 info_u8
  have x1 : ∀ x ∈ [c0, c1, c2], I64 x := fun x h => hx x (List.mem_append_left ([c3, c4, c5, c6] ++ [c7, c8, c9, c10, c11]) h)
  have x2 : ∀ x ∈ [c3, c4, c5, c6], I64 x := fun x h => hx x (List.mem_append_right [c0, c1, c2] (List.mem_append_left [c7, c8, c9, c10, c11] h))
  have x3 : ∀ x ∈ [c7, c8, c9, c10, c11], I64 x := fun x h => hx x (List.mem_append_right [c0, c1, c2] (List.mem_append_right [c3, c4, c5, c6] h))
  have k1 : (encI [c0, c1, c2]).length ≤ 30 := encI_len _ x1
  have k2 : (encI [c3, c4, c5, c6]).length ≤ 40 := encI_len _ x2
  have k3 : (encI [c7, c8, c9, c10, c11]).length ≤ 50 := encI_len _ x3
  have HX1 := hid x1
  have HX2 := hid x2
  have HX3 := hid x3
  clear x1 x2 x3
  have K1 := hid (And.intro k1 (And.intro k2 k3))
  clear hx k1 k2 k3
  have H1 := (h.newBlk (t := 24) (cs := #[.int .i64 c0, .int .i64 c1, .int .i64 c2, .int .i64 c3, .int .i64 c4, .int .i64 c5, .int .i64 c6, .int .i64 c7, .int .i64 c8, .int .i64 c9, .int .i64 c10, .int .i64 c11, .bool s])).newBlk (t := 3) (cs := #[.int .i64 c0, .int .i64 c1, .int .i64 c2])
  simp only [World.size_alloc] at H1
  have H1 := hid (H1.pk3 [2, 0, 1])
  obtain ⟨gc, hgc⟩ : ∃ gc, gc = w.heap.size := ⟨_, rfl⟩
  clear h
  go_enter Try.func17, Try.ntmps17
  go_wp2_with fail
  refine (wr_signed w0 _ _ g bs _ 3 3 [c0, c1, c2] H1.out (fun w' bs' h => ⟨_, h.drop.blk.reads (xs := [.int .i64 c0, .int .i64 c1, .int .i64 c2]) rfl rfl⟩) HX1.out (by omega)).mono ?_
  rintro e w2 ⟨rfl, h2⟩
  clear H1
  rw [← hgc] at h2 ⊢
  clear hgc
  have h3 := h2.pk3 [0, 2]
  clear h2
  go_wp2_with fail
  refine (wr_signed w0 _ _ g _ _ 4 4 [c3, c4, c5, c6] h3 (fun w' bs' h => ⟨_, h.drop.blk.readsAt 3 4 (xs := [.int .i64 c3, .int .i64 c4, .int .i64 c5, .int .i64 c6]) rfl rfl⟩) HX2.out (by have := K1.out.1; rw [List.length_append]; omega)).mono ?_
  rintro e w4 ⟨rfl, h4⟩
  clear h3
  have b4 := h4.drop.blk.some_ (i := 7) rfl
  have b5 := h4.drop.blk.some_ (i := 8) rfl
  have b6 := h4.drop.blk.some_ (i := 9) rfl
  have b7 := h4.drop.blk.some_ (i := 10) rfl
  have b8 := h4.drop.blk.some_ (i := 11) rfl
  have H5 := hid ((h4.newBlk (t := 3) (cs := #[.int .i64 c7, .int .i64 c8, .int .i64 c9, .int .i64 c10, .int .i64 c11])).pk3 [1, 0, 2])
  clear h4
  go_wp2_with fail
  refine (wr_signed w0 _ _ g _ _ 5 5 [c7, c8, c9, c10, c11] H5.out (fun w' bs' h => ⟨_, h.drop.blk.reads (xs := [.int .i64 c7, .int .i64 c8, .int .i64 c9, .int .i64 c10, .int .i64 c11]) rfl rfl⟩) HX3.out (by have := K1.out.1; have := K1.out.2.1; rw [List.length_append, List.length_append]; omega)).mono ?_
  rintro e w6 ⟨rfl, h6⟩
  clear H5 b4 b5 b6 b7 b8
  have h7 := h6.pk3 [0, 2]
  clear h6
  have b9 := h7.drop.blk.some_ (i := 12) rfl
  have e9 : bs ++ encI [c0, c1, c2] ++ encI [c3, c4, c5, c6] ++ encI [c7, c8, c9, c10, c11] = bs ++ encI [c0, c1, c2, c3, c4, c5, c6, c7, c8, c9, c10, c11] := by rw [encI12, List.append_assoc, List.append_assoc]
  rw [e9] at h7
  have hlen : (bs ++ encI [c0, c1, c2, c3, c4, c5, c6, c7, c8, c9, c10, c11]).length ≤ 900000000 := by
    have := K1.out.1
    have := K1.out.2.1
    have := K1.out.2.2
    rw [encI12, List.length_append, List.length_append, List.length_append]; omega
  generalize hB : bs ++ encI [c0, c1, c2, c3, c4, c5, c6, c7, c8, c9, c10, c11] = B at h7 hlen
  have HB := hid hB
  clear hB e9
  obtain ⟨A, c, h8⟩ := wrOpen (h7.pk2 [0])
  have q0 := h8.blk.some_ (i := 0) rfl
  have h9 := h8.swap
  clear h8 h7
  cases s with
  | false =>
    go_wp2_with (at_builtin; refine wpList_app rfl _ _ 31 rfl 5 i8 (.int .u8 0) 1 1 Try.underlying31 hi8 hz0 hz1 hz2 rfl (by decide) (.slice A B.length c) B.length (bv B) [.int .u8 ((0 : Nat) : Int)] _ rfl h9 _ rfl rfl rfl rfl (by omega) (by decide) ?_)
    intro A2 c2 w8 hA
    have z0 := hA.swap.blk.frozen 0
    have k0 := hA.swap.blk.some_ (i := 0) rfl
    have hB := hid (wrSnoc hA)
    clear h9 hA
    go_wp2_with fail
    first | go_end0 | go_ret
    exact ⟨rfl, by unfold encC; rw [← List.append_assoc, HB.out]; exact hB.out⟩
  | true =>
    go_wp2_with (at_builtin; refine wpList_app rfl _ _ 31 rfl 5 i8 (.int .u8 0) 1 1 Try.underlying31 hi8 hz0 hz1 hz2 rfl (by decide) (.slice A B.length c) B.length (bv B) [.int .u8 ((1 : Nat) : Int)] _ rfl h9 _ rfl rfl rfl rfl (by omega) (by decide) ?_)
    intro A2 c2 w8 hA
    have z0 := hA.swap.blk.frozen 0
    have k0 := hA.swap.blk.some_ (i := 0) rfl
    have hB := hid (wrSnoc hA)
    clear h9 hA
    go_wp2_with fail
    first | go_end0 | go_ret
    exact ⟨rfl, by unfold encC; rw [← List.append_assoc, HB.out]; exact hB.out⟩
/-! ## Scripts in memory -/
structure SlV where
  A : Option Addr
  n : Nat
  c : Nat
def SlV.v (s : SlV) : Value := .slice s.A s.n s.c
/-- Where the lists of a script lie; vs: the values of its programs. -/
structure ScV where
  i : SlV
  p : SlV
  q : SlV
  vs : List Value
def ScV.cells (V : ScV) (s : Scr) : List Value := s.cf.map (Value.int .i64) ++ [.bool s.strong, V.i.v, V.p.v, V.q.v]
def ScV.val (V : ScV) (s : Scr) : Value := .agg (V.cells s).toArray
structure ScrR (w : World) (V : ScV) (s : Scr) : Prop where
  i : ∃ b, Reads w b V.i.A V.i.n (uv s.init)
  p : PrR w V.p.A V.p.n V.vs s.progs
  q : ∃ b, Reads w b V.q.A V.q.n (s.picks.map (Value.int .i64))
structure Scr.fits (s : Scr) : Prop where
  i : s.init.length ≤ 1100000
  p : s.progs.length ≤ 1100000
  m : (s.progs.map List.length).sum ≤ 1100000
  q : s.picks.length ≤ 1100000
theorem twelve {l : List Int} (h : l.length = 12) : ∃ c0 c1 c2 c3 c4 c5 c6 c7 c8 c9 c10 c11, l = [c0, c1, c2, c3, c4, c5, c6, c7, c8, c9, c10, c11] := by
  match l, h with
  | [c0, c1, c2, c3, c4, c5, c6, c7, c8, c9, c10, c11], _ => exact ⟨c0, c1, c2, c3, c4, c5, c6, c7, c8, c9, c10, c11, rfl⟩
theorem encC_len {l : List Int} {b : Bool} (h : l.length = 12 ∧ ∀ x ∈ l, I64 x) : (encC l b).length ≤ 121 := by
  have := encI_len l h.2
  unfold encC
  rw [List.length_append]
  have : ([if b then 1 else 0] : List Nat).length = 1 := rfl
  omega
theorem encL_len10 {α : Type} {f : α → List Nat} {l : List α} (hl : l.length ≤ 1100000) (hf : (l.flatMap f).length ≤ 10 * l.length) : (encL f l).length ≤ 11000010 := by
  have := encU_len10 (n := l.length) (by omega)
  unfold encL
  rw [List.length_append]; omega
theorem encP_len {l : List (List (List Int))} (h : ∀ p ∈ l, InsOk p) (hl : l.length ≤ 1100000) (hm : (l.map List.length).sum ≤ 1100000) : (encL (encL encI) l).length ≤ 66000010 := by
  have := encU_len10 (n := l.length) (by omega)
  have := encLI_flat_len 1100000 l h hm (by omega)
  unfold encL at this ⊢
  rw [List.length_append]; omega
set_option maxRecDepth 8000 in
set_option maxHeartbeats 4000000 in
theorem enc_any (w0 w : World) (R : Asr) (V : ScV) (s : Scr) (h : Hold w0 w R) (hr : ∀ w' q, Hold w0 w' (q * R) → ScrR w' V s) (ok : s.ok) (hf : s.fits) :
    Calls Try.prog 10 #[V.val s] w fun e w' => ∃ v', e = .returned (.tuple #[v', .int .i64 (encode5 s).2]) ∧ Hold w0 w' (bufA v' (encode5 s).1 * R) := by
  have hmf : ∀ (fn : Fn) (first cap : Array Value) (w : World), (Instr.makeFunc fn first cap).run Try.prog w = .ok (.func fn first cap) w := fun _ _ _ _ => rfl
  obtain ⟨⟨AI, nI, cI⟩, ⟨AP, nP, cP⟩, ⟨AQ, nQ, cQ⟩, vs⟩ := V
  obtain ⟨cf, strong, init, progs, picks⟩ := s
  obtain ⟨c0, c1, c2, c3, c4, c5, c6, c7, c8, c9, c10, c11, hcf⟩ := twelve ok.cf.1
  simp only at hcf
  subst hcf
  have hok := hid ok
  have hft := hid hf
  have hR0 := hr w Asr.emp (h.imp (Imp.intro_emp _))
  have nI0 : nI ≤ 1100000 := by
    obtain ⟨b, hb⟩ := hR0.i
    have h1 := hb.len
    have h2 := hf.i
    simp only [uv, List.length_map] at h1 h2
    omega
  have nP0 : nP ≤ 1100000 := by
    have h1 := hR0.p.2.1
    have h2 := hf.p
    simp only at h1 h2
    omega
  have nQ0 : nQ ≤ 1100000 := by
    obtain ⟨b, hb⟩ := hR0.q
    have h1 := hb.len
    have h2 := hf.q
    simp only [List.length_map] at h1 h2
    omega
  have HR : Hid (∀ w' g bs' gw gs cs, Hold w0 w' (wrA g bs' * (wcA gw g * (blkA 29 gs cs * R))) → ScrR w' ⟨⟨AI, nI, cI⟩, ⟨AP, nP, cP⟩, ⟨AQ, nQ, cQ⟩, vs⟩ ⟨[c0, c1, c2, c3, c4, c5, c6, c7, c8, c9, c10, c11], strong, init, progs, picks⟩) := hid fun w' g bs' gw gs cs h => hr w' (wrA g bs' * (wcA gw g * blkA 29 gs cs)) ((h.imp (Imp.under _ (Imp.assoc' _ _ _))).imp (Imp.assoc' _ _ _))
  clear hR0
  have hcfl := hid (encC_len (b := strong) ok.cf)
  have hil := hid (encL_len10 (f := encU) hf.i (encU_flat_len init ok.init))
  have hpl := hid (encP_len (fun p hp => (ok.progs p hp).2) hf.p hf.m)
  have hql := hid (encL_len10 (f := encS) hf.q (encS_flat_len picks ok.picks))
  clear ok hf hr
  show Calls Try.prog 10 #[.agg #[.int .i64 c0, .int .i64 c1, .int .i64 c2, .int .i64 c3, .int .i64 c4, .int .i64 c5, .int .i64 c6, .int .i64 c7, .int .i64 c8, .int .i64 c9, .int .i64 c10, .int .i64 c11, .bool strong, .slice AI nI cI, .slice AP nP cP, .slice AQ nQ cQ]] w _
  have hcv : (convert 31 31 (.slice (some ⟨w.heap.size + 1, 0, none⟩) 4 4)).run Try.prog ((w.alloc (.cells #[.int .i64 c0, .int .i64 c1, .int .i64 c2, .int .i64 c3, .int .i64 c4, .int .i64 c5, .int .i64 c6, .int .i64 c7, .int .i64 c8, .int .i64 c9, .int .i64 c10, .int .i64 c11, .bool strong, .slice AI nI cI, .slice AP nP cP, .slice AQ nQ cQ] 29)).alloc (.cells #[.int .u8 83, .int .u8 84, .int .u8 88, .int .u8 49] 5)) =
      .ok (.slice (some ⟨w.heap.size + 1, 0, none⟩) 4 4) ((w.alloc (.cells #[.int .i64 c0, .int .i64 c1, .int .i64 c2, .int .i64 c3, .int .i64 c4, .int .i64 c5, .int .i64 c6, .int .i64 c7, .int .i64 c8, .int .i64 c9, .int .i64 c10, .int .i64 c11, .bool strong, .slice AI nI cI, .slice AP nP cP, .slice AQ nQ cQ] 29)).alloc (.cells #[.int .u8 83, .int .u8 84, .int .u8 88, .int .u8 49] 5 (4, 5))) :=
    Joins.run_convert_bytes_const_at _ _ _ _ _ _ _ (by simp) rfl rfl
  have h1 := (h.newBlk (t := 29) (cs := #[.int .i64 c0, .int .i64 c1, .int .i64 c2, .int .i64 c3, .int .i64 c4, .int .i64 c5, .int .i64 c6, .int .i64 c7, .int .i64 c8, .int .i64 c9, .int .i64 c10, .int .i64 c11, .bool strong, .slice AI nI cI, .slice AP nP cP, .slice AQ nQ cQ])).markRow 5 #[.int .u8 83, .int .u8 84, .int .u8 88, .int .u8 49]
  simp only [World.size_alloc] at h1
  have h1 : Hold w0 _ (bufA (.slice (some ⟨w.heap.size + 1, 0, none⟩) 4 4) mark5 * (blkA 29 w.heap.size #[.int .i64 c0, .int .i64 c1, .int .i64 c2, .int .i64 c3, .int .i64 c4, .int .i64 c5, .int .i64 c6, .int .i64 c7, .int .i64 c8, .int .i64 c9, .int .i64 c10, .int .i64 c11, .bool strong, .slice AI nI cI, .slice AP nP cP, .slice AQ nQ cQ] * R)) := h1
  have h2 := (h1.newBlk (t := 49) (cs := #[.slice (some ⟨w.heap.size + 1, 0, none⟩) 4 4])).newBlk (t := 47) (cs := #[.pointer (some ⟨w.heap.size + 2, 0, none⟩)])
  simp only [World.size_alloc] at h2
  have H3 := hid (wrClose (h2.pk4 [1, 2, 0, 3]))
  clear h1 h2 h
  obtain ⟨gs, hgs⟩ : ∃ gs, gs = w.heap.size := ⟨_, rfl⟩
  go_enter Try.func10, Try.ntmps10
  go_wp2_with fail
  have h3 := H3.out
  generalize hW : World.alloc _ _ = W at h3 ⊢
  clear hW hcv H3
  rw [← hgs] at h3 ⊢
  generalize gs + 1 + 1 + 1 = gw at h3 ⊢
  generalize gs + 1 + 1 = g at h3 ⊢
  obtain ⟨cs, hcs⟩ : ∃ cs : Array Value, cs = #[.int .i64 c0, .int .i64 c1, .int .i64 c2, .int .i64 c3, .int .i64 c4, .int .i64 c5, .int .i64 c6, .int .i64 c7, .int .i64 c8, .int .i64 c9, .int .i64 c10, .int .i64 c11, .bool strong, .slice AI nI cI, .slice AP nP cP, .slice AQ nQ cQ] := ⟨_, rfl⟩
  have HCS := hid hcs
  rw [← hcs] at h3
  have h3 : Hold w0 W (wrA g mark5 * (wcA gw g * (blkA 29 gs cs * R))) := h3
  clear hcs hgs
  refine (wr_config w0 W _ g mark5 c0 c1 c2 c3 c4 c5 c6 c7 c8 c9 c10 c11 strong h3 hok.out.cf.2 (by decide)).mono ?_
  rintro e w1 ⟨rfl, h4⟩
  clear h3
  generalize hB1 : mark5 ++ encC [c0, c1, c2, c3, c4, c5, c6, c7, c8, c9, c10, c11] strong = B1 at h4
  have l1 : B1.length ≤ 125 := by rw [← hB1, List.length_append]; have := hcfl.out; have : mark5.length = 4 := rfl; omega
  have HB1 := hid hB1
  clear hB1
  have k0 := h4.drop.blk.some_ (i := 0) rfl
  have c13 : w1.cell? ⟨gs, 13, none⟩ = some (.slice AI nI cI) := h4.drop.drop.blk.some_ (by rw [HCS.out]; rfl)
  go_wp2_with fail
  refine (wr_listU w0 w1 _ g B1 AI nI cI init h4 (fun w' bs' h => (HR.out w' g bs' gw gs cs h).i) hok.out.init (by omega)).mono ?_
  rintro e w2 ⟨rfl, h5⟩
  clear h4 k0 c13
  generalize hB2 : B1 ++ encL encU init = B2 at h5
  have l2 : B2.length ≤ 11000135 := by rw [← hB2, List.length_append]; have := hil.out; omega
  have HB2 := hid hB2
  clear hB2
  have k0 := h5.drop.blk.some_ (i := 0) rfl
  have c14 : w2.cell? ⟨gs, 14, none⟩ = some (.slice AP nP cP) := h5.drop.drop.blk.some_ (by rw [HCS.out]; rfl)
  go_wp2_with fail
  refine (wr_listP w0 w2 _ g gw B2 AP nP cP 1100000 vs progs h5 (fun w' bs' h => (HR.out w' g bs' gw gs cs h).p) (fun p hp => (hok.out.progs p hp).2) hft.out.m (by omega)).mono ?_
  rintro e w3 ⟨rfl, h6⟩
  clear h5 k0 c14
  generalize hB3 : B2 ++ encL (encL encI) progs = B3 at h6
  have l3 : B3.length ≤ 77000145 := by rw [← hB3, List.length_append]; have := hpl.out; omega
  have HB3 := hid hB3
  clear hB3
  have k0 := h6.drop.blk.some_ (i := 0) rfl
  have c15 : w3.cell? ⟨gs, 15, none⟩ = some (.slice AQ nQ cQ) := h6.drop.drop.blk.some_ (by rw [HCS.out]; rfl)
  go_wp2_with fail
  refine (wr_listS w0 w3 _ g gw B3 AQ nQ cQ picks h6 (fun w' bs' h => (HR.out w' g bs' gw gs cs h).q) hok.out.picks (by omega)).mono ?_
  rintro e w4 ⟨rfl, h7⟩
  clear h6 k0 c15
  generalize hB4 : B3 ++ encL encS picks = B4 at h7
  have l4 : B4.length ≤ 88000155 := by rw [← hB4, List.length_append]; have := hql.out; omega
  have hS : B4 = Scr.bytes ⟨[c0, c1, c2, c3, c4, c5, c6, c7, c8, c9, c10, c11], strong, init, progs, picks⟩ := by
    rw [← hB4, ← HB3.out, ← HB2.out, ← HB1.out]
    unfold Scr.bytes Scr.body
    simp only [List.append_assoc]
  have HS := hid hS
  clear hB4 hS
  have k0 := h7.drop.blk.some_ (i := 0) rfl
  have h8 := h7.pk3 [0, 1]
  obtain ⟨A, c, h9⟩ := wrOpen h8
  have h9 : Hold w0 w4 (blkA 49 g #[.slice A B4.length c] * (bufA (.slice A B4.length c) B4 * (wcA gw g * R))) := h9
  have d0 := h9.blk.some_ (i := 0) rfl
  have H9 := hid (h7.drop.drop.drop)
  have h10 := hid (h9.pk3 [1])
  clear h7 h8 h9
  by_cases hbig : 262144 < B4.length
  · have e1 : decide ((262144 : Int) < (B4.length : Int)) = true := decide_eq_true (by omega)
    have hE : encode5 ⟨[c0, c1, c2, c3, c4, c5, c6, c7, c8, c9, c10, c11], strong, init, progs, picks⟩ = ([], 3) := by unfold encode5; rw [← HS.out, if_pos hbig]
    have HE := hid hE
    have H11 := hid (H9.out.nilRowS 5 1)
    clear HCS hE HS
    go_wp2_with fail
    go_ret2
    rw [HE.out]
    exact ⟨.slice none 0 0, rfl, H11.out⟩
  · have e1 : decide ((262144 : Int) < (B4.length : Int)) = false := decide_eq_false (by omega)
    have hE : encode5 ⟨[c0, c1, c2, c3, c4, c5, c6, c7, c8, c9, c10, c11], strong, init, progs, picks⟩ = (B4, 0) := by unfold encode5; rw [← HS.out, if_neg hbig]
    have HE := hid hE
    clear HCS hE HS
    go_wp2_with fail
    go_ret2
    rw [HE.out]
    exact ⟨_, rfl, h10.out⟩
end Go.Proofs.Ytipafegiobnkpaa
