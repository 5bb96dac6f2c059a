/- Numbers are read from bytes: of the program. -/
import Derived.Test.YtipafegiobnkpaaWe
import Derived.Deep.DeepCutAuto
import Derived.Deep.CutBlock
import Derived.Laws.Bits64b
namespace Go.Proofs.Ytipafegiobnkpaa
open Go.RowKit
set_option linter.unusedVariables false

/-- The slice T is S without its first k elements. -/
structure SlT (S T : SlV) (k : Nat) : Prop where
  n : T.n + k = S.n
  c : T.c + k = S.c
  le : T.n ≤ T.c
  at_ : ∀ j, j < T.n → ∃ ad ad', S.A = some ad ∧ T.A = some ad' ∧ ad'.add j = ad.add (k + j)
theorem SlT.refl (S : SlV) (hc : S.n ≤ S.c) (h : S.n = 0 ∨ ∃ ad, S.A = some ad) : SlT S S 0 := ⟨rfl, rfl, hc, fun j hj => by
  rcases h with h | ⟨ad, h⟩
  · omega
  · exact ⟨ad, ad, h, h, by rw [Nat.zero_add]⟩⟩
theorem SlT.reads {S T : SlV} {k b : Nat} {w : World} {xs : List Value} (h : SlT S T k) (hr : Reads w b S.A S.n xs) : Reads w b T.A T.n (xs.drop k) :=
  ⟨by have := h.n; have := hr.len; rw [List.length_drop]; omega, fun j hj => by
    obtain ⟨ad, ad', h1, h2, h3⟩ := h.at_ j hj
    obtain ⟨ad2, u, h4, h5, h6, h7, h8⟩ := hr.at_ (k + j) (by have := h.n; omega)
    rw [h1] at h4
    obtain rfl := Option.some.inj h4
    refine ⟨ad', u, h2, ?_, h6, by rw [List.getElem?_drop]; exact h7, by rw [h3]; exact h8⟩
    have := congrArg Addr.block h3
    rw [block_of_add, block_of_add] at this
    rw [this]; exact h5⟩
theorem SlT.step {S : SlV} {ad : Addr} {n c k : Nat} (h : SlT S ⟨some ad, n + 1, c⟩ k) : SlT S ⟨if c = 1 then some ad else some (ad.add 1), n, c - 1⟩ (k + 1) := by
  have h1 := h.n
  have h2 := h.c
  have h3 := h.le
  simp only at h1 h2 h3
  refine ⟨by simp only; omega, by simp only; omega, by simp only; omega, fun j hj => ?_⟩
  simp only at hj
  obtain ⟨a, a', h4, h5, h6⟩ := h.at_ (1 + j) (by simp only; omega)
  obtain rfl := Option.some.inj h5
  rw [if_neg (by omega)]
  exact ⟨a, _, h4, rfl, by rw [add_of_add, h6]; congr 1; omega⟩
/-- Slicing off the first k elements. -/
theorem SlT.cut {S : SlV} {ad : Addr} (hS : S.A = some ad) (hc : S.n ≤ S.c) {k : Nat} (hk : k ≤ S.n) : SlT S ⟨if S.c = k then some ad else some (ad.add k), S.n - k, S.c - k⟩ k := by
  refine ⟨by simp only; omega, by simp only; omega, by simp only; omega, fun j hj => ?_⟩
  simp only at hj
  rw [if_neg (by omega)]
  exact ⟨ad, _, hS, rfl, by rw [add_of_add]⟩

theorem add_z5 (a : Addr) : a.add 0 = a := by unfold Addr.add; simp
abbrev brk : Ending := .panicked [{ v := .iface 65 (.agg #[]), recovered := false }]
/-- A reader that stands ahead of the bytes bs, the last ones of all. -/
def rdA (S : SlV) (all : List Nat) (g : Nat) (bs : List Nat) : Asr := Asr.ex fun x : { x : SlV × Nat // SlT S x.1 x.2 ∧ bs = all.drop x.2 ∧ x.1.n = bs.length } => blkA 67 g #[x.1.1.v]
section
variable {w0 w : World} {R : Asr} {S : SlV} {all bs : List Nat} {g : Nat}
theorem rdOpen (h : Hold w0 w (rdA S all g bs * R)) : ∃ A c k, SlT S ⟨A, bs.length, c⟩ k ∧ bs = all.drop k ∧ Hold w0 w (blkA 67 g #[.slice A bs.length c] * R) := by
  obtain ⟨⟨⟨⟨A, n, c⟩, k⟩, h1, h2, h3⟩, h⟩ := h.exOpen
  simp only at h1 h2 h3
  subst h3
  exact ⟨A, c, k, h1, h2, h⟩
theorem rdClose {A : Option Addr} {c k n : Nat} (h1 : SlT S ⟨A, n, c⟩ k) (h2 : bs = all.drop k) (h3 : n = bs.length) (h : Hold w0 w (blkA 67 g #[.slice A n c] * R)) : Hold w0 w (rdA S all g bs * R) :=
  Hold.exClose (x := ⟨(⟨A, n, c⟩, k), h1, h2, h3⟩) h
end
/-- The bytes lie still. -/
def Still (w0 : World) (R : Asr) (S : SlV) (all : List Nat) : Prop := ∀ w' q, Hold w0 w' (q * R) → ∃ b, Reads w' b S.A S.n (bv all)
theorem Still.under {w0 : World} {R p : Asr} {S : SlV} {all : List Nat} (h : Still w0 R S all) : Still w0 (p * R) S all := fun w' q hw => h w' (q * p) (hw.imp (Imp.assoc' _ _ _))
theorem bv_drop (l : List Nat) (k : Nat) : (bv l).drop k = bv (l.drop k) := by unfold bv; rw [List.map_drop]
theorem sz_u8 (w : World) : (sizeOf (Try.prog.elem 31)).run Try.prog w = .ok 1 w := rfl
theorem rd_byte (w0 w : World) (R : Asr) (S : SlV) (all : List Nat) (g x : Nat) (bs : List Nat) (h : Hold w0 w (rdA S all g (x :: bs) * R)) (hS : Still w0 R S all) :
    Calls Try.prog 47 #[.pointer (some ⟨g, 0, none⟩)] w fun e w' => e = .returned (.int .u8 (x : Int)) ∧ Hold w0 w' (rdA S all g bs * R) := by
  obtain ⟨A, c, k, h1, h2, h3⟩ := rdOpen h
  rw [List.length_cons] at h1 h3
  obtain ⟨b, hr⟩ := hS w _ h
  have hr2 := h1.reads hr
  rw [bv_drop, ← h2] at hr2
  obtain ⟨ad, hA, hb9, hcell⟩ := hr2.cellAt (k := 0) (by simp)
  simp only at hA
  subst hA
  rw [add_z5] at hcell
  replace hcell : w.cell? ad = some (.int .u8 (x : Int)) := hcell
  have p0 := h3.blk.some_ (i := 0) rfl
  have z0 := h3.blk.frozen 0
  obtain ⟨n, hn⟩ : ∃ n, n = bs.length := ⟨_, rfl⟩
  rw [← hn] at h1 h3 p0
  have t1 := fun w => slice_tailP (P := Try.prog) 31 (by kernel_rfl) sz_u8 w ad n c
  have H4 := hid (rdClose (bs := bs) h1.step (by rw [← List.drop_drop, ← h2]; rfl) hn (h3.setBlk 0 (.slice (if c = 1 then some ad else some (ad.add 1)) n (c - 1))))
  have e1 : ((n : Int) + 1 == 0) = false := by simp; omega
  obtain ⟨A2, hA2⟩ : ∃ A2, A2 = if c = 1 then some ad else some (ad.add 1) := ⟨_, rfl⟩
  rw [← hA2] at t1 H4
  clear h h1 h2 h3 hr hr2 hS hn hA2 hb9
  go_enter Try.func47, Try.ntmps47
  go_wp2_with fail
  go_ret
  exact ⟨rfl, H4.out⟩
theorem rd_byte_nil (w0 w : World) (R : Asr) (S : SlV) (all : List Nat) (g : Nat) (h : Hold w0 w (rdA S all g [] * R)) :
    Calls Try.prog 47 #[.pointer (some ⟨g, 0, none⟩)] w fun e w' => e = brk ∧ Hold w0 w' R := by
  obtain ⟨A, c, k, h1, h2, h3⟩ := rdOpen h
  have p0 := h3.blk.some_ (i := 0) rfl
  have H := hid h3.drop
  rw [List.length_nil] at p0
  clear h h1 h2 h3
  go_enter Try.func47, Try.ntmps47
  go_wp2_with fail
  exact ⟨rfl, rfl, H.out⟩

theorem mk_lt {x k : Nat} (hk : k ≤ 9) (hx : k = 9 → x < 2) : x % 128 * 2 ^ (7 * k) < 18446744073709551616 := by
  by_cases h9 : k = 9
  · have := hx h9
    have e63 : 2 ^ (7 * k) = 9223372036854775808 := by rw [h9]
    rw [e63]; omega
  · have h1 : 2 ^ (7 * k) ≤ 2 ^ 56 := Nat.pow_le_pow_right (by omega) (by omega)
    have h2 : x % 128 * 2 ^ (7 * k) ≤ 127 * 2 ^ (7 * k) := Nat.mul_le_mul_right _ (by omega)
    have h3 : (2 : Nat) ^ 56 = 72057594037927936 := by decide
    omega
theorem or_step {a x k : Nat} (ha : a < 2 ^ (7 * k)) (hk : k ≤ 9) (hx : k = 9 → x < 2) : bits BinOp.or IntKind.u64 (a : Int) (IntKind.u64.wrap ((x : Int) % 128 * 2 ^ (7 * k))) = ((a + x % 128 * 2 ^ (7 * k) : Nat) : Int) := by
  have hm := mk_lt hk hx
  have e1 : (x : Int) % 128 * 2 ^ (7 * k) = ((x % 128 * 2 ^ (7 * k) : Nat) : Int) := by rw [Int.natCast_mul, Int.natCast_emod, Int.natCast_pow]; rfl
  have h64 : a < 18446744073709551616 := by
    have h1 : 2 ^ (7 * k) ≤ 2 ^ 63 := Nat.pow_le_pow_right (by omega) (by omega)
    have h3 : (2 : Nat) ^ 63 = 9223372036854775808 := by decide
    omega
  rw [e1, IntKind.wrap_u64, show ((x % 128 * 2 ^ (7 * k) : Nat) : Int) % 18446744073709551616 = ((x % 128 * 2 ^ (7 * k) : Nat) : Int) by omega, bits_or_u64_nat _ _ h64 hm]
  congr 1
  rw [Nat.or_comm, Nat.mul_comm, ← Nat.two_pow_add_eq_or_of_lt ha, Nat.add_comm]
theorem step_lt {a x k : Nat} (ha : a < 2 ^ (7 * k)) : a + x % 128 * 2 ^ (7 * k) < 2 ^ (7 * (k + 1)) := by
  have e2 : 2 ^ (7 * (k + 1)) = 128 * 2 ^ (7 * k) := by rw [show 7 * (k + 1) = 7 * k + 7 by omega, Nat.pow_add]; omega
  have h2 : x % 128 * 2 ^ (7 * k) ≤ 127 * 2 ^ (7 * k) := Nat.mul_le_mul_right _ (by omega)
  omega
/-- What reading gives: the value and the rest, or the panic of broken bytes. -/
def RdPost {α : Type} (w0 : World) (R : Asr) (S : SlV) (all : List Nat) (g : Nat) (val : α → Value) (o : Option (α × List Nat)) (e : Ending) (w' : World) : Prop := match o with
  | none => e = brk ∧ Hold w0 w' R
  | some x => e = .returned (val x.1) ∧ Hold w0 w' (rdA S all g x.2 * R)
theorem rdPost_none {α : Type} {w0 : World} {R : Asr} {S : SlV} {all : List Nat} {g : Nat} {val : α → Value} {o : Option (α × List Nat)} {w' : World} (ho : o = none) (h : Hold w0 w' R) : RdPost w0 R S all g val o brk w' := by subst ho; exact ⟨rfl, h⟩
theorem rdPost_some {α : Type} {w0 : World} {R : Asr} {S : SlV} {all : List Nat} {g : Nat} {val : α → Value} {o : Option (α × List Nat)} {w' : World} {x : α} {r : List Nat} (ho : o = some (x, r)) (h : Hold w0 w' (rdA S all g r * R)) : RdPost w0 R S all g val o (.returned (val x)) w' := by subst ho; exact ⟨rfl, h⟩
def u64V (v : Nat) : Value := .int .u64 (v : Int)
set_option maxRecDepth 8000 in
set_option maxHeartbeats 4000000 in
theorem rd_unsigned (w0 w : World) (R : Asr) (S : SlV) (all : List Nat) (g : Nat) (bs : List Nat) (h : Hold w0 w (rdA S all g bs * R)) (hS : Still w0 R S all) (hb : ∀ x ∈ bs, x < 256) :
    Calls Try.prog 31 #[.pointer (some ⟨g, 0, none⟩)] w (RdPost w0 R S all g u64V (decU bs)) := by
  have HS := hid hS
  clear hS
  go_enter Try.func31, Try.ntmps31
  go_wp2_with fail
  go_loopw [3, 6] (fun v i wr => ∃ (k a : Nat) (bs' : List Nat), k ≤ 9 ∧ a < 2 ^ (7 * k) ∧ v = .int .u64 (a : Int) ∧ i = .int .i64 (k : Int) ∧ decG k a bs' = decU bs ∧ (∀ x ∈ bs', x < 256) ∧ Hold w0 wr (rdA S all g bs' * R)) (fun _ i _ => 10 - (intOf i).toNat)
  case atStart => exact ⟨0, 0, bs, by omega, by decide, rfl, rfl, rfl, hb, h⟩
  case round =>
    clear h hb
    obtain ⟨k, a, bs', hk, ha, rfl, rfl, heq, hb, h⟩ := hrel
    have e0 : decide ((k : Int) < (10 : Int)) = true := decide_eq_true (by omega)
    have HQ := hid heq
    have HA := hid ha
    clear heq ha
    cases bs' with
    | nil =>
      go_wp2_with fail
      refine (rd_byte_nil w0 wr R S all g h).mono ?_
      rintro e w2 ⟨rfl, h2⟩
      clear h
      go_wp2_with fail
      exact ⟨rfl, rdPost_none HQ.out.symm h2⟩
    | cons x r =>
      have hx := hb x (by simp)
      go_wp2_with fail
      refine (rd_byte w0 wr R S all g x r h HS.out).mono ?_
      rintro e w2 ⟨rfl, h2⟩
      clear h
      by_cases hbad : (x = 0 ∧ 0 < k) ∨ (k = 9 ∧ 2 ≤ x)
      · have hn : none = decU bs := by rw [← HQ.out, decG, if_pos hbad]
        have HN := hid hn
        clear hn
        rcases hbad with ⟨h0, hk0⟩ | ⟨h9, h2'⟩
        · have e1 : ((x : Int) == 0) = true := by simp; omega
          have e2 : decide (0 < k) = true := decide_eq_true hk0
          clear h0 hk0
          go_wp2_with fail
          exact ⟨rfl, rdPost_none HN.out.symm h2.drop⟩
        · have e1 : ((x : Int) == 0) = false := by simp; omega
          have e3 : ((k : Int) == 9) = true := by simp; omega
          have e4 : decide ((2 : Int) ≤ (x : Int)) = true := decide_eq_true (by omega)
          clear h9 h2'
          go_wp2_with fail
          exact ⟨rfl, rdPost_none HN.out.symm h2.drop⟩
      · have hk7 : (0 : Int) ≤ 7 * (k : Int) := by omega
        have hk64 : 7 * (k : Int) ≤ 64 := by omega
        have hk64' : 7 * (k : Int) ≤ 9223372036854775807 := by omega
        have hcs : (((x : Int) == 0) = true ∧ decide (0 < k) = false ∧ ((k : Int) == 9) = false) ∨ (((x : Int) == 0) = false ∧ ((k : Int) == 9) = false) ∨ (((x : Int) == 0) = false ∧ ((k : Int) == 9) = true ∧ decide ((2 : Int) ≤ (x : Int)) = false) := by
          by_cases h0 : x = 0
          · left
            refine ⟨by simp; omega, decide_eq_false (by omega), by simp; omega⟩
          · right
            by_cases h9 : k = 9
            · right
              exact ⟨by simp; omega, by simp; omega, decide_eq_false (by omega)⟩
            · left
              exact ⟨by simp; omega, by simp; omega⟩
        have HB := hid hbad
        clear hbad
        rcases hcs with ⟨e1, e2, e3⟩ | ⟨e1, e3⟩ | ⟨e1, e3, e4⟩
        all_goals
          go_upto_if 34 with fail
          rw [or_step HA.out hk (fun h => by have := HB.out; omega)]
          by_cases hlt : x < 128
          · have e9 : decide ((x : Int) < 128) = true := decide_eq_true (by omega)
            have hn : some (a + x % 128 * 2 ^ (7 * k), r) = decU bs := by rw [← HQ.out, decG, if_neg HB.out, if_pos hlt]
            have HN := hid hn
            have H2 := hid h2
            clear hn h2
            generalize a + x % 128 * 2 ^ (7 * k) = z at HN ⊢
            go_wp2_with fail
            go_ret
            exact rdPost_some (val := u64V) HN.out.symm H2.out
          · have e9 : decide ((x : Int) < 128) = false := decide_eq_false (by omega)
            have hn : decG (k + 1) (a + x % 128 * 2 ^ (7 * k)) r = decU bs := by rw [← HQ.out, decG, if_neg HB.out, if_neg hlt]
            have h9 : k ≠ 9 := by have := HB.out; omega
            have HZ := hid (step_lt (x := x) HA.out)
            have HN := hid hn
            have H2 := hid h2
            clear hn h2
            generalize a + x % 128 * 2 ^ (7 * k) = z at HN HZ ⊢
            go_wp2_with fail
            go_roundw
            case rel => exact ⟨k + 1, z, r, by omega, HZ.out, rfl, by go_num, HN.out, fun y hy => hb y (by simp [hy]), H2.out⟩
            case measure => simp [intOf]; omega

def i64V (v : Int) : Value := .int .i64 v
set_option maxHeartbeats 4000000 in
theorem rd_signed (w0 w : World) (R : Asr) (S : SlV) (all : List Nat) (g : Nat) (bs : List Nat) (h : Hold w0 w (rdA S all g bs * R)) (hS : Still w0 R S all) (hb : ∀ x ∈ bs, x < 256) :
    Calls Try.prog 37 #[.pointer (some ⟨g, 0, none⟩)] w (RdPost w0 R S all g i64V (decS bs)) := by
  have HU := hid (rd_unsigned w0 w R S all g bs h hS hb)
  clear h hS
  go_enter Try.func37, Try.ntmps37
  go_wp2_with fail
  refine HU.out.mono ?_
  intro e w2 hp
  clear HU
  cases hu : decU bs with
  | none =>
    rw [hu] at hp
    obtain ⟨rfl, h2⟩ := hp
    have hd : decS bs = none := by unfold decS; rw [hu]; rfl
    have HD := hid hd
    clear hu hd
    go_wp2_with fail
    exact ⟨rfl, rdPost_none HD.out h2⟩
  | some y =>
    obtain ⟨v, r⟩ := y
    rw [hu] at hp
    obtain ⟨he, h2⟩ := hp
    replace he : e = .returned (.int .u64 (v : Int)) := he
    subst he
    have hv := (decU_inv hb hu).1
    have hd : decS bs = some (zag v, r) := by unfold decS; rw [hu]; rfl
    have HD := hid hd
    have H2 := hid h2
    clear hu hd h2
    by_cases ho : v % 2 = 1
    · have e1 : ((v : Int) % 2 == 1) = true := by simp; omega
      have ez : zag v = -((v / 2 : Nat) : Int) - 1 := by unfold zag; rw [if_pos ho]
      rw [ez] at HD
      have eb := bits_not (x := (v : Int) / 2) (by unfold I64; omega)
      clear ho ez
      go_wp2_with fail
      go_ret
      exact rdPost_some (val := i64V) HD.out H2.out
    · have e1 : ((v : Int) % 2 == 1) = false := by simp; omega
      have ez : zag v = ((v / 2 : Nat) : Int) := by unfold zag; rw [if_neg ho]
      rw [ez] at HD
      clear ho ez
      go_wp2_with fail
      go_ret
      exact rdPost_some (val := i64V) HD.out H2.out
end Go.Proofs.Ytipafegiobnkpaa
