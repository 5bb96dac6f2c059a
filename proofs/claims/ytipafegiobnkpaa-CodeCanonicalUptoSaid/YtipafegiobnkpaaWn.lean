/- Numbers are appended to bytes: of the program and of the reference. -/
import Derived.Test.YtipafegiobnkpaaApp
import Derived.Test.YtipafegiobnkpaaC5
namespace Go.Proofs.Ytipafegiobnkpaa
open Go.RowKit
set_option linter.unusedVariables false

theorem parts5 {oi : Option TypeInfo} {z : Value} {s b : Nat} (h : oi.map (fun i => (i.zero, i.size, i.bytes)) = some (some z, s, b)) : ∃ i, oi = some i ∧ i.zero = some z ∧ i.size = s ∧ i.bytes = b := by
  cases oi with
  | none => cases h
  | some i =>
    simp only [Option.map_some, Option.some.injEq, Prod.mk.injEq] at h
    exact ⟨i, rfl, h.1, h.2.1, h.2.2⟩
theorem getD_atI {xs : List Int} {j : Nat} (h : j < xs.length) : xs.getD j 0 = xs[j] := by simp [List.getD, List.getElem?_eq_getElem h]
def bv (bs : List Nat) : List Value := bs.map fun (x : Nat) => Value.int .u8 (x : Int)
theorem bv_app (a b : List Nat) : bv (a ++ b) = bv a ++ bv b := List.map_append ..
theorem bv_len (a : List Nat) : (bv a).length = a.length := List.length_map ..
theorem info_u8 : (Try.prog.info? 5).map (fun i => (i.zero, i.size, i.bytes)) = some (some (.int .u8 0), 1, 1) := by kernel_rfl
abbrev bufA (v : Value) (bs : List Nat) : Asr := rowS 5 1 v bs.length (bv bs)
theorem bufSnoc {w0 w : World} {R : Asr} {A : Option Addr} {c : Nat} {bs : List Nat} {x : Nat} (h : Hold w0 w (rowS 5 1 (.slice A (bs.length + 1) c) (bs.length + 1) (bv bs ++ [.int .u8 (x : Int)]) * R)) : Hold w0 w (bufA (.slice A (bs ++ [x]).length c) (bs ++ [x]) * R) := by
  unfold bufA
  rw [bv_app, List.length_append]
  exact h
set_option maxRecDepth 8000 in
set_option maxHeartbeats 4000000 in
theorem rf_unsigned (w0 w : World) (R : Asr) (v : Value) (bs : List Nat) (n : Nat) (h : Hold w0 w (bufA v bs * R)) (hn : n < 18446744073709551616) (hb : bs.length ≤ 900000000) :
    Calls Try.prog 45 #[v, .int .u64 (n : Int)] w fun e w' => ∃ v', e = .returned v' ∧ Hold w0 w' (bufA v' (bs ++ encU n) * R) := by
  obtain ⟨A, c, rfl⟩ := h.rowSForm
  obtain ⟨i8, hi8, hz0, hz1, hz2⟩ := parts5 info_u8
  go_enter Try.func45, Try.ntmps45
  go_wp2_with fail
  go_loopw [0, 1] (fun b v wr => ∃ (A : Option Addr) (c : Nat) (bs' : List Nat) (n' : Nat), b = .slice A bs'.length c ∧ v = .int .u64 (n' : Int) ∧ bs' ++ encU n' = bs ++ encU n ∧ n' < 18446744073709551616 ∧ Hold w0 wr (bufA (.slice A bs'.length c) bs' * R)) (fun _ v _ => (intOf v).toNat)
  case atStart => exact ⟨A, c, bs, n, rfl, rfl, rfl, hn, h⟩
  case round =>
    clear h
    obtain ⟨A, c, bs', n', rfl, rfl, heq, hn', h⟩ := hrel
    have hl := congrArg List.length heq
    rw [List.length_append, List.length_append] at hl
    have h10 := encU_len10 hn
    have hlen : bs'.length ≤ 900000010 := by omega
    clear hl h10
    by_cases hlt : n' < 128
    · have e1 : decide ((128 : Int) ≤ (n' : Int)) = false := decide_eq_false (by omega)
      rw [encU_lt hlt] at heq
      go_wp2_with (at_builtin; refine wpList_app rfl _ _ 31 rfl 5 i8 (.int .u8 0) 1 1 Try.underlying31 hi8 hz0 hz1 hz2 rfl (by decide) (.slice A bs'.length c) bs'.length (bv bs') [.int .u8 (n' : Int)] _ rfl h _ rfl rfl rfl rfl (by omega) (by decide) ?_)
      intro A2 c2 w2 h2
      have h3 := bufSnoc h2
      rw [heq] at h3
      have hl2 := congrArg List.length heq
      rw [List.length_append] at hl2
      rw [show bs'.length + 1 = (bs ++ encU n).length from hl2]
      generalize Value.slice A2 (bs ++ encU n).length c2 = v2 at h3 ⊢
      clear h h2 hl2 heq
      go_wp2_with fail
      go_ret
      exact ⟨v2, rfl, h3⟩
    · have e1 : decide ((128 : Int) ≤ (n' : Int)) = true := decide_eq_true (by omega)
      rw [encU_ge hlt] at heq
      have HQ := hid heq
      clear heq
      go_wp2_with (at_builtin; refine wpList_app rfl _ _ 31 rfl 5 i8 (.int .u8 0) 1 1 Try.underlying31 hi8 hz0 hz1 hz2 rfl (by decide) (.slice A bs'.length c) bs'.length (bv bs') [.int .u8 ((n' % 128 + 128 : Nat) : Int)] _ rfl h _ rfl rfl rfl rfl (by omega) (by decide) ?_)
      intro A2 c2 w2 h2
      have h3 := bufSnoc h2
      clear h h2
      go_wp2_with fail
      go_roundw
      case rel => exact ⟨A2, c2, bs' ++ [n' % 128 + 128], n' / 128, by rw [List.length_append]; rfl, by go_num, by rw [List.append_assoc]; exact HQ.out, by omega, h3⟩
      case measure => simp [intOf]; omega
theorem zig_neg {n : Int} (h : n < 0) : (zig n : Int) = -(n + 1) * 2 + 1 := by unfold zig; rw [if_pos h]; omega
theorem zig_pos {n : Int} (h : ¬ n < 0) : (zig n : Int) = n * 2 := by unfold zig; rw [if_neg h]; omega
set_option maxRecDepth 8000 in
set_option maxHeartbeats 4000000 in
theorem rf_signed (w0 w : World) (R : Asr) (v : Value) (bs : List Nat) (n : Int) (h : Hold w0 w (bufA v bs * R)) (hn : I64 n) (hb : bs.length ≤ 900000000) :
    Calls Try.prog 44 #[v, .int .i64 n] w fun e w' => ∃ v', e = .returned v' ∧ Hold w0 w' (bufA v' (bs ++ encS n) * R) := by
  have hz := zig_lt hn
  unfold I64 at hn
  unfold encS
  by_cases h0 : n < 0
  · have e1 : decide ((0 : Int) ≤ n) = false := decide_eq_false (by omega)
    have ez := zig_neg h0
    have EZ := hid ez
    clear ez
    go_enter Try.func44, Try.ntmps44
    go_wp2_with fail
    rw [show 2 * -(n + 1) + 1 = ((zig n : Nat) : Int) by rw [EZ.out]; omega]
    refine (rf_unsigned w0 w R v bs (zig n) h hz hb).mono ?_
    rintro e w2 ⟨v2, rfl, h2⟩
    clear h EZ e1
    go_wp2_with fail
    go_ret
    exact ⟨v2, rfl, h2⟩
  · have e1 : decide ((0 : Int) ≤ n) = true := decide_eq_true (by omega)
    have ez := zig_pos h0
    have EZ := hid ez
    clear ez
    go_enter Try.func44, Try.ntmps44
    go_wp2_with fail
    rw [show 2 * n = ((zig n : Nat) : Int) by rw [EZ.out]; omega]
    refine (rf_unsigned w0 w R v bs (zig n) h hz hb).mono ?_
    rintro e w2 ⟨v2, rfl, h2⟩
    clear h EZ e1
    go_wp2_with fail
    go_ret
    exact ⟨v2, rfl, h2⟩
theorem bits_or128 (n : Nat) : bits BinOp.or IntKind.u8 ((n : Int) % 128) 128 = ((n % 128 + 128 : Nat) : Int) := by
  have h : ∀ x : Fin 128, bits BinOp.or IntKind.u8 ((x.val : Nat) : Int) 128 = ((x.val + 128 : Nat) : Int) := by decide
  exact h ⟨n % 128, Nat.mod_lt _ (by omega)⟩
abbrev wrA (g : Nat) (bs : List Nat) : Asr := Asr.ex fun v => blkA 49 g #[v] * bufA v bs
theorem wrOpen {w0 w : World} {R : Asr} {g : Nat} {bs : List Nat} (h : Hold w0 w (wrA g bs * R)) : ∃ A c, Hold w0 w (blkA 49 g #[.slice A bs.length c] * (bufA (.slice A bs.length c) bs * R)) := by
  obtain ⟨v, h⟩ := h.exOpen
  have h := h.part
  obtain ⟨A, c, rfl⟩ := h.drop.rowSForm
  exact ⟨A, c, h⟩
theorem wrClose {w0 w : World} {R : Asr} {g : Nat} {v : Value} {bs : List Nat} (h : Hold w0 w (blkA 49 g #[v] * (bufA v bs * R))) : Hold w0 w (wrA g bs * R) := Hold.exClose h.join
/-- The end of an append: the new slice is laid in the writer. -/
theorem wrSnoc {w0 w : World} {R : Asr} {g : Nat} {A : Option Addr} {c : Nat} {v : Value} {bs : List Nat} {x : Nat} (h : Hold w0 w (rowS 5 1 (.slice A (bs.length + 1) c) (bs.length + 1) (bv bs ++ [.int .u8 (x : Int)]) * (blkA 49 g #[v] * R))) : Hold w0 (w.setCell ⟨g, 0, none⟩ (.slice A (bs.length + 1) c)) (wrA g (bs ++ [x]) * R) := by
  have h2 := (bufSnoc h).swap.setBlk 0 (.slice A (bs.length + 1) c)
  rw [List.length_append] at h2
  exact wrClose h2
set_option maxRecDepth 8000 in
set_option maxHeartbeats 4000000 in
theorem wr_unsigned (w0 w : World) (R : Asr) (g : Nat) (bs : List Nat) (n : Nat) (h : Hold w0 w (wrA g bs * R)) (hn : n < 18446744073709551616) (hb : bs.length ≤ 900000000) :
    Calls Try.prog 19 #[.pointer (some ⟨g, 0, none⟩), .int .u64 (n : Int)] w fun e w' => e = .returned (.tuple #[]) ∧ Hold w0 w' (wrA g (bs ++ encU n) * R) := by
  obtain ⟨i8, hi8, hz0, hz1, hz2⟩ := parts5 info_u8
  go_enter Try.func19, Try.ntmps19
  go_wp2_with fail
  go_loopw [1] (fun v wr => ∃ (bs' : List Nat) (n' : Nat), v = .int .u64 (n' : Int) ∧ bs' ++ encU n' = bs ++ encU n ∧ n' < 18446744073709551616 ∧ Hold w0 wr (wrA g bs' * R)) (fun v _ => (intOf v).toNat)
  case atStart => exact ⟨bs, n, rfl, rfl, hn, h⟩
  case round =>
    clear h
    obtain ⟨bs', n', rfl, heq, hn', h⟩ := hrel
    have hl := congrArg List.length heq
    rw [List.length_append, List.length_append] at hl
    have h10 := encU_len10 hn
    have hlen : bs'.length ≤ 900000010 := by omega
    clear hl h10
    obtain ⟨A, c, h1⟩ := wrOpen h
    have c0 := h1.blk.some_ (i := 0) rfl
    have h2 := h1.swap
    clear h h1
    by_cases hlt : n' < 128
    · have e1 : decide ((128 : Int) ≤ (n' : Int)) = false := decide_eq_false (by omega)
      rw [encU_lt hlt] at heq
      go_wp2_with (at_builtin; refine wpList_app rfl _ _ 31 rfl 5 i8 (.int .u8 0) 1 1 Try.underlying31 hi8 hz0 hz1 hz2 rfl (by decide) (.slice A bs'.length c) bs'.length (bv bs') [.int .u8 (n' : Int)] _ rfl h2 _ rfl rfl rfl rfl (by omega) (by decide) ?_)
      intro A2 c2 w2 h3
      have z0 := h3.swap.blk.frozen 0
      have k0 := h3.swap.blk.some_ (i := 0) rfl
      have h4 := hid (wrSnoc h3)
      rw [heq] at h4
      clear h2 h3 heq
      go_wp2_with fail
      first | go_end0 | go_ret
      exact ⟨rfl, h4.out⟩
    · have e1 : decide ((128 : Int) ≤ (n' : Int)) = true := decide_eq_true (by omega)
      rw [encU_ge hlt] at heq
      have HQ := hid heq
      have eb := bits_or128 n'
      clear heq
      go_wp2_with (at_builtin; refine wpList_app rfl _ _ 31 rfl 5 i8 (.int .u8 0) 1 1 Try.underlying31 hi8 hz0 hz1 hz2 rfl (by decide) (.slice A bs'.length c) bs'.length (bv bs') [.int .u8 ((n' % 128 + 128 : Nat) : Int)] _ rfl h2 _ rfl rfl rfl rfl (by omega) (by decide) ?_)
      intro A2 c2 w2 h3
      have z0 := h3.swap.blk.frozen 0
      have k0 := h3.swap.blk.some_ (i := 0) rfl
      have h4 := hid (wrSnoc h3)
      clear h2 h3
      go_wp2_with fail
      go_roundw
      case rel => exact ⟨bs' ++ [n' % 128 + 128], n' / 128, by go_num, by rw [List.append_assoc]; exact HQ.out, by omega, h4.out⟩
      case measure => simp [intOf]; omega
theorem bits_not {x : Int} (h : I64 x) : bits BinOp.xor IntKind.i64 (-1) x = -x - 1 := by
  unfold I64 at h
  show IntKind.i64.wrap (((BitVec.ofInt 64 (-1) ^^^ BitVec.ofInt 64 x).toNat : Nat) : Int) = -x - 1
  have h1 : BitVec.ofInt 64 (-1) = BitVec.allOnes 64 := by decide
  rw [h1, BitVec.allOnes_xor, BitVec.toNat_not, BitVec.toNat_ofInt]
  simp only [IntKind.wrap, IntKind.bits, IntKind.signed]
  simp
  omega
theorem take_snoc {α : Type} (l : List α) {k : Nat} (hk : k < l.length) : l.take (k + 1) = l.take k ++ [l[k]] := by
  rw [List.take_add_one, List.getElem?_eq_getElem hk]; rfl
theorem encI_snoc (l : List Int) (x : Int) : encI (l ++ [x]) = encI l ++ encS x := by unfold encI; simp
theorem encI_len (l : List Int) (h : ∀ x ∈ l, I64 x) : (encI l).length ≤ 10 * l.length := by
  induction l with
  | nil => simp [encI]
  | cons x l ih =>
    have h1 := encU_len10 (zig_lt (h x (by simp)))
    have h2 := ih (fun y hy => h y (by simp [hy]))
    unfold encI encS at *
    rw [List.flatMap_cons, List.length_append, List.length_cons]; omega
set_option maxRecDepth 8000 in
set_option maxHeartbeats 4000000 in
theorem wr_signed (w0 w : World) (R : Asr) (g : Nat) (bs : List Nat) (A : Option Addr) (n c : Nat) (xs : List Int) (h : Hold w0 w (wrA g bs * R)) (hr : ∀ w' bs', Hold w0 w' (wrA g bs' * R) → ∃ b, Reads w' b A n (xs.map (Value.int .i64))) (hx : ∀ x ∈ xs, I64 x) (hb : bs.length + 10 * n ≤ 900000000) :
    Calls Try.prog 24 #[.pointer (some ⟨g, 0, none⟩), .slice A n c] w fun e w' => e = .returned (.tuple #[]) ∧ Hold w0 w' (wrA g (bs ++ encI xs) * R) := by
  have hl : xs.length = n := by obtain ⟨b, hb⟩ := hr w bs h; simpa using hb.len
  have HR := hid hr
  have HX := hid hx
  clear hr hx
  go_enter Try.func24, Try.ntmps24
  go_wp2_with fail
  go_loopw [8] (fun v wr => ∃ k : Nat, k ≤ n ∧ v = .int .i64 (k : Int) ∧ Hold w0 wr (wrA g (bs ++ encI (xs.take k)) * R)) (fun v _ => n - (intOf v).toNat)
  case atStart => exact ⟨0, Nat.zero_le _, rfl, by simpa [encI] using h⟩
  case round =>
    clear h
    obtain ⟨k, hk, rfl, h⟩ := hrel
    by_cases hlt : k < n
    · have e1 : decide ((k : Int) < (n : Int)) = true := decide_eq_true (by omega)
      obtain ⟨b, hrd⟩ := HR.out _ _ h
      obtain ⟨ad, rfl, _, hcell⟩ := hrd.numAt hlt
      have hkl : k < xs.length := by omega
      obtain ⟨x, hxe⟩ : ∃ x, x = xs[k] := ⟨_, rfl⟩
      rw [getD_atI hkl, ← hxe] at hcell
      have hxi : I64 x := by rw [hxe]; exact HX.out _ (List.getElem_mem hkl)
      have hz := zig_lt hxi
      have e5 : encI (xs.take (k + 1)) = encI (xs.take k) ++ encU (zig x) := by rw [take_snoc xs hkl, encI_snoc, ← hxe]; rfl
      have E5 := hid e5
      have hlen : (bs ++ encI (xs.take k)).length ≤ 900000000 := by
        have := encI_len (xs.take k) (fun y hy => HX.out y (List.mem_of_mem_take hy))
        rw [List.length_append]
        rw [List.length_take] at this
        omega
      have HXI := hid hxi
      clear hrd hxe e5 hxi
      by_cases h0 : x < 0
      · have e2 : decide (x < (0 : Int)) = true := decide_eq_true h0
        have ez := hid (zig_neg h0)
        have ex := bits_not HXI.out
        have HH := hid h
        clear h
        have i0 := HXI.out.1
        have i1 := HXI.out.2
        go_wp2_with fail
        rw [show IntKind.u64.wrap (IntKind.u64.wrap (IntKind.u64.wrap (-x - 1) * 2) + 1) = ((zig x : Nat) : Int) by rw [ez.out, IntKind.wrap_u64, IntKind.wrap_u64, IntKind.wrap_u64]; omega]
        refine (wr_unsigned w0 wr R g _ (zig x) HH.out hz hlen).mono ?_
        rintro e w2 ⟨rfl, h2⟩
        rw [List.append_assoc, ← E5.out] at h2
        clear HH ex E5
        go_wp2_with fail
        go_roundw
        case rel => exact ⟨k + 1, by omega, by go_num, h2⟩
        case measure => simp [intOf]; omega
      · have e2 : decide (x < (0 : Int)) = false := decide_eq_false h0
        have ez := hid (zig_pos h0)
        have i0 := HXI.out.1
        have i1 := HXI.out.2
        go_wp2_with fail
        rw [show x * 2 = ((zig x : Nat) : Int) by rw [ez.out]]
        refine (wr_unsigned w0 wr R g _ (zig x) h hz hlen).mono ?_
        rintro e w2 ⟨rfl, h2⟩
        rw [List.append_assoc, ← E5.out] at h2
        clear h E5
        go_wp2_with fail
        go_roundw
        case rel => exact ⟨k + 1, by omega, by go_num, h2⟩
        case measure => simp [intOf]; omega
    · obtain rfl : k = n := by omega
      have e1 : decide ((k : Int) < (k : Int)) = false := by simp
      rw [List.take_of_length_le (by omega)] at h
      go_wp2_with fail
      first | go_end0 | go_ret
      exact ⟨rfl, h⟩
end Go.Proofs.Ytipafegiobnkpaa
