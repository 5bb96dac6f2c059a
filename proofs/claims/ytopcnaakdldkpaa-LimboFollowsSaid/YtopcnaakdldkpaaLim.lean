/- limbo: New, Add, Blocks, Versions. -/
import Derived.Test.YtopcnaakdldkpaaLoc
import Derived.Test.YtopcnaakdldkpaaApp
import Derived.Test.YtopcnaakdldkpaaCp
namespace Go.Proofs.Ytopcnaakdldkpaa
open Go.RowKit
set_option linter.unusedVariables false

abbrev liC (v : Value) : Array Value := #[.int .i64 20, .int .i64 4, .int .i64 1, .int .i64 3, .int .i64 2, .int .i64 1, .int .i64 0, .int .i64 1, .int .i64 1, .int .i64 0, .int .i64 0, .int .i64 0, .bool false, v]
abbrev cfC : Array Value := #[.int .i64 20, .int .i64 4, .int .i64 1, .int .i64 3, .int .i64 2, .int .i64 1, .int .i64 0, .int .i64 1, .int .i64 1, .int .i64 0, .int .i64 0, .int .i64 0, .bool false]
theorem cfC_val : cfH.val = .agg cfC := rfl
def ents (es : List (Int × Int)) : List Value := es.flatMap fun e => [.int .i64 e.1, .int .i64 e.2]
theorem ents_snoc (es : List (Int × Int)) (a b : Int) : ents (es ++ [(a, b)]) = ents es ++ [.int .i64 a, .int .i64 b] := by simp [ents]
def limA (g : Nat) (es : List (Int × Int)) : Asr := Asr.ex fun v => blkA 82 g (liC v) * rowS 85 2 v es.length (ents es)
theorem limOpen {w0 w : World} {R : Asr} {g : Nat} {es : List (Int × Int)} (h : Hold w0 w (limA g es * R)) : ∃ A c, Hold w0 w (blkA 82 g (liC (.slice A es.length c)) * (rowS 85 2 (.slice A es.length c) es.length (ents es) * R)) := by
  obtain ⟨v, h⟩ := h.exOpen
  obtain ⟨A, c, rfl⟩ := h.part.drop.rowSForm
  exact ⟨A, c, h.part⟩
theorem limClose {w0 w : World} {R : Asr} {g : Nat} {v : Value} {es : List (Int × Int)} (h : Hold w0 w (blkA 82 g (liC v) * (rowS 85 2 v es.length (ents es) * R))) : Hold w0 w (limA g es * R) := Hold.exClose (x := v) h.join
theorem info_ent : (Try.prog.info? 85).map (fun i => (i.zero, i.size, i.bytes)) = some (some (.agg #[.int .i64 0, .int .i64 0]), 2, 16) := by kernel_rfl
theorem parts5L {oi : Option TypeInfo} {z : Value} {s b : Nat} (h : oi.map (fun i => (i.zero, i.size, i.bytes)) = some (some z, s, b)) : ∃ i, oi = some i ∧ i.zero = some z ∧ i.size = s ∧ i.bytes = b := by
  cases oi with
  | none => cases h
  | some i =>
    simp only [Option.map_some, Option.some.injEq, Prod.mk.injEq] at h
    exact ⟨i, rfl, h.1, h.2.1, h.2.2⟩
set_option maxRecDepth 8000 in
theorem lim_new (w0 w : World) (R : Asr) (h : Hold w0 w R) : Calls Try.prog 9 #[cfH.val] w fun e w' => ∃ g, e = .returned (.pointer (some ⟨g, 0, none⟩)) ∧ Hold w0 w' (limA g [] * R) := by
  have h1 := (h.newBlk (t := 32) (cs := cfC))
  have h2 := (h1.drop.nilRowS 85 2).newBlk (t := 82) (cs := liC (.slice none 0 0))
  have h3 : Hold w0 _ (limA _ [] * R) := limClose (es := []) h2
  simp only [World.size_alloc] at h3
  have H2 := hid h3
  have HB := hid h1.blk
  rw [cfC_val]
  clear h h1 h2 h3
  go_enter Try.func9, Try.ntmps9
  go_wp2_with (refine wpList_load rfl 32 _ rfl w.heap.size _ _ rfl Try.isAgg32 _ Try.sizeOf32 HB.out rfl ?_)
  go_ret
  exact ⟨_, rfl, H2.out⟩
/-- The blocks among the numbers. -/
def keepB (l : List Int) : List Int := l.filter fun b => 0 ≤ lcls b
theorem keepB_snoc (l : List Int) (b : Int) : keepB (l ++ [b]) = if 0 ≤ lcls b then keepB l ++ [b] else keepB l := by
  unfold keepB
  rw [List.filter_append]
  by_cases h : 0 ≤ lcls b <;> simp [h]
def addE (es : List (Int × Int)) (v : Int) (l : List Int) : List (Int × Int) := es ++ (keepB l).map fun b => (b, v)
set_option maxRecDepth 8000 in
set_option maxHeartbeats 4000000 in
theorem lim_add (w0 w : World) (R : Asr) (g : Nat) (es : List (Int × Int)) (v : Int) (A : Option Addr) (n c : Nat) (l : List Int) (h : Hold w0 w (limA g es * R)) (hS : ∀ w' q, Hold w0 w' (q * R) → ∃ b, Reads w' b A n (l.map (Value.int .i64))) (hI : ∀ b ∈ l, I64b b) (hn : n ≤ 1000) (he : es.length ≤ 1000) :
    Calls Try.prog 12 #[.pointer (some ⟨g, 0, none⟩), .int .i64 v, .slice A n c] w fun e w' => e = .returned (.tuple #[]) ∧ Hold w0 w' (limA g (addE es v l) * R) := by
  obtain ⟨iE, hiE, hz0, hz1, hz2⟩ := parts5L info_ent
  have hl : l.length = n := by
    obtain ⟨b, hr⟩ := hS _ _ h
    simpa using hr.len
  have HS := hid hS
  have HI := hid hI
  have HL := hid hl
  clear hS hI hl
  go_enter Try.func12, Try.ntmps12
  go_wp2_with fail
  go_loopw [12] (fun i wr => ∃ k : Nat, k ≤ n ∧ i = .int .i64 (k : Int) ∧ Hold w0 wr (limA g (addE es v (l.take k)) * R)) (fun i _ => n - (intOf i).toNat)
  case atStart => exact ⟨0, Nat.zero_le _, rfl, by simpa [addE, keepB] using h⟩
  case round =>
    clear h
    obtain ⟨k, hk, rfl, h⟩ := hrel
    by_cases hlt : k < n
    · have e1 : decide ((k : Int) < (n : Int)) = true := decide_eq_true (by omega)
      have e1' : decide (k < n) = true := decide_eq_true hlt
      have hkl : k < l.length := by rw [HL.out]; exact hlt
      obtain ⟨x, hx⟩ : ∃ x, x = l[k] := ⟨_, rfl⟩
      obtain ⟨b, hr⟩ := HS.out _ _ h
      obtain ⟨ad, hA, hab, hc0⟩ := hr.cellAt hlt
      have hcell : wr.cell? (ad.add k) = some (.int .i64 x) := by rw [hc0, hx]; simp
      clear hc0 hab
      have ht : l.take (k + 1) = l.take k ++ [x] := by rw [hx]; exact (List.take_append_getElem hkl).symm
      have hxI : I64b x := by rw [hx]; exact HI.out _ (List.getElem_mem hkl)
      have hle : (addE es v (l.take k)).length ≤ 2000 := by
        unfold addE keepB
        rw [List.length_append, List.length_map]
        have := List.length_filter_le (fun b => decide (0 ≤ lcls b)) (l.take k)
        rw [List.length_take] at this
        omega
      have HT := hid ht
      have k0 : (0 : Int) ≤ (k : Int) := by omega
      have k1 : (k : Int) < (n : Int) := by omega
      subst hA
      obtain ⟨A1, c1, h1⟩ := limOpen h
      generalize hes : addE es v (l.take k) = es1 at *
      have HES := hid hes
      clear h hr ht hx hes
      have q13 := h1.blk.some_ (i := 13) rfl
      go_wp2_with (refine wpList_loadPart rfl 32 _ rfl g 0 _ _ cfC rfl Try.isAgg32 _ Try.sizeOf32 h1.blk rfl rfl ?_)
      refine (class_any _ x hxI).mono ?_
      rintro e w1 ⟨rfl, hc1⟩
      have h2 := h1.chg0 hc1
      clear h1 hc1 q13 hcell
      by_cases hp : 0 ≤ lcls x
      · have e2 : decide (0 ≤ lcls x) = true := decide_eq_true hp
        have q13 := h2.blk.some_ (i := 13) rfl
        have h3 := h2.swap
        go_wp2_with (at_builtin; refine wpList_app rfl _ _ 80 rfl 85 iE (.agg #[.int .i64 0, .int .i64 0]) 2 16 Try.underlying80 hiE hz0 hz1 hz2 rfl (by decide) (.slice A1 es1.length c1) es1.length (ents es1) [.int .i64 x, .int .i64 v] _ rfl h3 _ rfl rfl rfl rfl (by omega) (by decide) ?_)
        intro A2 c2 w3 h4
        have q14 := h4.drop.blk.some_ (i := 13) rfl
        have z14 := h4.drop.blk.frozen 13
        have h5 := h4.swap.setBlk 13 (.slice A2 (es1.length + 1) c2)
        have H5 := hid h5
        clear h2 h3 h4 h5 q13
        go_wp2_with fail
        go_roundw
        case rel =>
          refine ⟨k + 1, by omega, by go_num, ?_⟩
          have e3 : addE es v (l.take (k + 1)) = es1 ++ [(x, v)] := by
            rw [HT.out, ← HES.out]
            unfold addE
            rw [keepB_snoc, if_pos hp, List.map_append, List.append_assoc]; rfl
          rw [e3]
          refine limClose (v := .slice A2 (es1.length + 1) c2) ?_
          rw [ents_snoc, List.length_append]
          exact H5.out
        case measure => simp [intOf]; omega
      · have e2 : decide (0 ≤ lcls x) = false := decide_eq_false hp
        have H2 := hid (limClose h2)
        clear h2
        go_wp2_with fail
        go_roundw
        case rel =>
          refine ⟨k + 1, by omega, by go_num, ?_⟩
          have e3 : addE es v (l.take (k + 1)) = es1 := by
            rw [HT.out, ← HES.out]
            unfold addE
            rw [keepB_snoc, if_neg (by omega)]
          rw [e3]
          exact H2.out
        case measure => simp [intOf]; omega
    · obtain rfl : k = n := by omega
      have e1 : decide ((k : Int) < (k : Int)) = false := decide_eq_false (by omega)
      rw [List.take_of_length_le (by rw [HL.out]; exact Nat.le_refl _)] at h
      have H := hid h
      clear h
      go_wp2_with fail
      go_end0
      exact ⟨rfl, H.out⟩
end Go.Proofs.Ytopcnaakdldkpaa
