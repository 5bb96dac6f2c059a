/- Numbers are read from bytes: of the reference. -/
import Derived.Test.YtipafegiobnkpaaRn
import Derived.Deep.DeepCutAuto
import Derived.Deep.CutBlock
namespace Go.Proofs.Ytipafegiobnkpaa
open Go.RowKit
set_option linter.unusedVariables false

/-- The reference's reader: broken (none), or ahead of the bytes r, the last ones of all. -/
def AtR (n : Nat) (all : List Nat) (o : Option (List Nat)) (x : Nat × Bool) : Prop := x.1 ≤ n ∧ match o with
  | none => x.2 = true
  | some r => x.2 = false ∧ r = all.drop x.1
def rrA (S : SlV) (all : List Nat) (g : Nat) (o : Option (List Nat)) : Asr := Asr.ex fun x : { x : Nat × Bool // AtR S.n all o x } => blkA 82 g #[S.v, .int .i64 (x.1.1 : Int), .bool x.1.2]
section
variable {w0 w : World} {R : Asr} {S : SlV} {all : List Nat} {g : Nat} {o : Option (List Nat)}
theorem rrOpen (h : Hold w0 w (rrA S all g o * R)) : ∃ k b, AtR S.n all o (k, b) ∧ Hold w0 w (blkA 82 g #[S.v, .int .i64 (k : Int), .bool b] * R) := by
  obtain ⟨⟨⟨k, b⟩, h1⟩, h⟩ := h.exOpen
  exact ⟨k, b, h1, h⟩
theorem rrClose {k : Nat} {b : Bool} (h1 : AtR S.n all o (k, b)) (h : Hold w0 w (blkA 82 g #[S.v, .int .i64 (k : Int), .bool b] * R)) : Hold w0 w (rrA S all g o * R) := Hold.exClose (x := ⟨(k, b), h1⟩) h
end
set_option maxRecDepth 8000 in
set_option maxHeartbeats 4000000 in
theorem rr_unsigned_bad (w0 w : World) (R : Asr) (S : SlV) (all : List Nat) (g : Nat) (h : Hold w0 w (rrA S all g none * R)) :
    Calls Try.prog 43 #[.pointer (some ⟨g, 0, none⟩)] w fun e w' => e = .returned (.int .u64 0) ∧ Hold w0 w' (rrA S all g none * R) := by
  obtain ⟨⟨A, n, c⟩, hS⟩ : ∃ T, T = S := ⟨S, rfl⟩
  subst hS
  obtain ⟨k, b, h1, h2⟩ := rrOpen h
  obtain ⟨hk, hb⟩ := h1
  simp only at hb hk
  subst hb
  have HK := hid hk
  clear h hk
  go_enter Try.func43, Try.ntmps43
  go_wp2_with fail
  go_loopw [3, 4] (fun _ _ wr => wr = w) (fun _ _ _ => 0)
  case atStart => rfl
  case round =>
    subst hrel
    have c2 := h2.blk.some_ (i := 2) rfl
    have z2 := h2.blk.frozen 2
    have c1 := h2.blk.some_ (i := 1) rfl
    have c0 := h2.blk.some_ (i := 0) rfl
    have H2 := hid h2
    clear h2
    go_wp2_with fail
    go_quiet (fail)
    have H3 := hid (rrClose (S := ⟨A, n, c⟩) (all := all) (o := none) (b := true) ⟨HK.out, rfl⟩ ((H2.out.drewN nq).setBlk 2 (.bool true)))
    clear H2
    go_wp2_with fail
    go_ret
    exact ⟨rfl, H3.out⟩
/-- What the reference's reader gives, broken or not. -/
def uR (o : Option (List Nat)) : Option (Nat × List Nat) := o.bind decU
def sR (o : Option (List Nat)) : Option (Int × List Nat) := o.bind decS
set_option maxRecDepth 8000 in
set_option maxHeartbeats 8000000 in
theorem rr_unsigned (w0 w : World) (R : Asr) (S : SlV) (all : List Nat) (g : Nat) (o : Option (List Nat)) (h : Hold w0 w (rrA S all g o * R)) (hS : Still w0 R S all) (hn : S.n ≤ 4611686018427387904) (hb : ∀ x ∈ all, x < 256) :
    Calls Try.prog 43 #[.pointer (some ⟨g, 0, none⟩)] w fun e w' => e = .returned (.int .u64 (((uR o).elim 0 (·.1) : Nat) : Int)) ∧ Hold w0 w' (rrA S all g ((uR o).map (·.2)) * R) := by
  cases o with
  | none => exact rr_unsigned_bad w0 w R S all g h
  | some r =>
  obtain ⟨⟨A, n, c⟩, hST⟩ : ∃ T, T = S := ⟨S, rfl⟩
  subst hST
  have HS := hid hS
  have HB := hid hb
  clear hS hb
  show Calls _ _ _ _ fun e w' => e = .returned (.int .u64 (((decU r).elim 0 (·.1) : Nat) : Int)) ∧ Hold w0 w' (rrA ⟨A, n, c⟩ all g ((decU r).map (·.2)) * R)
  simp only at hn
  go_enter Try.func43, Try.ntmps43
  go_wp2_with fail
  go_loopw [3, 4] (fun v i wr => ∃ (k a : Nat) (bs' : List Nat), k ≤ 9 ∧ a < 2 ^ (7 * k) ∧ v = .int .u64 (a : Int) ∧ i = .int .u64 (7 * (k : Int)) ∧ decG k a bs' = decU r ∧ Hold w0 wr (rrA ⟨A, n, c⟩ all g (some bs') * R)) (fun _ i _ => 70 - (intOf i).toNat)
  case atStart => exact ⟨0, 0, r, by omega, by decide, rfl, rfl, rfl, h⟩
  case round =>
    clear h
    obtain ⟨k, a, bs', hk, ha, rfl, rfl, heq, h⟩ := hrel
    have HQ := hid heq
    have HA := hid ha
    clear heq ha
    obtain ⟨p, bb, ⟨hp, hbb, hpd⟩, h2⟩ := rrOpen h
    simp only at hp hbb hpd
    subst hbb
    obtain ⟨b0, hrd⟩ := HS.out _ _ h
    have hal : all.length = n := by have := hrd.len; rw [bv_len] at this; exact this
    clear h
    have c2 := h2.blk.some_ (i := 2) rfl
    have z2 := h2.blk.frozen 2
    have c1 := h2.blk.some_ (i := 1) rfl
    have z1 := h2.blk.frozen 1
    have c0 : wr.cell? ⟨g, 0, none⟩ = some (.slice A n c) := h2.blk.some_ (i := 0) rfl
    have HP := hid (And.intro hpd hal)
    have H2 := hid h2
    clear h2 hpd hal
    cases bs' with
    | nil =>
      have e1 : ((p : Int) == (n : Int)) = true := by
        have h1 := congrArg List.length HP.out.1
        rw [List.length_drop, HP.out.2] at h1
        simp at h1 ⊢
        omega
      clear hrd
      have HN : Hid (decU r = none) := hid (by rw [← HQ.out]; rfl)
      go_wp2_with fail
      go_quiet (fail)
      have H3 := hid (rrClose (S := ⟨A, n, c⟩) (all := all) (o := none) (b := true) ⟨hp, rfl⟩ ((H2.out.drewN nq).setBlk 2 (.bool true)))
      clear H2
      go_wp2_with fail
      go_ret
      rw [HN.out]
      exact ⟨rfl, H3.out⟩
    | cons x t =>
      have hlt : p < n := by
        have h1 := congrArg List.length HP.out.1
        rw [List.length_drop, HP.out.2, List.length_cons] at h1
        omega
      have e1 : ((p : Int) == (n : Int)) = false := by simp; omega
      obtain ⟨ad, hA, hb9, hcell⟩ := hrd.cellAt hlt
      have hx? : all[p]? = some x := by
        have := congrArg (·[0]?) HP.out.1
        simpa using this.symm
      have hxl := (List.getElem?_eq_some_iff.1 hx?)
      obtain ⟨hxl1, hxl2⟩ := hxl
      replace hcell : wr.cell? (ad.add p) = some (.int .u8 (x : Int)) := by rw [hcell]; simp [bv, hxl2]
      have hx : x < 256 := HB.out x (by rw [← hxl2]; exact List.getElem_mem hxl1)
      simp only at hA
      subst hA
      clear hrd hb9 hx? hxl1 hxl2
      go_wp2_with fail
      go_quiet (fail)
      have h3 := H2.out.drewN nq
      have hc3 : (wr.drewN nq).cell? (ad.add p) = some (.int .u8 (x : Int)) := hcell
      generalize wr.drewN nq = w3 at h3 hc3 ⊢
      clear H2 c0 c1 c2 z1 z2 hcell
      have c0 : w3.cell? ⟨g, 0, none⟩ = some (.slice (some ad) n c) := h3.blk.some_ (i := 0) rfl
      have c1 := h3.blk.some_ (i := 1) rfl
      have H3 := hid h3
      clear h3
      have p0 : (0 : Int) ≤ (p : Int) := by omega
      have p1 : (p : Int) < (n : Int) := by omega
      go_wp2_with fail
      go_quiet (fail)
      have h4 := H3.out.drewN nq
      generalize w3.drewN nq = w4 at h4 ⊢
      clear H3 c0 c1 hc3
      have c1 := h4.blk.some_ (i := 1) rfl
      have z1 := h4.blk.frozen 1
      have h5 : Hold w0 (w4.setCell ⟨g, 1, none⟩ (.int .i64 ((p : Int) + 1))) (blkA 82 g #[SlV.v ⟨some ad, n, c⟩, .int .i64 ((p + 1 : Nat) : Int), .bool false] * R) := h4.setBlk 1 (.int .i64 ((p : Int) + 1))
      have H5 := hid h5
      have hpd : t = all.drop (p + 1) := by rw [← List.drop_drop, ← HP.out.1]; rfl
      have HPD := hid hpd
      clear h4 h5 hpd
      go_upto_region 7 with fail
      have h5 := H5.out
      generalize hW : World.setCell _ _ _ = W5 at h5 ⊢
      clear hW H5 c1 z1
      have z2 := h5.blk.frozen 2
      have c2 := h5.blk.some_ (i := 2) rfl
      have d1 : k = 9 → (7 * (k : Int) == 63) = true := fun h => by simp; omega
      have d1' : k ≠ 9 → (7 * (k : Int) == 63) = false := fun h => by simp; omega
      have d2 : 2 ≤ x → decide ((1 : Int) < (x : Int)) = true := fun h => decide_eq_true (by omega)
      have d2' : x < 2 → decide ((1 : Int) < (x : Int)) = false := fun h => decide_eq_false (by omega)
      have d3 : 0 < k → decide ((0 : Int) < 7 * (k : Int)) = true := fun h => decide_eq_true (by omega)
      have d3' : k = 0 → decide ((0 : Int) < 7 * (k : Int)) = false := fun h => decide_eq_false (by omega)
      have d4 : x = 0 → ((x : Int) == 0) = true := fun h => by simp; omega
      have d4' : x ≠ 0 → ((x : Int) == 0) = false := fun h => by simp; omega
      by_cases hbad : (x = 0 ∧ 0 < k) ∨ (k = 9 ∧ 2 ≤ x)
      · have HN : Hid (decU r = none) := hid (by rw [← HQ.out, decG, if_pos hbad])
        have hcs : ((7 * (k : Int) == 63) = true ∧ decide ((1 : Int) < (x : Int)) = true) ∨ ((7 * (k : Int) == 63) = true ∧ decide ((1 : Int) < (x : Int)) = false ∧ decide ((0 : Int) < 7 * (k : Int)) = true ∧ ((x : Int) == 0) = true) ∨ ((7 * (k : Int) == 63) = false ∧ decide ((0 : Int) < 7 * (k : Int)) = true ∧ ((x : Int) == 0) = true) := by
          by_cases h9 : k = 9
          · by_cases h2 : 2 ≤ x
            · exact .inl ⟨d1 h9, d2 h2⟩
            · exact .inr (.inl ⟨d1 h9, d2' (by omega), d3 (by omega), d4 (by omega)⟩)
          · exact .inr (.inr ⟨d1' h9, d3 (by omega), d4 (by omega)⟩)
        have H6 := hid (rrClose (S := ⟨some ad, n, c⟩) (all := all) (o := none) (b := true) ⟨hlt, rfl⟩ (h5.setBlk 2 (.bool true)))
        clear d1 d1' d2 d2' d3 d3' d4 d4' hbad h5
        rcases hcs with ⟨f1, f2⟩ | ⟨f1, f2, f3, f4⟩ | ⟨f1, f3, f4⟩
        all_goals
          go_wp2_with fail
          go_ret
          rw [HN.out]
          exact ⟨rfl, H6.out⟩
      · have hcs : ((7 * (k : Int) == 63) = true ∧ decide ((1 : Int) < (x : Int)) = false ∧ decide ((0 : Int) < 7 * (k : Int)) = true ∧ ((x : Int) == 0) = false) ∨ ((7 * (k : Int) == 63) = false ∧ decide ((0 : Int) < 7 * (k : Int)) = false) ∨ ((7 * (k : Int) == 63) = false ∧ decide ((0 : Int) < 7 * (k : Int)) = true ∧ ((x : Int) == 0) = false) := by
          by_cases h9 : k = 9
          · exact .inl ⟨d1 h9, d2' (by omega), d3 (by omega), d4' (by omega)⟩
          · by_cases h0 : k = 0
            · exact .inr (.inl ⟨d1' h9, d3' h0⟩)
            · exact .inr (.inr ⟨d1' h9, d3 (by omega), d4' (by omega)⟩)
        have hk7 : (0 : Int) ≤ 7 * (k : Int) := by omega
        have hk64 : 7 * (k : Int) ≤ 64 := by omega
        have HB2 := hid hbad
        have h6 := rrClose (S := ⟨some ad, n, c⟩) (all := all) (o := some t) (b := false) ⟨hlt, rfl, HPD.out⟩ h5
        have H6 := hid h6
        clear d1 d1' d2 d2' d3 d3' d4 d4' hbad h5 h6 c2 z2
        rcases hcs with ⟨f1, f2, f3, f4⟩ | ⟨f1, f3⟩ | ⟨f1, f3, f4⟩
        all_goals
          go_upto_if 67 with fail
          rw [or_step HA.out hk (fun h => by have := HB2.out; omega)]
          by_cases hlt2 : x < 128
          · have e9 : decide ((x : Int) < 128) = true := decide_eq_true (by omega)
            have HN : Hid (decU r = some (a + x % 128 * 2 ^ (7 * k), t)) := hid (by rw [← HQ.out, decG, if_neg HB2.out, if_pos hlt2])
            generalize a + x % 128 * 2 ^ (7 * k) = z at HN ⊢
            go_wp2_with fail
            go_ret
            rw [HN.out]
            exact ⟨rfl, H6.out⟩
          · have e9 : decide ((x : Int) < 128) = false := decide_eq_false (by omega)
            have HN : Hid (decG (k + 1) (a + x % 128 * 2 ^ (7 * k)) t = decU r) := hid (by rw [← HQ.out, decG, if_neg HB2.out, if_neg hlt2])
            have h9 : k ≠ 9 := by have := HB2.out; omega
            have HZ := hid (step_lt (x := x) HA.out)
            generalize a + x % 128 * 2 ^ (7 * k) = z at HN HZ ⊢
            go_wp2_with fail
            go_roundw
            case rel => exact ⟨k + 1, z, t, by omega, HZ.out, rfl, by simp [Int.mul_add], HN.out, H6.out⟩
            case measure => simp [intOf]; omega
set_option maxHeartbeats 4000000 in
theorem rr_signed (w0 w : World) (R : Asr) (S : SlV) (all : List Nat) (g : Nat) (o : Option (List Nat)) (h : Hold w0 w (rrA S all g o * R)) (hS : Still w0 R S all) (hn : S.n ≤ 4611686018427387904) (hb : ∀ x ∈ all, x < 256) (hor : ∀ r, o = some r → ∀ x ∈ r, x < 256) :
    Calls Try.prog 41 #[.pointer (some ⟨g, 0, none⟩)] w fun e w' => e = .returned (.int .i64 ((sR o).elim 0 (·.1))) ∧ Hold w0 w' (rrA S all g ((sR o).map (·.2)) * R) := by
  have HC := hid (rr_unsigned w0 w R S all g o h hS hn hb)
  have hv : (uR o).elim 0 (·.1) < 18446744073709551616 ∧ (sR o).elim 0 (·.1) = zag ((uR o).elim 0 (·.1)) ∧ (sR o).map (·.2) = (uR o).map (·.2) := by
    cases o with
    | none => exact ⟨by decide, rfl, rfl⟩
    | some r =>
      show (decU r).elim 0 (·.1) < _ ∧ (decS r).elim 0 (·.1) = zag ((decU r).elim 0 (·.1)) ∧ (decS r).map (·.2) = (decU r).map (·.2)
      unfold decS
      cases hu : decU r with
      | none => exact ⟨by decide, rfl, rfl⟩
      | some y => exact ⟨(decU_inv (v := y.1) (r := y.2) (hor r rfl) hu).1, rfl, rfl⟩
  obtain ⟨v, hve⟩ : ∃ v, v = (uR o).elim 0 (·.1) := ⟨_, rfl⟩
  rw [← hve] at HC hv
  have HV := hid hv
  have hv64 := hv.1
  clear h hS hve hv
  go_enter Try.func41, Try.ntmps41
  go_wp2_with fail
  refine HC.out.mono ?_
  rintro e w2 ⟨rfl, h2⟩
  clear HC
  by_cases ho : v % 2 = 1
  · have e1 : ((v : Int) % 2 == 0) = false := by simp; omega
    have ez : zag v = -((v : Int) / 2) - 1 := by unfold zag; rw [if_pos ho]; omega
    have EZ := hid ez
    have i0 : (v : Int) / 2 ≤ 9223372036854775807 := by omega
    have i1 : 0 ≤ (v : Int) / 2 := by omega
    clear ho ez
    go_wp2_with fail
    go_ret
    rw [HV.out.2.1, HV.out.2.2, EZ.out]
    exact ⟨rfl, h2⟩
  · have e1 : ((v : Int) % 2 == 0) = true := by simp; omega
    have ez : zag v = (v : Int) / 2 := by unfold zag; rw [if_neg ho]; omega
    have EZ := hid ez
    have i0 : (v : Int) / 2 ≤ 9223372036854775807 := by omega
    clear ho ez
    go_wp2_with fail
    go_ret
    rw [HV.out.2.1, HV.out.2.2, EZ.out]
    exact ⟨rfl, h2⟩
/-- The length of a list whose elements have at least m bytes. -/
def lR (m : Nat) (o : Option (List Nat)) : Option (Nat × List Nat) := (uR o).bind fun x => if x.2.length / m < x.1 then none else some x
set_option maxRecDepth 8000 in
set_option maxHeartbeats 4000000 in
theorem rr_length (w0 w : World) (R : Asr) (S : SlV) (all : List Nat) (g m : Nat) (o : Option (List Nat)) (h : Hold w0 w (rrA S all g o * R)) (hS : Still w0 R S all) (hn : S.n ≤ 4611686018427387904) (hb : ∀ x ∈ all, x < 256) (hor : ∀ r, o = some r → ∀ x ∈ r, x < 256) (hm : 0 < m ∧ m ≤ 100) :
    Calls Try.prog 42 #[.pointer (some ⟨g, 0, none⟩), .int .i64 (m : Int)] w fun e w' => e = .returned (.int .i64 (((lR m o).elim 0 (·.1) : Nat) : Int)) ∧ Hold w0 w' (rrA S all g ((lR m o).map (·.2)) * R) := by
  have HC := hid (rr_unsigned w0 w R S all g o h hS hn hb)
  have hu64 : (uR o).elim 0 (·.1) < 18446744073709551616 := by
    cases o with
    | none => decide
    | some r =>
      show (decU r).elim 0 (·.1) < _
      cases hu : decU r with
      | none => decide
      | some y => exact (decU_inv (v := y.1) (r := y.2) (hor r rfl) hu).1
  obtain ⟨v, hve⟩ : ∃ v, v = (uR o).elim 0 (·.1) := ⟨_, rfl⟩
  rw [← hve] at HC hu64
  have HVE := hid hve
  have HS := hid hS
  obtain ⟨⟨A, n, c⟩, hST⟩ : ∃ T, T = S := ⟨S, rfl⟩
  subst hST
  simp only at hn
  clear h hS hve
  go_enter Try.func42, Try.ntmps42
  go_wp2_with fail
  refine HC.out.mono ?_
  rintro e w2 ⟨rfl, h2⟩
  clear HC
  obtain ⟨b0, hrd⟩ := HS.out _ _ h2
  have hal : all.length = n := by have := hrd.len; rw [bv_len] at this; exact this
  obtain ⟨p, bb, ⟨hp, hbb⟩, h3⟩ := rrOpen h2
  simp only at hp
  have c0 : w2.cell? ⟨g, 0, none⟩ = some (.slice A n c) := h3.blk.some_ (i := 0) rfl
  have c1 := h3.blk.some_ (i := 1) rfl
  have z2 := h3.blk.frozen 2
  have c2 := h3.blk.some_ (i := 2) rfl
  have HAL := hid (And.intro hal hbb)
  have H2 := hid h2
  have H3 := hid h3
  have d1 : (0 : Int) ≤ (n : Int) - (p : Int) := by omega
  have d2 : ((m : Int) == 0) = false := by simp; omega
  have d3 : (m : Int) ≠ 0 := by omega
  clear h2 h3 hal hbb hrd
  obtain ⟨q, hq⟩ : ∃ q : Nat, q = (n - p) / m := ⟨_, rfl⟩
  have hw : IntKind.u64.wrap (((n : Int) - (p : Int)) / (m : Int)) = (q : Int) := by
    have h1 : ((n : Int) - (p : Int)) = ((n - p : Nat) : Int) := by omega
    have h2 : (n - p) / m ≤ n - p := Nat.div_le_self _ _
    have h3 : (((n - p : Nat) : Int)) / (m : Int) = (((n - p) / m : Nat) : Int) := by first | exact (Int.natCast_ediv _ _).symm | simp
    rw [h1, h3, ← hq, IntKind.wrap_u64]
    omega
  have HQ := hid hq
  have HW := hid hw
  clear hq hw
  by_cases hlt : q < v
  · have e1 : decide ((q : Int) < (v : Int)) = true := decide_eq_true (by omega)
    have HL : Hid (lR m o = none) := hid (by
      unfold lR
      cases hu : uR o with
      | none => rfl
      | some y =>
        have h5 := HAL.out.2
        have h6 := HVE.out
        rw [hu] at h5 h6
        obtain ⟨h7, h8⟩ := h5
        have h9 := congrArg List.length h8
        rw [List.length_drop, HAL.out.1] at h9
        simp only at h9 h6
        show (if y.2.length / m < y.1 then none else some y) = none
        rw [h9, ← HQ.out, if_pos (by rw [h6] at hlt; exact hlt)])
    go_wp2_with fail
    go_quiet (fail)
    rw [HW.out]
    have H4 := hid (rrClose (S := ⟨A, n, c⟩) (all := all) (o := none) (b := true) ⟨hp, rfl⟩ ((H3.out.drewN nq).setBlk 2 (.bool true)))
    clear H2 H3
    go_wp2_with fail
    go_ret
    rw [HL.out]
    exact ⟨rfl, H4.out⟩
  · have e1 : decide ((q : Int) < (v : Int)) = false := decide_eq_false (by omega)
    have HL : Hid (lR m o = uR o) := hid (by
      unfold lR
      cases hu : uR o with
      | none => rfl
      | some y =>
        have h5 := HAL.out.2
        have h6 := HVE.out
        rw [hu] at h5 h6
        obtain ⟨h7, h8⟩ := h5
        have h9 := congrArg List.length h8
        rw [List.length_drop, HAL.out.1] at h9
        simp only at h9 h6
        show (if y.2.length / m < y.1 then none else some y) = some y
        rw [h9, ← HQ.out, if_neg (by rw [h6] at hlt; exact hlt)])
    have hv2 : v ≤ 9223372036854775807 := by
      have h2 : (n - p) / m ≤ n - p := Nat.div_le_self _ _
      have := HQ.out
      omega
    go_wp2_with fail
    go_quiet (fail)
    rw [HW.out]
    have H4 := hid (H2.out.drewN nq)
    clear H2 H3
    go_wp2_with fail
    go_ret
    rw [HL.out, ← HVE.out]
    exact ⟨rfl, H4.out⟩
end Go.Proofs.Ytipafegiobnkpaa
