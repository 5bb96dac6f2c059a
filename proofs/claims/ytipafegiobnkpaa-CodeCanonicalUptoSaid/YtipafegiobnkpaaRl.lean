/- Lists are read from bytes, by the program. -/
import Derived.Test.YtipafegiobnkpaaRi
namespace Go.Proofs.Ytipafegiobnkpaa
open Go.RowKit
set_option linter.unusedVariables false

/-- What reading a list gives: its value and the rest, or the panic of broken bytes. -/
def ElPost {α : Type} (w0 : World) (R : Asr) (S : SlV) (all : List Nat) (g : Nat) (obj : Value → List α → Asr) (o : Option (List α × List Nat)) (e : Ending) (w' : World) : Prop := match o with
  | none => e = brk ∧ Hold w0 w' R
  | some x => ∃ v, e = .returned v ∧ Hold w0 w' (rdA S all g x.2 * (obj v x.1 * R))
theorem elPost_none {α : Type} {w0 : World} {R : Asr} {S : SlV} {all : List Nat} {g : Nat} {obj : Value → List α → Asr} {o : Option (List α × List Nat)} {w' : World} (ho : o = none) (h : Hold w0 w' R) : ElPost w0 R S all g obj o brk w' := by subst ho; exact ⟨rfl, h⟩
theorem elPost_some {α : Type} {w0 : World} {R : Asr} {S : SlV} {all : List Nat} {g : Nat} {obj : Value → List α → Asr} {o : Option (List α × List Nat)} {w' : World} {v : Value} {l : List α} {r : List Nat} (ho : o = some (l, r)) (h : Hold w0 w' (rdA S all g r * (obj v l * R))) : ElPost w0 R S all g obj o (.returned v) w' := by subst ho; exact ⟨v, rfl, h⟩
theorem listD_long {α : Type} {p : List Nat → Option (α × List Nat)} {bs r : List Nat} {n : Nat} (hu : decU bs = some (n, r)) (h : r.length < n) : listD p bs = none := by unfold listD; rw [hu]; simp [h]
theorem listD_many {α : Type} {p : List Nat → Option (α × List Nat)} {bs r : List Nat} {n : Nat} (hu : decU bs = some (n, r)) (h : ¬ r.length < n) : listD p bs = many p n r := by unfold listD; rw [hu]; simp [h]
theorem listD_none {α : Type} {p : List Nat → Option (α × List Nat)} {bs : List Nat} (hu : decU bs = none) : listD p bs = none := by unfold listD; rw [hu]; rfl
theorem rdLen {w0 w : World} {R : Asr} {S : SlV} {all bs : List Nat} {g : Nat} (h : Hold w0 w (rdA S all g bs * R)) : ∃ A c, w.cell? ⟨g, 0, none⟩ = some (.slice A bs.length c) := by
  obtain ⟨A, c, k, _, _, h3⟩ := rdOpen h
  exact ⟨A, c, h3.blk.some_ (i := 0) rfl⟩
theorem decU_bytes {bs r : List Nat} {n : Nat} (hb : ∀ x ∈ bs, x < 256) (hu : decU bs = some (n, r)) : n < 18446744073709551616 ∧ r.length ≤ bs.length ∧ ∀ x ∈ r, x < 256 := by
  obtain ⟨h1, h2⟩ := decU_inv hb hu
  exact ⟨h1, by rw [h2, List.length_append]; omega, fun x hx => hb x (by rw [h2]; exact List.mem_append_right _ hx)⟩
/-- The rest behind one element. -/
theorem rest_bytes {α : Type} {p : List Nat → Option (α × List Nat)} {f : α → List Nat} {ok : α → Prop} (hc : Codec p f ok) {bs r : List Nat} {x : α} (hb : ∀ x ∈ bs, x < 256) (hu : p bs = some (x, r)) : ok x ∧ r.length ≤ bs.length ∧ ∀ y ∈ r, y < 256 := by
  obtain ⟨h1, h2⟩ := hc.inv bs r x hb hu
  exact ⟨h1, by rw [h2, List.length_append]; omega, fun x hx => hb x (by rw [h2]; exact List.mem_append_right _ hx)⟩

def uvA (v : Value) (l : List Nat) : Asr := rowS 46 1 v l.length (uv l)
def ivA (v : Value) (l : List Int) : Asr := rowS 3 1 v l.length (l.map (Value.int .i64))
def insA (v : Value) (l : List (List Int)) : Asr := rowS 57 5 v l.length (l.flatten.map (Value.int .i64))

theorem info_u64L : (Try.prog.info? 46).map (fun i => (i.zero, i.size, i.bytes)) = some (some (.int .u64 0), 1, 8) := by kernel_rfl
set_option maxRecDepth 8000 in
set_option maxHeartbeats 4000000 in
theorem rd_listU (w0 w : World) (R : Asr) (S : SlV) (all : List Nat) (g : Nat) (bs : List Nat) (h : Hold w0 w (rdA S all g bs * R)) (hS : Still w0 R S all) (hb : ∀ x ∈ bs, x < 256) (hlen : bs.length ≤ 1000000) :
    Calls Try.prog 30 #[.pointer (some ⟨g, 0, none⟩), .func (.func 31) #[.pointer (some ⟨g, 0, none⟩)] #[]] w (ElPost w0 R S all g uvA (listD decU bs)) := by
  obtain ⟨iE, hiE, hz0, hz1, hz2⟩ := parts5 info_u64L
  have HS := hid hS
  have HU := hid (rd_unsigned w0 w R S all g bs h hS hb)
  have HB := hid hb
  clear h hS hb
  go_enter Try.func30, Try.ntmps30
  go_wp2_with fail
  refine HU.out.mono ?_
  intro e w2 hp
  clear HU
  cases hu : decU bs with
  | none =>
    rw [hu] at hp
    obtain ⟨rfl, h2⟩ := hp
    have HN := hid (listD_none (p := decU) hu)
    have H2 := hid h2
    clear hu h2
    go_wp2_with fail
    exact ⟨rfl, elPost_none HN.out H2.out⟩
  | some y =>
    obtain ⟨n, r⟩ := y
    rw [hu] at hp
    obtain ⟨he, h2⟩ := hp
    replace he : e = .returned (.int .u64 (n : Int)) := he
    subst he
    obtain ⟨hn64, hrl, hrb⟩ := decU_bytes HB.out hu
    obtain ⟨Ar, cr, k0⟩ := rdLen h2
    have rl64 : r.length < 18446744073709551616 := by omega
    obtain ⟨m, hm⟩ : ∃ m, m = r.length := ⟨_, rfl⟩
    rw [← hm] at hrl rl64 k0
    have HM := hid hm
    by_cases hlong : m < n
    · have e1 : decide ((m : Int) < (n : Int)) = true := decide_eq_true (by omega)
      have HN := hid (listD_long (p := decU) hu (by rw [← hm]; exact hlong))
      have H2 := hid h2.drop
      clear hu h2 hm
      go_wp2_with fail
      exact ⟨rfl, elPost_none HN.out H2.out⟩
    · have e1 : decide ((m : Int) < (n : Int)) = false := decide_eq_false (by omega)
      have HX := hid (listD_many (p := decU) hu (by rw [← hm]; exact hlong))
      have HL0 := hid (Left.start decU n r)
      have HRB := hid hrb
      have HRL : Hid (r.length ≤ 1000000) := hid (by omega)
      have H2 := hid (h2)
      clear hu h2 hm hrb
      go_wp2_with fail
      have h2 := H2.out
      have HX2 := HX.out
      clear H2 k0
      go_loopw [6, 20] (fun v i wr => ∃ (k : Nat) (l : List Nat) (bs' : List Nat), k ≤ n ∧ i = .int .u64 (k : Int) ∧ l.length = k ∧ Left decU (many decU n r) (n - k) bs' l ∧ (∀ x ∈ bs', x < 256) ∧ bs'.length ≤ 1000000 ∧ Hold w0 wr (rdA S all g bs' * (uvA v l * R))) (fun _ i _ => n - (intOf i).toNat)
      case atStart => exact ⟨0, [], r, by omega, rfl, rfl, HL0.out, HRB.out, HRL.out, (h2.nilRowS 46 1).swap⟩
      case round =>
        clear h2 HL0 HRB HX2 HRL
        obtain ⟨k, l, bs', hk, rfl, hl, hL, hb, hbl, h⟩ := hrel
        by_cases hlt : k < n
        · have e2 : decide ((k : Int) < (n : Int)) = true := decide_eq_true (by omega)
          obtain ⟨q, hq⟩ : ∃ q, n - k = q + 1 := ⟨n - k - 1, by omega⟩
          rw [hq] at hL
          have HL := hid hL
          have HK := hid (And.intro hq hl)
          clear hL hq hl
          go_wp2_with fail
          refine (rd_unsigned w0 wr _ S all g bs' h HS.out.under hb).mono ?_
          intro e w3 hp
          clear h
          cases hu : decU bs' with
          | none =>
            rw [hu] at hp
            obtain ⟨rfl, h3⟩ := hp
            have HN := hid (HL.out.stop hu)
            have H3 := hid (h3.drop)
            clear hu h3
            go_wp2_with fail
            exact ⟨rfl, elPost_none (by rw [HX.out, HN.out]) H3.out⟩
          | some y =>
            obtain ⟨x, s⟩ := y
            rw [hu] at hp
            obtain ⟨he, h3⟩ := hp
            replace he : e = .returned (.int .u64 (x : Int)) := he
            subst he
            have hrb := rest_bytes codecU hb hu
            have HRB := hid hrb
            have HL2 := hid (HL.out.step hu)
            have h4 := h3.swap
            obtain ⟨A, c, rfl⟩ := h4.rowSForm
            have hl0 : l.length ≤ 1000000 := by rw [HK.out.2]; omega
            clear hu h3 hrb
            go_wp2_with (at_builtin; refine wpList_app rfl _ _ 25 rfl 46 iE (.int .u64 0) 1 8 Try.underlying25 hiE hz0 hz1 hz2 rfl (by decide) (.slice A l.length c) l.length _ [.int .u64 (x : Int)] _ rfl h4 _ rfl rfl rfl rfl (by omega) (by decide) ?_)
            intro A2 c2 w5 h5
            have H5 : Hid (Hold w0 w5 (rdA S all g s * (uvA (.slice A2 (l ++ [x]).length c2) (l ++ [x]) * R))) := hid (Hold.swap (by
              rw [show (l ++ [x]).length = l.length + 1 by simp]
              unfold uvA
              rw [show (l ++ [x]).length = l.length + 1 by simp]
              simpa [uv] using h5))
            rw [show (l ++ [x]).length = l.length + 1 by simp] at H5
            clear h4 h5
            go_wp2_with fail
            go_roundw
            case rel => exact ⟨k + 1, l ++ [x], s, by omega, by go_num, by rw [List.length_append, HK.out.2]; rfl, by rw [show n - (k + 1) = q by have := HK.out.1; omega]; exact HL2.out, HRB.out.2.2, by have := HRB.out.2.1; omega, H5.out⟩
            case measure => simp [intOf]; omega
        · obtain rfl : k = n := by omega
          have e2 : decide ((k : Int) < (k : Int)) = false := by simp
          rw [Nat.sub_self] at hL
          have HN := hid hL.done
          have H2 := hid h
          clear hL h
          go_wp2_with fail
          go_ret
          exact elPost_some (by rw [HX.out, HN.out]) H2.out

theorem info_i64L : (Try.prog.info? 3).map (fun i => (i.zero, i.size, i.bytes)) = some (some (.int .i64 0), 1, 8) := by kernel_rfl
set_option maxRecDepth 8000 in
set_option maxHeartbeats 4000000 in
theorem rd_listS (w0 w : World) (R : Asr) (S : SlV) (all : List Nat) (g : Nat) (bs : List Nat) (h : Hold w0 w (rdA S all g bs * R)) (hS : Still w0 R S all) (hb : ∀ x ∈ bs, x < 256) (hlen : bs.length ≤ 1000000) :
    Calls Try.prog 36 #[.pointer (some ⟨g, 0, none⟩), .func (.func 37) #[.pointer (some ⟨g, 0, none⟩)] #[]] w (ElPost w0 R S all g ivA (listD decS bs)) := by
  obtain ⟨iE, hiE, hz0, hz1, hz2⟩ := parts5 info_i64L
  have HS := hid hS
  have HU := hid (rd_unsigned w0 w R S all g bs h hS hb)
  have HB := hid hb
  clear h hS hb
  go_enter Try.func36, Try.ntmps36
  go_wp2_with fail
  refine HU.out.mono ?_
  intro e w2 hp
  clear HU
  cases hu : decU bs with
  | none =>
    rw [hu] at hp
    obtain ⟨rfl, h2⟩ := hp
    have HN := hid (listD_none (p := decS) hu)
    have H2 := hid h2
    clear hu h2
    go_wp2_with fail
    exact ⟨rfl, elPost_none HN.out H2.out⟩
  | some y =>
    obtain ⟨n, r⟩ := y
    rw [hu] at hp
    obtain ⟨he, h2⟩ := hp
    replace he : e = .returned (.int .u64 (n : Int)) := he
    subst he
    obtain ⟨hn64, hrl, hrb⟩ := decU_bytes HB.out hu
    obtain ⟨Ar, cr, k0⟩ := rdLen h2
    have rl64 : r.length < 18446744073709551616 := by omega
    obtain ⟨m, hm⟩ : ∃ m, m = r.length := ⟨_, rfl⟩
    rw [← hm] at hrl rl64 k0
    have HM := hid hm
    by_cases hlong : m < n
    · have e1 : decide ((m : Int) < (n : Int)) = true := decide_eq_true (by omega)
      have HN := hid (listD_long (p := decS) hu (by rw [← hm]; exact hlong))
      have H2 := hid h2.drop
      clear hu h2 hm
      go_wp2_with fail
      exact ⟨rfl, elPost_none HN.out H2.out⟩
    · have e1 : decide ((m : Int) < (n : Int)) = false := decide_eq_false (by omega)
      have HX := hid (listD_many (p := decS) hu (by rw [← hm]; exact hlong))
      have HL0 := hid (Left.start decS n r)
      have HRB := hid hrb
      have HRL : Hid (r.length ≤ 1000000) := hid (by omega)
      have H2 := hid (h2)
      clear hu h2 hm hrb
      go_wp2_with fail
      have h2 := H2.out
      have HX2 := HX.out
      clear H2 k0
      go_loopw [6, 20] (fun v i wr => ∃ (k : Nat) (l : List Int) (bs' : List Nat), k ≤ n ∧ i = .int .u64 (k : Int) ∧ l.length = k ∧ Left decS (many decS n r) (n - k) bs' l ∧ (∀ x ∈ bs', x < 256) ∧ bs'.length ≤ 1000000 ∧ Hold w0 wr (rdA S all g bs' * (ivA v l * R))) (fun _ i _ => n - (intOf i).toNat)
      case atStart => exact ⟨0, [], r, by omega, rfl, rfl, HL0.out, HRB.out, HRL.out, (h2.nilRowS 3 1).swap⟩
      case round =>
        clear h2 HL0 HRB HX2 HRL
        obtain ⟨k, l, bs', hk, rfl, hl, hL, hb, hbl, h⟩ := hrel
        by_cases hlt : k < n
        · have e2 : decide ((k : Int) < (n : Int)) = true := decide_eq_true (by omega)
          obtain ⟨q, hq⟩ : ∃ q, n - k = q + 1 := ⟨n - k - 1, by omega⟩
          rw [hq] at hL
          have HL := hid hL
          have HK := hid (And.intro hq hl)
          clear hL hq hl
          go_wp2_with fail
          refine (rd_signed w0 wr _ S all g bs' h HS.out.under hb).mono ?_
          intro e w3 hp
          clear h
          cases hu : decS bs' with
          | none =>
            rw [hu] at hp
            obtain ⟨rfl, h3⟩ := hp
            have HN := hid (HL.out.stop hu)
            have H3 := hid (h3.drop)
            clear hu h3
            go_wp2_with fail
            exact ⟨rfl, elPost_none (by rw [HX.out, HN.out]) H3.out⟩
          | some y =>
            obtain ⟨x, s⟩ := y
            rw [hu] at hp
            obtain ⟨he, h3⟩ := hp
            replace he : e = .returned (.int .i64 x) := he
            subst he
            have hrb := rest_bytes codecS hb hu
            have HRB := hid hrb
            have HL2 := hid (HL.out.step hu)
            have h4 := h3.swap
            obtain ⟨A, c, rfl⟩ := h4.rowSForm
            have hl0 : l.length ≤ 1000000 := by rw [HK.out.2]; omega
            clear hu h3 hrb
            go_wp2_with (at_builtin; refine wpList_app rfl _ _ 27 rfl 3 iE (.int .i64 0) 1 8 Try.underlying27 hiE hz0 hz1 hz2 rfl (by decide) (.slice A l.length c) l.length _ [.int .i64 x] _ rfl h4 _ rfl rfl rfl rfl (by omega) (by decide) ?_)
            intro A2 c2 w5 h5
            have H5 : Hid (Hold w0 w5 (rdA S all g s * (ivA (.slice A2 (l ++ [x]).length c2) (l ++ [x]) * R))) := hid (Hold.swap (by
              rw [show (l ++ [x]).length = l.length + 1 by simp]
              unfold ivA
              rw [show (l ++ [x]).length = l.length + 1 by simp]
              simpa [uv] using h5))
            rw [show (l ++ [x]).length = l.length + 1 by simp] at H5
            clear h4 h5
            go_wp2_with fail
            go_roundw
            case rel => exact ⟨k + 1, l ++ [x], s, by omega, by go_num, by rw [List.length_append, HK.out.2]; rfl, by rw [show n - (k + 1) = q by have := HK.out.1; omega]; exact HL2.out, HRB.out.2.2, by have := HRB.out.2.1; omega, H5.out⟩
            case measure => simp [intOf]; omega
        · obtain rfl : k = n := by omega
          have e2 : decide ((k : Int) < (k : Int)) = false := by simp
          rw [Nat.sub_self] at hL
          have HN := hid hL.done
          have H2 := hid h
          clear hL h
          go_wp2_with fail
          go_ret
          exact elPost_some (by rw [HX.out, HN.out]) H2.out

theorem info_insL : (Try.prog.info? 57).map (fun i => (i.zero, i.size, i.bytes)) = some (some (.agg #[.int .i64 0, .int .i64 0, .int .i64 0, .int .i64 0, .int .i64 0]), 5, 40) := by kernel_rfl
set_option maxRecDepth 8000 in
set_option maxHeartbeats 4000000 in
theorem rd_listI (w0 w : World) (R : Asr) (S : SlV) (all : List Nat) (g : Nat) (bs : List Nat) (h : Hold w0 w (rdA S all g bs * R)) (hS : Still w0 R S all) (hb : ∀ x ∈ bs, x < 256) (hlen : bs.length ≤ 1000000) :
    Calls Try.prog 34 #[.pointer (some ⟨g, 0, none⟩), .func (.func 35) #[.pointer (some ⟨g, 0, none⟩)] #[]] w (ElPost w0 R S all g insA (listD insD bs)) := by
  obtain ⟨iE, hiE, hz0, hz1, hz2⟩ := parts5 info_insL
  have HS := hid hS
  have HU := hid (rd_unsigned w0 w R S all g bs h hS hb)
  have HB := hid hb
  clear h hS hb
  go_enter Try.func34, Try.ntmps34
  go_wp2_with fail
  refine HU.out.mono ?_
  intro e w2 hp
  clear HU
  cases hu : decU bs with
  | none =>
    rw [hu] at hp
    obtain ⟨rfl, h2⟩ := hp
    have HN := hid (listD_none (p := insD) hu)
    have H2 := hid h2
    clear hu h2
    go_wp2_with fail
    exact ⟨rfl, elPost_none HN.out H2.out⟩
  | some y =>
    obtain ⟨n, r⟩ := y
    rw [hu] at hp
    obtain ⟨he, h2⟩ := hp
    replace he : e = .returned (.int .u64 (n : Int)) := he
    subst he
    obtain ⟨hn64, hrl, hrb⟩ := decU_bytes HB.out hu
    obtain ⟨Ar, cr, k0⟩ := rdLen h2
    have rl64 : r.length < 18446744073709551616 := by omega
    obtain ⟨m, hm⟩ : ∃ m, m = r.length := ⟨_, rfl⟩
    rw [← hm] at hrl rl64 k0
    have HM := hid hm
    by_cases hlong : m < n
    · have e1 : decide ((m : Int) < (n : Int)) = true := decide_eq_true (by omega)
      have HN := hid (listD_long (p := insD) hu (by rw [← hm]; exact hlong))
      have H2 := hid h2.drop
      clear hu h2 hm
      go_wp2_with fail
      exact ⟨rfl, elPost_none HN.out H2.out⟩
    · have e1 : decide ((m : Int) < (n : Int)) = false := decide_eq_false (by omega)
      have HX := hid (listD_many (p := insD) hu (by rw [← hm]; exact hlong))
      have HL0 := hid (Left.start insD n r)
      have HRB := hid hrb
      have HRL : Hid (r.length ≤ 1000000) := hid (by omega)
      have H2 := hid (h2)
      clear hu h2 hm hrb
      go_wp2_with fail
      have h2 := H2.out
      have HX2 := HX.out
      clear H2 k0
      go_loopw [6, 20] (fun v i wr => ∃ (k : Nat) (l : List (List Int)) (bs' : List Nat), k ≤ n ∧ i = .int .u64 (k : Int) ∧ l.length = k ∧ Left insD (many insD n r) (n - k) bs' l ∧ (∀ x ∈ bs', x < 256) ∧ bs'.length ≤ 1000000 ∧ Hold w0 wr (rdA S all g bs' * (insA v l * R))) (fun _ i _ => n - (intOf i).toNat)
      case atStart => exact ⟨0, [], r, by omega, rfl, rfl, HL0.out, HRB.out, HRL.out, (h2.nilRowS 57 5).swap⟩
      case round =>
        clear h2 HL0 HRB HX2 HRL
        obtain ⟨k, l, bs', hk, rfl, hl, hL, hb, hbl, h⟩ := hrel
        by_cases hlt : k < n
        · have e2 : decide ((k : Int) < (n : Int)) = true := decide_eq_true (by omega)
          obtain ⟨q, hq⟩ : ∃ q, n - k = q + 1 := ⟨n - k - 1, by omega⟩
          rw [hq] at hL
          have HL := hid hL
          have HK := hid (And.intro hq hl)
          clear hL hq hl
          go_wp2_with fail
          refine (rd_instr w0 wr _ S all g bs' h HS.out.under hb).mono ?_
          intro e w3 hp
          clear h
          cases hu : insD bs' with
          | none =>
            rw [hu] at hp
            obtain ⟨rfl, h3⟩ := hp
            have HN := hid (HL.out.stop hu)
            have H3 := hid (h3.drop)
            clear hu h3
            go_wp2_with fail
            exact ⟨rfl, elPost_none (by rw [HX.out, HN.out]) H3.out⟩
          | some y =>
            obtain ⟨x, s⟩ := y
            rw [hu] at hp
            obtain ⟨he, h3⟩ := hp
            obtain ⟨a, b, c', d, f, hx5⟩ := five (codecI.inv bs' s x hb hu).1.1
            subst hx5
            replace he : e = .returned (.agg #[.int .i64 a, .int .i64 b, .int .i64 c', .int .i64 d, .int .i64 f]) := he
            subst he
            have hrb := rest_bytes codecI hb hu
            have HRB := hid hrb
            have HL2 := hid (HL.out.step hu)
            have h4 := h3.swap
            obtain ⟨A, c, rfl⟩ := h4.rowSForm
            have hl0 : l.length ≤ 1000000 := by rw [HK.out.2]; omega
            clear hu h3 hrb
            go_wp2_with (at_builtin; refine wpList_app rfl _ _ 54 rfl 57 iE (.agg #[.int .i64 0, .int .i64 0, .int .i64 0, .int .i64 0, .int .i64 0]) 5 40 Try.underlying54 hiE hz0 hz1 hz2 rfl (by decide) (.slice A l.length c) l.length _ [.int .i64 a, .int .i64 b, .int .i64 c', .int .i64 d, .int .i64 f] _ rfl h4 _ rfl rfl rfl rfl (by omega) (by decide) ?_)
            intro A2 c2 w5 h5
            obtain ⟨x, hx⟩ : ∃ x, x = [a, b, c', d, f] := ⟨_, rfl⟩
            have H5 : Hid (Hold w0 w5 (rdA S all g s * (insA (.slice A2 (l ++ [x]).length c2) (l ++ [x]) * R))) := hid (Hold.swap (by
              subst hx
              rw [show (l ++ [[a, b, c', d, f]]).length = l.length + 1 by simp]
              unfold insA
              rw [show (l ++ [[a, b, c', d, f]]).length = l.length + 1 by simp]
              simpa using h5))
            rw [show (l ++ [x]).length = l.length + 1 by simp] at H5
            rw [← hx] at HL2
            clear h4 h5 hx
            go_wp2_with fail
            go_roundw
            case rel => exact ⟨k + 1, l ++ [x], s, by omega, by go_num, by rw [List.length_append, HK.out.2]; rfl, by rw [show n - (k + 1) = q by have := HK.out.1; omega]; exact HL2.out, HRB.out.2.2, by have := HRB.out.2.1; omega, H5.out⟩
            case measure => simp [intOf]; omega
        · obtain rfl : k = n := by omega
          have e2 : decide ((k : Int) < (k : Int)) = false := by simp
          rw [Nat.sub_self] at hL
          have HN := hid hL.done
          have H2 := hid h
          clear hL h
          go_wp2_with fail
          go_ret
          exact elPost_some (by rw [HX.out, HN.out]) H2.out

/-- The captured variable that holds the reader. -/
abbrev rcA (gw g : Nat) : Asr := blkA 66 gw #[.pointer (some ⟨g, 0, none⟩)]
def insRows : List Value → List (List (List Int)) → Asr
  | [], [] => Asr.emp
  | v :: vs, p :: ps => insA v p * insRows vs ps
  | _, _ => ⟨fun _ _ => False, fun h _ _ => h, fun h => h.elim⟩
def progV (vs : List Value) (v : Value) (ps : List (List (List Int))) : Asr := rowS 54 1 v ps.length vs * insRows vs ps
def progA (v : Value) (ps : List (List (List Int))) : Asr := Asr.ex fun vs => progV vs v ps
theorem insRows_snoc (v : Value) (p : List (List Int)) : ∀ (vs : List Value) (ps : List (List (List Int))), Imp (insA v p * insRows vs ps) (insRows (vs ++ [v]) (ps ++ [p]))
  | [], [] => Imp.refl _
  | u :: vs, q :: ps => (Imp.swap _ _ _).trans (Imp.under _ (insRows_snoc v p vs ps))
  | [], q :: ps => by rintro w fp ⟨f, g, rfl, h1, h2, _⟩; exact h2.elim
  | u :: vs, [] => by rintro w fp ⟨f, g, rfl, h1, h2, _⟩; exact h2.elim
theorem insRows_at {w0 w : World} : ∀ (vs : List Value) (ps : List (List (List Int))) (R : Asr), Hold w0 w (insRows vs ps * R) → vs.length = ps.length ∧ ∀ (j : Nat) (v : Value) (p : List (List Int)), vs[j]? = some v → ps[j]? = some p → InsR w v p
  | [], [], R, _ => ⟨rfl, fun j v p h => by simp at h⟩
  | u :: vs, q :: ps, R, h => by
    have h1 : Hold w0 w (insA u q * (insRows vs ps * R)) := h.part
    obtain ⟨hl, ih⟩ := insRows_at vs ps R h1.drop
    refine ⟨by simp [hl], fun j v p hv hp => ?_⟩
    cases j with
    | zero =>
      simp at hv hp
      subst hv hp
      obtain ⟨A, c, rfl⟩ := h1.rowSForm
      obtain ⟨b, hb⟩ := h1.rowSReads
      exact ⟨A, c, b, rfl, hb⟩
    | succ j => exact ih j v p (by simpa using hv) (by simpa using hp)
  | [], q :: ps, R, h => by obtain ⟨fp, h1⟩ := h.get; exact h1.elim
  | u :: vs, [], R, h => by obtain ⟨fp, h1⟩ := h.get; exact h1.elim
theorem progOpen {w0 w : World} {R : Asr} {v : Value} {ps : List (List (List Int))} (h : Hold w0 w (progA v ps * R)) : ∃ vs, Hold w0 w (rowS 54 1 v ps.length vs * (insRows vs ps * R)) := by
  obtain ⟨vs, h⟩ := h.exOpen
  exact ⟨vs, h.part⟩
theorem progClose {w0 w : World} {R : Asr} {v : Value} {vs : List Value} {ps : List (List (List Int))} (h : Hold w0 w (rowS 54 1 v ps.length vs * (insRows vs ps * R))) : Hold w0 w (progA v ps * R) := Hold.exClose (x := vs) h.join
theorem Hold.nilProg {w0 w : World} {R : Asr} (h : Hold w0 w R) : Hold w0 w (progA (.slice none 0 0) [] * R) := progClose (vs := []) ((h.imp (Imp.intro_emp R)).nilRowS 54 1)
set_option maxHeartbeats 4000000 in
theorem rd_prog (w0 w : World) (R : Asr) (S : SlV) (all : List Nat) (g gw : Nat) (bs : List Nat) (h : Hold w0 w (rdA S all g bs * (rcA gw g * R))) (hS : Still w0 R S all) (hb : ∀ x ∈ bs, x < 256) (hlen : bs.length ≤ 1000000) :
    Calls Try.prog 33 #[.pointer (some ⟨gw, 0, none⟩)] w (ElPost w0 (rcA gw g * R) S all g insA (listD insD bs)) := by
  have hmf : ∀ (fn : Fn) (first cap : Array Value) (w : World), (Instr.makeFunc fn first cap).run Try.prog w = .ok (.func fn first cap) w := fun _ _ _ _ => rfl
  have c0 := h.drop.blk.some_ (i := 0) rfl
  have HC := hid (rd_listI w0 w _ S all g bs h hS.under hb hlen)
  clear h hS hb
  go_enter Try.func33, Try.ntmps33
  go_wp2_with fail
  refine HC.out.mono ?_
  intro e w2 hp
  clear HC c0
  cases ho : listD insD bs with
  | none =>
    rw [ho] at hp
    obtain ⟨rfl, h2⟩ := hp
    have HO := hid ho
    have H2 := hid h2
    clear ho h2
    go_wp2_with fail
    exact ⟨rfl, elPost_none rfl H2.out⟩
  | some y =>
    obtain ⟨l, r⟩ := y
    rw [ho] at hp
    obtain ⟨v, rfl, h2⟩ := hp
    have HO := hid ho
    have H2 := hid h2
    clear ho h2
    go_wp2_with fail
    go_ret
    exact elPost_some HO.out H2.out

theorem info_slL : (Try.prog.info? 54).map (fun i => (i.zero, i.size, i.bytes)) = some (some (.slice none 0 0), 1, 24) := by kernel_rfl
set_option maxRecDepth 8000 in
set_option maxHeartbeats 4000000 in
theorem rd_listP (w0 w : World) (R : Asr) (S : SlV) (all : List Nat) (g : Nat) (gw : Nat) (bs : List Nat) (h : Hold w0 w (rdA S all g bs * (rcA gw g * R))) (hS : Still w0 R S all) (hb : ∀ x ∈ bs, x < 256) (hlen : bs.length ≤ 1000000) :
    Calls Try.prog 32 #[.pointer (some ⟨g, 0, none⟩), .func (.func 33) #[] #[.pointer (some ⟨gw, 0, none⟩)]] w (ElPost w0 (rcA gw g * R) S all g progA (listD (listD insD) bs)) := by
  obtain ⟨iE, hiE, hz0, hz1, hz2⟩ := parts5 info_slL
  have HS := hid hS
  have HU := hid (rd_unsigned w0 w (rcA gw g * R) S all g bs h hS.under hb)
  have HB := hid hb
  clear h hS hb
  go_enter Try.func32, Try.ntmps32
  go_wp2_with fail
  refine HU.out.mono ?_
  intro e w2 hp
  clear HU
  cases hu : decU bs with
  | none =>
    rw [hu] at hp
    obtain ⟨rfl, h2⟩ := hp
    have HN := hid (listD_none (p := (listD insD)) hu)
    have H2 := hid h2
    clear hu h2
    go_wp2_with fail
    exact ⟨rfl, elPost_none HN.out H2.out⟩
  | some y =>
    obtain ⟨n, r⟩ := y
    rw [hu] at hp
    obtain ⟨he, h2⟩ := hp
    replace he : e = .returned (.int .u64 (n : Int)) := he
    subst he
    obtain ⟨hn64, hrl, hrb⟩ := decU_bytes HB.out hu
    obtain ⟨Ar, cr, k0⟩ := rdLen h2
    have rl64 : r.length < 18446744073709551616 := by omega
    obtain ⟨m, hm⟩ : ∃ m, m = r.length := ⟨_, rfl⟩
    rw [← hm] at hrl rl64 k0
    have HM := hid hm
    by_cases hlong : m < n
    · have e1 : decide ((m : Int) < (n : Int)) = true := decide_eq_true (by omega)
      have HN := hid (listD_long (p := (listD insD)) hu (by rw [← hm]; exact hlong))
      have H2 := hid h2.drop
      clear hu h2 hm
      go_wp2_with fail
      exact ⟨rfl, elPost_none HN.out H2.out⟩
    · have e1 : decide ((m : Int) < (n : Int)) = false := decide_eq_false (by omega)
      have HX := hid (listD_many (p := (listD insD)) hu (by rw [← hm]; exact hlong))
      have HL0 := hid (Left.start (listD insD) n r)
      have HRB := hid hrb
      have HRL : Hid (r.length ≤ 1000000) := hid (by omega)
      have H2 := hid (h2)
      clear hu h2 hm hrb
      go_wp2_with fail
      have h2 := H2.out
      have HX2 := HX.out
      clear H2 k0
      go_loopw [6, 20] (fun v i wr => ∃ (k : Nat) (l : List (List (List Int))) (bs' : List Nat), k ≤ n ∧ i = .int .u64 (k : Int) ∧ l.length = k ∧ Left (listD insD) (many (listD insD) n r) (n - k) bs' l ∧ (∀ x ∈ bs', x < 256) ∧ bs'.length ≤ 1000000 ∧ Hold w0 wr (rdA S all g bs' * (progA v l * (rcA gw g * R)))) (fun _ i _ => n - (intOf i).toNat)
      case atStart => exact ⟨0, [], r, by omega, rfl, rfl, HL0.out, HRB.out, HRL.out, (h2.nilProg).swap⟩
      case round =>
        clear h2 HL0 HRB HX2 HRL
        obtain ⟨k, l, bs', hk, rfl, hl, hL, hb, hbl, h⟩ := hrel
        by_cases hlt : k < n
        · have e2 : decide ((k : Int) < (n : Int)) = true := decide_eq_true (by omega)
          obtain ⟨q, hq⟩ : ∃ q, n - k = q + 1 := ⟨n - k - 1, by omega⟩
          rw [hq] at hL
          have HL := hid hL
          have HK := hid (And.intro hq hl)
          clear hL hq hl
          go_wp2_with fail
          refine (rd_prog w0 wr _ S all g gw bs' (h.pk3 [0, 2, 1]) HS.out.under hb (by omega)).mono ?_
          intro e w3 hp
          clear h
          cases hu : (listD insD) bs' with
          | none =>
            rw [hu] at hp
            obtain ⟨rfl, h3⟩ := hp
            have HN := hid (HL.out.stop hu)
            have H3 := hid (h3.pk2 [0])
            clear hu h3
            go_wp2_with fail
            exact ⟨rfl, elPost_none (by rw [HX.out, HN.out]) H3.out⟩
          | some y =>
            obtain ⟨x, s⟩ := y
            rw [hu] at hp
            obtain ⟨v, rfl, h3⟩ := hp
            have hrb := rest_bytes codecLI hb hu
            have HRB := hid hrb
            have HL2 := hid (HL.out.step hu)
            obtain ⟨vs, h4⟩ := progOpen (h3.pk4 [3, 1, 0, 2])
            have h4 : Hold w0 w3 (rowS 54 1 _ l.length vs * (insRows vs l * (insA v x * (rdA S all g s * (rcA gw g * R))))) := h4
            obtain ⟨A, c, rfl⟩ := h4.rowSForm
            have hl0 : l.length ≤ 1000000 := by rw [HK.out.2]; omega
            clear hu h3 hrb
            obtain ⟨A3, c3, rfl⟩ := h4.drop.drop.rowSForm
            go_wp2_with (at_builtin; refine wpList_app rfl _ _ 26 rfl 54 iE (.slice none 0 0) 1 24 Try.underlying26 hiE hz0 hz1 hz2 rfl (by decide) (.slice A l.length c) l.length vs [.slice A3 x.length c3] _ rfl h4 _ rfl rfl rfl rfl (by omega) (by decide) ?_)
            intro A2 c2 w5 h5
            have h6 : Hold w0 w5 (progA (.slice A2 (l.length + 1) c2) (l ++ [x]) * (rdA S all g s * (rcA gw g * R))) := progClose (by
              rw [show (l ++ [x]).length = l.length + 1 by simp]
              exact h5.imp (Imp.under _ ((Imp.swap _ _ _).trans ((Imp.assoc' _ _ _).trans (Imp.on _ (insRows_snoc _ _ _ _))))))
            have H5 := hid h6.swap
            clear h4 h5 h6
            go_wp2_with fail
            go_roundw
            case rel => exact ⟨k + 1, l ++ [x], s, by omega, by go_num, by rw [List.length_append, HK.out.2]; rfl, by rw [show n - (k + 1) = q by have := HK.out.1; omega]; exact HL2.out, HRB.out.2.2, by have := HRB.out.2.1; omega, H5.out⟩
            case measure => simp [intOf]; omega
        · obtain rfl : k = n := by omega
          have e2 : decide ((k : Int) < (k : Int)) = false := by simp
          rw [Nat.sub_self] at hL
          have HN := hid hL.done
          have H2 := hid h
          clear hL h
          go_wp2_with fail
          go_ret
          exact elPost_some (by rw [HX.out, HN.out]) H2.out
end Go.Proofs.Ytipafegiobnkpaa
