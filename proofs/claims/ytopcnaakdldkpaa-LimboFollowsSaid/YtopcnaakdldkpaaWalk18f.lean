/- LimboFollows. -/
import Derived.Test.YtopcnaakdldkpaaRdr
import Derived.Test.YtopcnaakdldkpaaAw18
import Derived.Test.YtopcnaakdldkpaaArg5
namespace Go.Proofs.Ytopcnaakdldkpaa
open Go.RowKit
set_option linter.unusedVariables false
/-! ## The plain law: one step of a drain's first push -/
section
variable {hs ns : List Int} {B : Int} {q : QM}
theorem qs_step (f : FI hs ns B) (hB : B ≤ 900) (p : QW hs ns B q) : FI (pushH hs q) (pushS ns q) (B + 1) ∧ ((pushN hs q).at_ ≠ 3 → QW (pushH hs q) (pushS ns q) (B + 1) (pushN hs q)) := by
  obtain ⟨g, cl, bk, at_, hd⟩ := q
  have pc : cl = fcls bk := p.c
  have pb : bk < 6 := p.b
  have pl : cl < 4 := by rw [pc]; exact fcls_lt bk
  obtain h0 | h0 | h0 : at_ = 0 ∨ at_ = 1 ∨ at_ = 2 := by have : at_ ≤ 2 := p.a; omega
  · subst h0
    have e1 : pushN hs ⟨g, cl, bk, 0, hd⟩ = ⟨g, cl, bk, 1, hs.getD cl 0⟩ := by simp [pushN]
    have e2 : pushH hs ⟨g, cl, bk, 0, hd⟩ = hs := by simp [pushH]
    have e3 : pushS ns ⟨g, cl, bk, 0, hd⟩ = ns := by simp [pushS]
    rw [e1, e2, e3]
    exact ⟨f.le (by omega), fun _ => ⟨pc, pb, by show 1 ≤ 2; omega, fun _ => (f.now pl).mono (by omega), fun h => by cases h⟩⟩
  · subst h0
    have hw := p.h (by show 1 ≤ 1; omega)
    have h2 : 0 ≤ hd := hw.b
    have h3 : hd % 65536 ≤ 6 := hw.m
    have e1 : pushN hs ⟨g, cl, bk, 1, hd⟩ = ⟨g, cl, bk, 2, hd⟩ := by simp [pushN]
    have e2 : pushH hs ⟨g, cl, bk, 1, hd⟩ = hs := by simp [pushH]
    have e3 : pushS ns ⟨g, cl, bk, 1, hd⟩ = ns.set bk (hd % 65536) := by simp [pushS]
    rw [e1, e2, e3]
    refine ⟨f.setN pb (by omega) h3 (by omega), fun _ => ⟨pc, pb, by show 2 ≤ 2; omega, fun _ => hw.mono (by omega), fun _ => ?_⟩⟩
    show (ns.set bk (hd % 65536)).getD bk 0 = hd % 65536
    rw [getD_set (by rw [f.nl]; exact pb), if_pos rfl]
  · subst h0
    have hw := p.h (by show 1 ≤ 2; omega)
    have h2 : 0 ≤ hd := hw.b
    have h4 : hd / 65536 ≤ B := hw.t
    have e3 : pushS ns ⟨g, cl, bk, 2, hd⟩ = ns := by simp [pushS]
    rw [e3]
    by_cases he : hs.getD cl 0 = hd
    · have e1 : pushN hs ⟨g, cl, bk, 2, hd⟩ = ⟨g, cl, bk, 3, hd⟩ := by simp only [pushN]; rw [if_neg (by decide), if_neg (by decide), if_pos he]
      have e2 : pushH hs ⟨g, cl, bk, 2, hd⟩ = hs.set cl (bumpV hd bk) := by simp only [pushH]; exact if_pos ⟨by trivial, he⟩
      obtain ⟨t1, t2, t3⟩ := bumpV_tag h2 (by omega : hd / 65536 ≤ 1000) (t := bk) (by omega)
      rw [e1, e2]
      exact ⟨f.setH pl t3 (by omega) (by omega) (by omega), fun h => absurd rfl h⟩
    · have e1 : pushN hs ⟨g, cl, bk, 2, hd⟩ = ⟨g, cl, bk, 0, hd⟩ := by simp only [pushN]; rw [if_neg (by decide), if_neg (by decide), if_neg he]
      have e2 : pushH hs ⟨g, cl, bk, 2, hd⟩ = hs := by simp only [pushH]; rw [if_neg (fun h => he h.2)]
      rw [e1, e2]
      exact ⟨f.le (by omega), fun _ => ⟨pc, pb, by show 0 ≤ 2; omega, fun h => absurd h (by show ¬ 1 ≤ 0; omega), fun h => by cases h⟩⟩
end
theorem pushN_bk (hs : List Int) (q : QM) : (pushN hs q).bk = q.bk ∧ (pushN hs q).cl = q.cl ∧ (pushN hs q).g = q.g := by
  unfold pushN
  repeat' split
  all_goals exact ⟨rfl, rfl, rfl⟩
/-- The same push in another block. -/
def gQ (g : Nat) (q : QM) : QM := { q with g := g }
theorem gQ_N (hs : List Int) (g : Nat) (q : QM) : pushN hs (gQ g q) = gQ g (pushN hs q) := by
  unfold pushN gQ
  simp only
  repeat' split
  all_goals rfl
theorem gQ_qw {hs ns : List Int} {B : Int} {q : QM} (g : Nat) (p : QW hs ns B q) : QW hs ns B (gQ g q) := ⟨p.c, p.b, p.a, p.h, p.x⟩
/-- A push that has not begun. -/
def NewQ (q : QM) : Prop := q.at_ = 0 ∧ q.hd = 0 ∧ q.cl = fcls q.bk ∧ q.bk < 6
theorem NewQ.qw {q : QM} (h : NewQ q) (hs ns : List Int) (B : Int) : QW hs ns B q := ⟨h.2.2.1, h.2.2.2, by rw [h.1]; omega, fun h1 => by have := h.1; omega, fun h1 => by have := h.1; omega⟩
/-- The two drains: the program's pushes, the reference's first one. -/
structure DD (hs ns : List Int) (B : Int) (qs : List QM) (bs : List Nat) (p : Option QM) : Prop where
  fi : FI hs ns B
  bs : bs = qs.map (·.bk)
  hd : ∀ q r, qs = q :: r → QW hs ns B q ∧ (∃ g, p = some (gQ g q)) ∧ ∀ x ∈ r, NewQ x
theorem DD.begin {hs ns : List Int} {B : Int} {qs : List QM} {bs : List Nat} {p p0 : Option QM} (f : FI hs ns B) (h : ∀ x ∈ qs, NewQ x) (hb : bs = qs.map (·.bk)) (hp : RdB bs p0 p) : DD hs ns B qs bs p := by
  refine ⟨f, hb, fun q r e => ?_⟩
  subst e
  have hq := h q (by simp)
  refine ⟨hq.qw _ _ _, ?_, fun x hx => h x (by simp [hx])⟩
  subst hb
  obtain ⟨g, rfl⟩ := hp
  refine ⟨g, ?_⟩
  obtain ⟨g1, cl, bk, at_, hd⟩ := q
  obtain ⟨h1, h2, h3, h4⟩ := hq
  simp only at h1 h2 h3
  subst h1 h2 h3
  rfl
theorem DD.step {hs ns : List Int} {B : Int} {q : QM} {r : List QM} {bs : List Nat} {g : Nat} {bs' : List Nat} {p' : Option QM} (h : DD hs ns B (q :: r) bs (some (gQ g q))) (hB : B ≤ 900) (hn : RdN hs (gQ g q) bs bs' p') :
    DD (pushH hs q) (pushS ns q) (B + 1) (drN hs (q :: r)) bs' p' := by
  obtain ⟨h1, _, h3⟩ := h.hd q r rfl
  obtain ⟨f1, f2⟩ := qs_step h.fi hB h1
  have hbs := h.bs
  unfold RdN at hn
  rw [gQ_N] at hn
  have ea : (gQ g (pushN hs q)).at_ = (pushN hs q).at_ := rfl
  rw [ea] at hn
  rcases hn with ⟨ha, rfl, hp⟩ | ⟨ha, rfl, rfl⟩
  · have e : drN hs (q :: r) = r := if_pos ha
    rw [e]
    rw [hbs] at hp ⊢
    exact DD.begin f1 h3 rfl hp
  · have e : drN hs (q :: r) = pushN hs q :: r := if_neg ha
    rw [e]
    refine ⟨f1, ?_, fun q2 r2 e2 => ?_⟩
    · rw [hbs, List.map_cons, List.map_cons, (pushN_bk hs q).1]
    · injection e2 with e2 e3
      subst e2 e3
      exact ⟨f2 ha, ⟨g, rfl⟩, h3⟩
theorem zipB : ∀ (es : List (Int × Int)) (gs : List Nat), gs.length = es.length → (∀ e ∈ es, 0 ≤ e.1 ∧ e.1 < 6) → (∀ x ∈ List.zipWith qOf gs es, NewQ x) ∧ bI es = oI ((List.zipWith qOf gs es).map (·.bk)) ∧ ∀ b ∈ (List.zipWith qOf gs es).map (·.bk), b < 6
  | [], gs, h, _ => by
    obtain rfl : gs = [] := List.length_eq_zero_iff.1 (by simpa using h)
    exact ⟨(fun x hx => (by cases hx)), rfl, (fun x hx => (by cases hx))⟩
  | e :: es, [], h, _ => by simp at h
  | e :: es, g :: gs, h, hb => by
    obtain ⟨i1, i2, i3⟩ := zipB es gs (by simpa using h) (fun x hx => hb x (by simp [hx]))
    have h0 := hb e (by simp)
    simp only [List.zipWith_cons_cons, List.map_cons]
    refine ⟨fun x hx => ?_, ?_, fun b hb2 => ?_⟩
    · rcases List.mem_cons.1 hx with rfl | hx
      · exact ⟨rfl, rfl, rfl, by show e.1.toNat < 6; omega⟩
      · exact i1 x hx
    · show Value.int .i64 e.1 :: bI es = Value.int .i64 ((e.1.toNat : Nat) : Int) :: oI _
      rw [i2, Int.toNat_of_nonneg h0.1]
    · rcases List.mem_cons.1 hb2 with rfl | hb2
      · show e.1.toNat < 6; omega
      · exact i3 b hb2
theorem addE_ok {es : List (Int × Int)} (v : Int) (l : List Int) (h : ∀ e ∈ es, 0 ≤ e.1 ∧ e.1 < 6) : ∀ e ∈ addE es v l, 0 ≤ e.1 ∧ e.1 < 6 := by
  intro e he
  unfold addE keepB at he
  rcases List.mem_append.1 he with h1 | h1
  · exact h e h1
  · obtain ⟨b, hb, rfl⟩ := List.mem_map.1 h1
    have := (List.mem_filter.1 hb).2
    simp only [decide_eq_true_eq] at this
    show 0 ≤ b ∧ b < 6
    unfold lcls at this
    split at this
    · omega
    split at this
    · omega
    split at this
    · omega
    split at this <;> omega
theorem addE_len (es : List (Int × Int)) (v : Int) (l : List Int) : (addE es v l).length ≤ es.length + l.length := by
  unfold addE keepB
  rw [List.length_append, List.length_map]
  have := List.length_filter_le (fun b => decide (0 ≤ lcls b)) l
  omega
/-! ## The argument -/
theorem listOf {p : Nat → Int → Prop} : ∀ n : Nat, (∀ i, i < n → ∃ z, p i z) → ∃ xs : List Int, xs.length = n ∧ ∀ i z, xs[i]? = some z → p i z
  | 0, _ => ⟨[], rfl, fun i z h => by simp at h⟩
  | n + 1, h => by
    obtain ⟨xs, h1, h2⟩ := listOf n (fun i hi => h i (by omega))
    obtain ⟨z, hz⟩ := h n (by omega)
    refine ⟨xs ++ [z], by simp [h1], fun i y hy => ?_⟩
    by_cases hi : i < n
    · rw [List.getElem?_append_left (by omega)] at hy
      exact h2 i y hy
    · rw [List.getElem?_append_right (by omega)] at hy
      have hi2 : i = n := by
        have := (List.getElem?_eq_some_iff.1 hy).1
        simp at this; omega
      subst hi2
      rw [h1, Nat.sub_self] at hy
      simp at hy
      rw [← hy]; exact hz
theorem kfits_ints {w : World} {m : Nat} {v : Value} (h : KFits w (m + 2) (.slice [.int .i64]) v) : ∃ (A : Option Addr) (n c : Nat) (xs : List Int), v = .slice A n c ∧ xs.length = n ∧ n ≤ maxLen ∧ (∀ z ∈ xs, I64b z) ∧ ∀ w', Below w.heap.size w w' → ∃ b, Reads w' b A n (xs.map (Value.int .i64)) := by
  obtain ⟨A, n, c, rfl, h⟩ := h
  rcases h with ⟨rfl, rfl, rfl⟩ | ⟨x, rfl, h1, h2, hf⟩
  · exact ⟨none, 0, 0, [], rfl, rfl, Nat.zero_le _, (fun z hz => by cases hz), fun w' _ => ⟨0, Reads.nil _ _⟩⟩
  · obtain ⟨xs, hx, hp⟩ := listOf (p := fun i z => w.cell? (x.add i) = some (.int .i64 z) ∧ I64b z) n (fun i hi => by
      obtain ⟨u, hc, z, rfl, hz⟩ := hf i (by omega) 0 _ rfl
      refine ⟨z, by simpa using hc, ?_⟩
      simp [Lit.wf, IntKind.min, IntKind.max, IntKind.signed, IntKind.bits] at hz
      unfold I64b; omega)
    refine ⟨some x, n, c, xs, rfl, hx, by omega, fun z hz => ?_, fun w' hb => ⟨x.block, by simpa using hx, fun k hk => ?_⟩⟩
    · obtain ⟨i, hi, rfl⟩ := List.mem_iff_getElem.1 hz
      exact (hp i _ (List.getElem?_eq_getElem hi)).2
    · have h3 := (hp k _ (List.getElem?_eq_getElem (by omega))).1
      have h4 := World.block_lt_of_cell? w _ h3
      have h5 : (x.add k).block = x.block := block_of_add _ _
      refine ⟨x, .int .i64 (xs[k]'(by omega)), rfl, rfl, ?_, ?_, ?_⟩
      · have := hb.size; omega
      · rw [List.getElem?_map, List.getElem?_eq_getElem (by omega)]; rfl
      · exact (World.cell?_of_block (hb.block _ h4)).trans h3
theorem followsArg {w : World} {v : Value} (h : KFits w 5 (.slice [.bool, .int .i64, .slice [.int .i64]]) v) : ∃ (A : Option Addr) (n c : Nat), v = .slice A n c ∧
    ∀ i, i < n → ∃ (x : Addr) (dr : Bool) (z : Int) (A' : Option Addr) (n' c' : Nat) (xs : List Int), A = some x ∧ I64b z ∧ n' ≤ maxLen ∧ xs.length = n' ∧ (∀ z ∈ xs, I64b z) ∧ ∀ w', Below w.heap.size w w' →
      w'.cell? (x.add (i * 3)) = some (.bool dr) ∧ w'.cell? ⟨(x.add (i * 3)).block, (x.add (i * 3)).off + 1, none⟩ = some (.int .i64 z) ∧ w'.cell? ⟨(x.add (i * 3)).block, (x.add (i * 3)).off + 2, none⟩ = some (.slice A' n' c') ∧ ∃ b, Reads w' b A' n' (xs.map (Value.int .i64)) := by
  obtain ⟨A, n, c, rfl, h⟩ := h
  refine ⟨A, n, c, rfl, fun i hi => ?_⟩
  rcases h with ⟨_, rfl, _⟩ | ⟨x, rfl, h1, _, hf⟩
  · omega
  obtain ⟨u0, hc0, b, rfl⟩ := hf i (by omega) 0 _ rfl
  obtain ⟨u1, hc1, z, rfl, hz⟩ := hf i (by omega) 1 _ rfl
  obtain ⟨u2, hc2, hk⟩ := hf i (by omega) 2 _ rfl
  obtain ⟨A', n', c', xs, rfl, hx, hm, hI, hR⟩ := kfits_ints hk
  have h7 := add_of_add2 x (i * 3) 0
  rw [Nat.zero_add] at h7
  have h8 := add_of_add2 x (i * 3) 1
  refine ⟨x, b, z, A', n', c', xs, rfl, ?_, hm, hx, hI, fun w' hb => ?_⟩
  · simp [Lit.wf, IntKind.min, IntKind.max, IntKind.signed, IntKind.bits] at hz
    unfold I64b; omega
  have up : ∀ a u, w.cell? a = some u → w'.cell? a = some u := fun a u hc => by
    have h6 := World.block_lt_of_cell? w a hc
    exact (World.cell?_of_block (hb.block _ h6)).trans hc
  refine ⟨up _ _ hc0, ?_, ?_, hR w' hb⟩
  · rw [← h7]; exact up _ _ hc1
  · rw [← h8]; exact up _ _ hc2
/-! ## The blocks of an addition -/
def bkL (xs : List Int) : List Int := (xs.take 6).map fun x => place x 8 - 1
theorem bkL_ok (xs : List Int) : (∀ b ∈ bkL xs, I64b b) ∧ (bkL xs).length ≤ 6 := by
  refine ⟨fun b hb => ?_, ?_⟩
  · unfold bkL at hb
    obtain ⟨x, _, rfl⟩ := List.mem_map.1 hb
    have p0 := place_nonneg x 8 (by omega)
    have p1 := place_lt x 8 (by omega)
    unfold I64b; omega
  · unfold bkL
    rw [List.length_map, List.length_take]
    omega
theorem bkL_take {xs : List Int} {k : Nat} (hk : k < xs.length) (h6 : k < 6) : bkL (xs.take (k + 1)) = bkL (xs.take k) ++ [place xs[k] 8 - 1] := by
  unfold bkL
  rw [List.take_take, List.take_take, Nat.min_eq_right (by omega), Nat.min_eq_right (by omega), ← List.take_append_getElem hk, List.map_append]
  rfl
set_option maxRecDepth 8000 in
set_option maxHeartbeats 4000000 in
theorem blocks18_any (w0 w : World) (R : Asr) (A : Option Addr) (n c : Nat) (xs : List Int) (h : Hold w0 w R) (hl : xs.length = n) (hm : n ≤ maxLen) (hR : ∀ w', Below w0.heap.size w0 w' → ∃ b, Reads w' b A n (xs.map (Value.int .i64))) :
    Calls Try.prog 13 #[.slice A n c] w fun e w' => ∃ A2 n2 c2, e = .returned (.slice A2 n2 c2) ∧ n2 = (bkL xs).length ∧ Hold w0 w' (queA 3 (.slice A2 n2 c2) ((bkL xs).map (Value.int .i64)) * R) := by
  obtain ⟨iI, hiI, iz0, iz1, iz2⟩ := parts5L info_int18
  have HR := hid hR
  have HL := hid hl
  have h0 := h.nilQue 3
  unfold maxLen at hm
  clear h hR hl
  go_enter Try.func13, Try.ntmps13
  go_wp2_with fail
  go_loopw [3, 4] (fun v3 i wr => ∃ (k : Nat) (A2 : Option Addr) (c2 : Nat), k ≤ n ∧ k ≤ 6 ∧ i = .int .i64 (k : Int) ∧ v3 = .slice A2 k c2 ∧ Hold w0 wr (queA 3 v3 ((bkL (xs.take k)).map (Value.int .i64)) * R)) (fun _ i _ => 6 - (intOf i).toNat)
  case atStart => exact ⟨0, none, 0, Nat.zero_le _, Nat.zero_le _, rfl, rfl, h0⟩
  case round =>
    clear h0
    obtain ⟨k, A2, c2, hk, hk6, rfl, rfl, h⟩ := hrel
    by_cases hlt : k < n ∧ k < 6
    · obtain ⟨hlt, hl6⟩ := hlt
      have e1 : decide ((k : Int) < (n : Int)) = true := decide_eq_true (by omega)
      have e1' : decide (k < n) = true := decide_eq_true hlt
      have e2 : decide ((k : Int) < 6) = true := decide_eq_true (by omega)
      have e2' : decide (k < 6) = true := decide_eq_true hl6
      have hkl : k < xs.length := by rw [HL.out]; exact hlt
      obtain ⟨x, hx⟩ : ∃ x, x = xs[k] := ⟨_, rfl⟩
      obtain ⟨b, hr⟩ := HR.out wr h.below
      obtain ⟨ad, hA, -, d1⟩ := hr.cellAt hlt
      have d0 : wr.cell? (ad.add k) = some (.int .i64 x) := by rw [d1, List.getElem_map, hx]
      have ht := bkL_take hkl hl6
      rw [← hx] at ht
      have hbl : ((bkL (xs.take k)).map (Value.int .i64)).length = k := by
        unfold bkL
        rw [List.length_map, List.length_map, List.length_take, List.length_take]
        omega
      obtain ⟨p, hp⟩ : ∃ p, p = place x 8 := ⟨_, rfl⟩
      have p0 := place_nonneg x 8 (by omega)
      have p1 := place_lt x 8 (by omega)
      rw [← hp] at p0 p1 ht
      have HP := hid hp
      have HT := hid ht
      have HBL := hid hbl
      have k0 : (0 : Int) ≤ (k : Int) := by omega
      have k1 : (k : Int) < (n : Int) := by omega
      subst hA
      clear d1 hr hx ht hbl hp
      go_wp2_with fail
      refine (place_any wr x 8 (by omega) (by omega)).mono ?_
      rintro e w' ⟨rfl, rfl⟩
      rw [← HP.out]
      go_wp2_with (at_builtin; refine wpList_que rfl _ _ 39 rfl iI (.int .i64 0) 8 Try.underlying39 hiI iz0 iz1 iz2 rfl (.int .i64 (p - 1)) _ rfl h rfl rfl (by rw [HBL.out]; omega) (by decide) ?_)
      intro v9 y4 h5
      obtain ⟨A9, c9, hv9⟩ := h5.queForm
      rw [List.length_append, HBL.out, show k + [Value.int .i64 (p - 1)].length = k + 1 from rfl] at hv9
      subst hv9
      have H5 := hid h5
      clear h h5 d0
      go_wp2_with fail
      go_roundw
      case rel =>
        refine ⟨k + 1, A9, c9, by omega, by omega, by go_num, rfl, ?_⟩
        rw [HT.out, List.map_append]
        exact H5.out
      case measure => simp [intOf]; omega
    · have hfin : bkL (xs.take k) = bkL xs := by
        unfold bkL
        rw [List.take_take]
        congr 1
        have := HL.out
        by_cases h6 : k < 6
        · have : k = n := by omega
          rw [Nat.min_eq_right (by omega), List.take_of_length_le (by omega), List.take_of_length_le (by omega)]
        · rw [Nat.min_eq_left (by omega)]
      have hkn : k = (bkL xs).length := by
        rw [← hfin]
        unfold bkL
        rw [List.length_map, List.length_take, List.length_take, HL.out]
        omega
      rw [hfin] at h
      have H := hid h
      have HKN := hid hkn
      clear h hfin hkn
      by_cases h1 : k < n
      · have e1 : decide ((k : Int) < (n : Int)) = true := decide_eq_true (by omega)
        have e1' : decide (k < n) = true := decide_eq_true h1
        have e2 : decide ((k : Int) < 6) = false := decide_eq_false (by omega)
        have e2' : decide (k < 6) = false := decide_eq_false (by omega)
        go_wp2_with fail
        go_ret
        exact ⟨_, _, _, rfl, HKN.out, H.out⟩
      · have e1 : decide ((k : Int) < (n : Int)) = false := decide_eq_false (by omega)
        have e1' : decide (k < n) = false := decide_eq_false h1
        go_wp2_with fail
        go_ret
        exact ⟨_, _, _, rfl, HKN.out, H.out⟩
/-! ## A step of both drains -/
def drH (hs : List Int) : List QM → List Int
  | [] => hs
  | q :: _ => pushH hs q
def drS (ns : List Int) : List QM → List Int
  | [] => ns
  | q :: _ => pushS ns q
theorem dr_stepG (w0 w : World) (R : Asr) (d r : Nat) (C : Nat → List Int) (hs ns : List Int) (B : Int) (qs : List QM) (bs : List Nat) (p : Option QM) (h : Hold w0 w (drA d qs * (memA r C * R))) (v : FV C hs ns) (hB : B ≤ 900) (D : DD hs ns B qs bs p) :
    Calls Try.prog 21 #[.pointer (some ⟨d, 0, none⟩), .pointer (some ⟨r, 0, none⟩)] w (RAccPost w0 (drA d (drN hs qs) * (memA r (drC C qs) * R)) (drAc hs ns qs)) := by
  cases qs with
  | nil => exact dr_step0 w0 w _ d r h
  | cons q qs => exact dr_step1 w0 w R d r C hs ns B q qs h v D.fi (by omega) (D.hd q qs rfl).1
theorem rd_stepG (w0 w : World) (R : Asr) (d r : Nat) (C : Nat → List Int) (hs ns : List Int) (B : Int) (qs : List QM) (bs : List Nat) (p : Option QM) (h : Hold w0 w (rdA d bs p * (refA r cfH C * R))) (v : FV C hs ns) (hB : B ≤ 900) (D : DD hs ns B qs bs p) :
    Calls Try.prog 22 #[.pointer (some ⟨d, 0, none⟩), .pointer (some ⟨r, 0, none⟩)] w fun e w' => ∃ bs' p', (DD (drH hs qs) (drS ns qs) (B + 1) (drN hs qs) bs' p' ∧ FV (drC C qs) (drH hs qs) (drS ns qs)) ∧ RAccPost w0 (rdA d bs' p' * (refA r cfH (drC C qs) * R)) (drAc hs ns qs) e w' := by
  have hbs := D.bs
  cases qs with
  | nil =>
    obtain rfl : bs = [] := hbs
    refine (rd_step0 w0 w _ d r p h).mono ?_
    rintro e w' ⟨h1, h2⟩
    exact ⟨[], p, ⟨⟨D.fi.le (by omega), rfl, fun q r e => by cases e⟩, v⟩, h1, h2⟩
  | cons q qs =>
    obtain ⟨hq, ⟨g, rfl⟩, hr⟩ := D.hd q qs rfl
    have hb6 : ∀ b ∈ qs.map (·.bk), b < 6 := fun b hb => by
      obtain ⟨x, hx, rfl⟩ := List.mem_map.1 hb
      exact (hr x hx).2.2.2
    subst hbs
    refine (rd_step1 w0 w R d r C hs ns B (gQ g q) (qs.map (·.bk)) (by exact h) v D.fi (by omega) (gQ_qw g hq) hb6).mono ?_
    rintro e w' ⟨bs', p', hn, h1, h2⟩
    exact ⟨bs', p', ⟨D.step hB hn, pushC_fv v D.fi hq⟩, h1, h2⟩
end Go.Proofs.Ytopcnaakdldkpaa
