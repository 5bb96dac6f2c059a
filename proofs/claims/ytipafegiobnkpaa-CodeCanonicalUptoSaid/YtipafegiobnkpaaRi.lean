/- Structs of numbers are read from bytes, by the program. -/
import Derived.Test.YtipafegiobnkpaaRn
namespace Go.Proofs.Ytipafegiobnkpaa
open Go.RowKit
set_option linter.unusedVariables false

section
variable {α : Type} {p : List Nat → Option (α × List Nat)} {X : Option (List α × List Nat)} {m : Nat} {bs r : List Nat} {l : List α} {x : α}
/-- What is left of reading many: l has been read, m are to come. -/
def Left (p : List Nat → Option (α × List Nat)) (X : Option (List α × List Nat)) (m : Nat) (bs : List Nat) (l : List α) : Prop := X = (many p m bs).map fun y => (l ++ y.1, y.2)
theorem Left.start (p : List Nat → Option (α × List Nat)) (n : Nat) (bs : List Nat) : Left p (many p n bs) n bs [] := by
  unfold Left
  cases many p n bs <;> simp
theorem Left.step (h : Left p X (m + 1) bs l) (hp : p bs = some (x, r)) : Left p X m r (l ++ [x]) := by
  unfold Left at h ⊢
  rw [h, many, hp]
  simp only [Option.bind_some, Option.map_map]
  cases many p m r <;> simp
theorem Left.stop (h : Left p X (m + 1) bs l) (hp : p bs = none) : X = none := by
  unfold Left at h
  rw [h, many, hp]
  rfl
theorem Left.done (h : Left p X 0 bs l) : X = some (l, bs) := by
  unfold Left at h
  rw [h, many]
  simp
end
def putL : Array Value → Nat → List Int → Array Value
  | cs, _, [] => cs
  | cs, o, x :: l => putL (cs.setIfInBounds o (.int .i64 x)) (o + 1) l
theorem putL_snoc : ∀ (l : List Int) (cs : Array Value) (o : Nat) (x : Int), putL cs o (l ++ [x]) = (putL cs o l).setIfInBounds (o + l.length) (.int .i64 x)
  | [], cs, o, x => rfl
  | y :: l, cs, o, x => by
    show putL _ _ (l ++ [x]) = _
    rw [putL_snoc l, List.length_cons, show o + (l.length + 1) = o + 1 + l.length by omega]
    rfl
theorem putL_size : ∀ (l : List Int) (cs : Array Value) (o : Nat), (putL cs o l).size = cs.size
  | [], cs, o => rfl
  | y :: l, cs, o => by
    show (putL _ _ l).size = _
    rw [putL_size l]; simp
def ptrs (gc off n : Nat) : List Value := (List.range n).map fun i => .pointer (some ⟨gc, off + i, none⟩)
def IntoPost (w0 : World) (R : Asr) (S : SlV) (all : List Nat) (g gc : Nat) (t : TypeId) (cs : Array Value) (off : Nat) (o : Option (List Int × List Nat)) (e : Ending) (w' : World) : Prop := match o with
  | none => e = brk ∧ Hold w0 w' R
  | some x => e = .returned (.tuple #[]) ∧ Hold w0 w' (rdA S all g x.2 * (blkA t gc (putL cs off x.1) * R))
set_option maxRecDepth 8000 in
set_option maxHeartbeats 4000000 in
theorem rd_into (w0 w : World) (R : Asr) (S : SlV) (all : List Nat) (g gc : Nat) (t : TypeId) (cs : Array Value) (off n cl : Nat) (Al : Option Addr) (bs : List Nat) (h : Hold w0 w (rdA S all g bs * (blkA t gc cs * R))) (hS : Still w0 R S all) (hb : ∀ x ∈ bs, x < 256)
    (hp : ∀ w' bs' cs', Hold w0 w' (rdA S all g bs' * (blkA t gc cs' * R)) → ∃ b, Reads w' b Al n (ptrs gc off n)) (hsz : off + n ≤ cs.size) (hn : n ≤ 100) :
    Calls Try.prog 46 #[.pointer (some ⟨g, 0, none⟩), .slice Al n cl] w (IntoPost w0 R S all g gc t cs off (many decS n bs)) := by
  have HS := hid hS
  have HP := hid hp
  clear hS hp
  go_enter Try.func46, Try.ntmps46
  go_wp2_with fail
  go_loopw [8] (fun i wr => ∃ (k : Nat) (l : List Int) (bs' : List Nat), k ≤ n ∧ i = .int .i64 (k : Int) ∧ l.length = k ∧ Left decS (many decS n bs) (n - k) bs' l ∧ (∀ x ∈ bs', x < 256) ∧ Hold w0 wr (rdA S all g bs' * (blkA t gc (putL cs off l) * R))) (fun i _ => n - (intOf i).toNat)
  case atStart => exact ⟨0, [], bs, by omega, rfl, rfl, Left.start _ _ _, hb, h⟩
  case round =>
    clear h hb
    obtain ⟨k, l, bs', hk, rfl, hl, hL, hb, h⟩ := hrel
    by_cases hlt : k < n
    · have e1 : decide ((k : Int) < (n : Int)) = true := decide_eq_true (by omega)
      obtain ⟨b, hrd⟩ := HP.out _ _ _ h
      obtain ⟨ad, rfl, hb9, hcell⟩ := hrd.cellAt hlt
      replace hcell : wr.cell? (ad.add k) = some (.pointer (some ⟨gc, off + k, none⟩)) := by rw [hcell]; simp [ptrs]
      obtain ⟨m, hm⟩ : ∃ m, n - k = m + 1 := ⟨n - k - 1, by omega⟩
      rw [hm] at hL
      have HL := hid hL
      have HM := hid (And.intro hm hl)
      clear hrd hb9 hL hm hl
      go_wp2_with fail
      refine (rd_signed w0 wr _ S all g bs' h HS.out.under hb).mono ?_
      intro e w2 hp2
      cases hu : decS bs' with
      | none =>
        rw [hu] at hp2
        obtain ⟨rfl, h2⟩ := hp2
        have HN := hid (HL.out.stop hu)
        have H2 := hid h2.drop
        clear hu h h2 HL hcell
        go_wp2_with fail
        refine ⟨rfl, ?_⟩
        rw [HN.out]
        exact ⟨rfl, H2.out⟩
      | some y =>
        obtain ⟨v, r⟩ := y
        rw [hu] at hp2
        obtain ⟨he, h2⟩ := hp2
        replace he : e = .returned (.int .i64 v) := he
        subst he
        have HL2 := hid (HL.out.step hu)
        have hbr : ∀ x ∈ r, x < 256 := fun x hx => hb x (by rw [(decS_inv hb hu).2]; exact List.mem_append_right _ hx)
        have h3 := h2.swap
        have z0 := h3.blk.frozen (off + k)
        have hs1 : off + k < (putL cs off l).size := by rw [putL_size]; omega
        obtain ⟨u0, c0⟩ : ∃ u, w2.cell? ⟨gc, off + k, none⟩ = some u := ⟨_, h3.blk.some_ (i := off + k) (Array.getElem?_eq_getElem hs1)⟩
        have h4 := h3.setBlk (off + k) (i64V v)
        rw [show (putL cs off l).setIfInBounds (off + k) (i64V v) = putL cs off (l ++ [v]) by rw [putL_snoc, HM.out.2]; rfl] at h4
        have H4 := hid h4.swap
        clear hu h h2 h3 h4 HL hcell hs1
        go_wp2_with fail
        go_roundw
        case rel => exact ⟨k + 1, l ++ [v], r, by omega, by go_num, by rw [List.length_append, HM.out.2]; rfl, by rw [show n - (k + 1) = m by have := HM.out.1; omega]; exact HL2.out, hbr, H4.out⟩
        case measure => simp [intOf]; omega
    · obtain rfl : k = n := by omega
      have e1 : decide ((k : Int) < (k : Int)) = false := by simp
      rw [Nat.sub_self] at hL
      have HN := hid hL.done
      clear hL
      go_wp2_with fail
      first | go_end0 | go_ret
      rw [HN.out]
      exact ⟨rfl, h⟩
theorem blk_five {w : World} {g : Nat} {t : TypeId} {a b c d e : Value} (h : Blk w g t #[a, b, c, d, e]) :
    (w.cell? ⟨g, 0, none⟩ = some a ∧ w.cell? ⟨g, 1, none⟩ = some b ∧ w.cell? ⟨g, 2, none⟩ = some c ∧ w.cell? ⟨g, 3, none⟩ = some d ∧ w.cell? ⟨g, 4, none⟩ = some e) ∧
    w.frozen? ⟨g, 0, none⟩ = false ∧ w.frozen? ⟨g, 1, none⟩ = false ∧ w.frozen? ⟨g, 2, none⟩ = false ∧ w.frozen? ⟨g, 3, none⟩ = false ∧ w.frozen? ⟨g, 4, none⟩ = false :=
  ⟨⟨h.some_ rfl, h.some_ rfl, h.some_ rfl, h.some_ rfl, h.some_ rfl⟩, h.frozen 0, h.frozen 1, h.frozen 2, h.frozen 3, h.frozen 4⟩
theorem Hold.setFive {w0 w : World} {R : Asr} {g : Nat} {t : TypeId} {a b c d e a' b' c' d' e' : Value} (h : Hold w0 w (blkA t g #[a, b, c, d, e] * R)) :
    Hold w0 (((((w.setCell ⟨g, 0, none⟩ a').setCell ⟨g, 1, none⟩ b').setCell ⟨g, 2, none⟩ c').setCell ⟨g, 3, none⟩ d').setCell ⟨g, 4, none⟩ e') (blkA t g #[a', b', c', d', e'] * R) :=
  ((((h.setBlk 0 a').setBlk 1 b').setBlk 2 c').setBlk 3 d').setBlk 4 e'
def aggV (l : List Int) : Value := .agg (l.map (Value.int .i64)).toArray
set_option maxRecDepth 8000 in
set_option maxHeartbeats 4000000 in
theorem rd_instr (w0 w : World) (R : Asr) (S : SlV) (all : List Nat) (g : Nat) (bs : List Nat) (h : Hold w0 w (rdA S all g bs * R)) (hS : Still w0 R S all) (hb : ∀ x ∈ bs, x < 256) :
    Calls Try.prog 35 #[.pointer (some ⟨g, 0, none⟩)] w (RdPost w0 R S all g aggV (insD bs)) := by
  have h1 := ((h.newBlk (t := 57) (cs := #[.int .i64 0, .int .i64 0, .int .i64 0, .int .i64 0, .int .i64 0])).newBlk (t := 57) (cs := #[.int .i64 0, .int .i64 0, .int .i64 0, .int .i64 0, .int .i64 0])).newBlk (t := 89) (cs := #[.pointer (some ⟨w.heap.size + 1, 0, none⟩), .pointer (some ⟨w.heap.size + 1, 1, none⟩), .pointer (some ⟨w.heap.size + 1, 2, none⟩), .pointer (some ⟨w.heap.size + 1, 3, none⟩), .pointer (some ⟨w.heap.size + 1, 4, none⟩)])
  simp only [World.size_alloc] at h1
  have H1 := hid (h1.pk4 [3, 1, 0, 2])
  have HS := hid hS
  clear h h1 hS
  go_enter Try.func35, Try.ntmps35
  go_wp2_with fail
  have h1 := H1.out
  generalize hW : World.alloc _ _ = W at h1 ⊢
  clear hW H1
  generalize w.heap.size + 1 + 1 = gp at h1 ⊢
  generalize w.heap.size + 1 = gi at h1 ⊢
  generalize w.heap.size = gr at h1 ⊢
  have h1 : Hold w0 W (rdA S all g bs * (blkA 57 gi #[.int .i64 0, .int .i64 0, .int .i64 0, .int .i64 0, .int .i64 0] * (blkA 89 gp #[.pointer (some ⟨gi, 0, none⟩), .pointer (some ⟨gi, 1, none⟩), .pointer (some ⟨gi, 2, none⟩), .pointer (some ⟨gi, 3, none⟩), .pointer (some ⟨gi, 4, none⟩)] * (blkA 57 gr #[.int .i64 0, .int .i64 0, .int .i64 0, .int .i64 0, .int .i64 0] * R)))) := h1
  refine (rd_into w0 W _ S all g gi _ _ 0 5 5 (some ⟨gp, 0, none⟩) bs h1 HS.out.under.under hb (fun w' bs' cs' h => ⟨gp, h.drop.drop.blk.reads (by rfl) (by rfl)⟩) (by decide) (by decide)).mono ?_
  intro e w2 hp
  clear h1
  cases hu : many decS 5 bs with
  | none =>
    rw [hu] at hp
    obtain ⟨rfl, h2⟩ := hp
    have HN : Hid (insD bs = none) := hid hu
    have H2 := hid h2.drop.drop
    clear hu h2
    go_wp2_with fail
    exact ⟨rfl, rdPost_none HN.out H2.out⟩
  | some y =>
    obtain ⟨l, r⟩ := y
    rw [hu] at hp
    obtain ⟨he, h2⟩ := hp
    subst he
    obtain ⟨a, b, c, d, f, rfl⟩ := five (many_inv codecS 5 bs r l hb hu).1
    have HN : Hid (insD bs = some ([a, b, c, d, f], r)) := hid hu
    have h3 : Hold w0 w2 (blkA 57 gi #[.int .i64 a, .int .i64 b, .int .i64 c, .int .i64 d, .int .i64 f] * (blkA 57 gr #[.int .i64 0, .int .i64 0, .int .i64 0, .int .i64 0, .int .i64 0] * (rdA S all g r * R))) := h2.pk4 [1, 3, 0]
    clear hu h2
    obtain ⟨⟨y0, y1, y2, y3, y4⟩, _⟩ := blk_five h3.blk
    obtain ⟨⟨x0, x1, x2, x3, x4⟩, z0, z1, z2, z3, z4⟩ := blk_five h3.drop.blk
    have H8 := hid (h3.drop.setFive (a' := .int .i64 a) (b' := .int .i64 b) (c' := .int .i64 c) (d' := .int .i64 d) (e' := .int .i64 f))
    clear h3
    go_wp2_with fail
    have h8 := H8.out
    generalize hW : World.setCell _ _ _ = W8 at h8 ⊢
    clear hW H8 x0 x1 x2 x3 x4 z0 z1 z2 z3 z4 y0 y1 y2 y3 y4
    obtain ⟨⟨y0, y1, y2, y3, y4⟩, _⟩ := blk_five h8.blk
    have hfin : Hid (RdPost w0 R S all g aggV (insD bs) (.returned (aggV [a, b, c, d, f])) W8) := hid (rdPost_some HN.out h8.drop)
    exact bodyPost_ret (v := aggV [a, b, c, d, f]) (by simp [results, Try.results35, go_sem, y0, y1, y2, y3, y4, aggV]) rfl hfin.out
theorem blk_13 {w : World} {g : Nat} {t : TypeId} {a0 a1 a2 a3 a4 a5 a6 a7 a8 a9 a10 a11 a12 : Value} (h : Blk w g t #[a0, a1, a2, a3, a4, a5, a6, a7, a8, a9, a10, a11, a12]) : (w.cell? ⟨g, 0, none⟩ = some a0 ∧ w.cell? ⟨g, 1, none⟩ = some a1 ∧ w.cell? ⟨g, 2, none⟩ = some a2 ∧ w.cell? ⟨g, 3, none⟩ = some a3 ∧ w.cell? ⟨g, 4, none⟩ = some a4 ∧ w.cell? ⟨g, 5, none⟩ = some a5 ∧ w.cell? ⟨g, 6, none⟩ = some a6 ∧ w.cell? ⟨g, 7, none⟩ = some a7 ∧ w.cell? ⟨g, 8, none⟩ = some a8 ∧ w.cell? ⟨g, 9, none⟩ = some a9 ∧ w.cell? ⟨g, 10, none⟩ = some a10 ∧ w.cell? ⟨g, 11, none⟩ = some a11 ∧ w.cell? ⟨g, 12, none⟩ = some a12) ∧ w.frozen? ⟨g, 0, none⟩ = false ∧ w.frozen? ⟨g, 1, none⟩ = false ∧ w.frozen? ⟨g, 2, none⟩ = false ∧ w.frozen? ⟨g, 3, none⟩ = false ∧ w.frozen? ⟨g, 4, none⟩ = false ∧ w.frozen? ⟨g, 5, none⟩ = false ∧ w.frozen? ⟨g, 6, none⟩ = false ∧ w.frozen? ⟨g, 7, none⟩ = false ∧ w.frozen? ⟨g, 8, none⟩ = false ∧ w.frozen? ⟨g, 9, none⟩ = false ∧ w.frozen? ⟨g, 10, none⟩ = false ∧ w.frozen? ⟨g, 11, none⟩ = false ∧ w.frozen? ⟨g, 12, none⟩ = false :=
  ⟨⟨h.some_ rfl, h.some_ rfl, h.some_ rfl, h.some_ rfl, h.some_ rfl, h.some_ rfl, h.some_ rfl, h.some_ rfl, h.some_ rfl, h.some_ rfl, h.some_ rfl, h.some_ rfl, h.some_ rfl⟩, h.frozen 0, h.frozen 1, h.frozen 2, h.frozen 3, h.frozen 4, h.frozen 5, h.frozen 6, h.frozen 7, h.frozen 8, h.frozen 9, h.frozen 10, h.frozen 11, h.frozen 12⟩
theorem Hold.set13 {w0 w : World} {R : Asr} {g : Nat} {t : TypeId} {a0 a1 a2 a3 a4 a5 a6 a7 a8 a9 a10 a11 a12 b0 b1 b2 b3 b4 b5 b6 b7 b8 b9 b10 b11 b12 : Value} (h : Hold w0 w (blkA t g #[a0, a1, a2, a3, a4, a5, a6, a7, a8, a9, a10, a11, a12] * R)) : Hold w0 (((((((((((((w.setCell ⟨g, 0, none⟩ b0).setCell ⟨g, 1, none⟩ b1).setCell ⟨g, 2, none⟩ b2).setCell ⟨g, 3, none⟩ b3).setCell ⟨g, 4, none⟩ b4).setCell ⟨g, 5, none⟩ b5).setCell ⟨g, 6, none⟩ b6).setCell ⟨g, 7, none⟩ b7).setCell ⟨g, 8, none⟩ b8).setCell ⟨g, 9, none⟩ b9).setCell ⟨g, 10, none⟩ b10).setCell ⟨g, 11, none⟩ b11).setCell ⟨g, 12, none⟩ b12) (blkA t g #[b0, b1, b2, b3, b4, b5, b6, b7, b8, b9, b10, b11, b12] * R) := by
  have h0 : Hold w0 _ (blkA t g #[b0, a1, a2, a3, a4, a5, a6, a7, a8, a9, a10, a11, a12] * R) := h.setBlk 0 b0
  have h1 : Hold w0 _ (blkA t g #[b0, b1, a2, a3, a4, a5, a6, a7, a8, a9, a10, a11, a12] * R) := h0.setBlk 1 b1
  have h2 : Hold w0 _ (blkA t g #[b0, b1, b2, a3, a4, a5, a6, a7, a8, a9, a10, a11, a12] * R) := h1.setBlk 2 b2
  have h3 : Hold w0 _ (blkA t g #[b0, b1, b2, b3, a4, a5, a6, a7, a8, a9, a10, a11, a12] * R) := h2.setBlk 3 b3
  have h4 : Hold w0 _ (blkA t g #[b0, b1, b2, b3, b4, a5, a6, a7, a8, a9, a10, a11, a12] * R) := h3.setBlk 4 b4
  have h5 : Hold w0 _ (blkA t g #[b0, b1, b2, b3, b4, b5, a6, a7, a8, a9, a10, a11, a12] * R) := h4.setBlk 5 b5
  have h6 : Hold w0 _ (blkA t g #[b0, b1, b2, b3, b4, b5, b6, a7, a8, a9, a10, a11, a12] * R) := h5.setBlk 6 b6
  have h7 : Hold w0 _ (blkA t g #[b0, b1, b2, b3, b4, b5, b6, b7, a8, a9, a10, a11, a12] * R) := h6.setBlk 7 b7
  have h8 : Hold w0 _ (blkA t g #[b0, b1, b2, b3, b4, b5, b6, b7, b8, a9, a10, a11, a12] * R) := h7.setBlk 8 b8
  have h9 : Hold w0 _ (blkA t g #[b0, b1, b2, b3, b4, b5, b6, b7, b8, b9, a10, a11, a12] * R) := h8.setBlk 9 b9
  have h10 : Hold w0 _ (blkA t g #[b0, b1, b2, b3, b4, b5, b6, b7, b8, b9, b10, a11, a12] * R) := h9.setBlk 10 b10
  have h11 : Hold w0 _ (blkA t g #[b0, b1, b2, b3, b4, b5, b6, b7, b8, b9, b10, b11, a12] * R) := h10.setBlk 11 b11
  have h12 : Hold w0 _ (blkA t g #[b0, b1, b2, b3, b4, b5, b6, b7, b8, b9, b10, b11, b12] * R) := h11.setBlk 12 b12
  exact h12
theorem Left.steps {α : Type} {p : List Nat → Option (α × List Nat)} {X : Option (List α × List Nat)} : ∀ (n m : Nat) (bs r : List Nat) (l l' : List α), Left p X (m + n) bs l → many p n bs = some (l', r) → Left p X m r (l ++ l')
  | 0, m, bs, r, l, l', h, hm => by
    simp [many] at hm
    obtain ⟨rfl, rfl⟩ := hm
    simpa using h
  | n + 1, m, bs, r, l, l', h, hm => by
    rw [many] at hm
    obtain ⟨⟨x, s⟩, h1, h2⟩ := Option.bind_eq_some_iff.1 hm
    obtain ⟨⟨y, t⟩, h3, h4⟩ := Option.map_eq_some_iff.1 h2
    simp only [Prod.mk.injEq] at h4
    obtain ⟨rfl, rfl⟩ := h4
    have := Left.steps n m s t (l ++ [x]) y (Left.step (m := m + n) h h1) h3
    rw [List.append_assoc] at this
    exact this
theorem Left.stops {α : Type} {p : List Nat → Option (α × List Nat)} {X : Option (List α × List Nat)} : ∀ (n m : Nat) (bs : List Nat) (l : List α), Left p X (m + n) bs l → many p n bs = none → X = none
  | 0, m, bs, l, h, hm => by simp [many] at hm
  | n + 1, m, bs, l, h, hm => by
    rw [many] at hm
    cases h1 : p bs with
    | none => exact Left.stop (m := m + n) h h1
    | some x =>
      rw [h1] at hm
      simp only [Option.bind_some, Option.map_eq_none_iff] at hm
      exact Left.stops n m x.2 (l ++ [x.1]) (Left.step (m := m + n) (x := x.1) (r := x.2) h h1) hm
theorem putL_app : ∀ (l l' : List Int) (cs : Array Value) (o : Nat), putL (putL cs o l) (o + l.length) l' = putL cs o (l ++ l')
  | [], l', cs, o => rfl
  | y :: l, l', cs, o => by
    show putL (putL _ _ l) _ l' = putL _ _ (l ++ l')
    rw [← putL_app l, List.length_cons, show o + (l.length + 1) = o + 1 + l.length by omega]
theorem putL_at : ∀ (l : List Int) (cs : Array Value) (o : Nat), o + l.length ≤ cs.size → (putL cs o l).toList = cs.toList.take o ++ (l.map (Value.int .i64) ++ cs.toList.drop (o + l.length))
  | [], cs, o, _ => by simp [putL]
  | x :: l, cs, o, h => by
    rw [List.length_cons] at h
    show (putL _ _ l).toList = _
    rw [putL_at l _ _ (by simp; omega)]
    have h1 : o < cs.toList.length := by simp; omega
    rw [Array.toList_setIfInBounds, List.take_set, List.drop_set_of_lt (by omega), List.length_cons, List.map_cons, show o + 1 + l.length = o + (l.length + 1) by omega]
    rw [List.take_add_one, List.getElem?_eq_getElem h1]
    rw [List.set_append_right _ _ (by simp; omega)]
    simp [List.length_take]
    have h2 : o < cs.size := by simpa using h1
    rw [show o - min o cs.size = 0 by omega]
    rfl
theorem many_bytes {n : Nat} {bs r : List Nat} {l : List Int} (hb : ∀ x ∈ bs, x < 256) (h : many decS n bs = some (l, r)) : l.length = n ∧ ∀ x ∈ r, x < 256 := by
  obtain ⟨h1, _, h3⟩ := many_inv codecS n bs r l hb h
  exact ⟨h1, fun x hx => hb x (by rw [h3]; exact List.mem_append_right _ hx)⟩
def cfgV (x : List Int × Bool) : Value := .agg (x.1.map (Value.int .i64) ++ [Value.bool x.2]).toArray
def z13 : Array Value := #[.int .i64 0, .int .i64 0, .int .i64 0, .int .i64 0, .int .i64 0, .int .i64 0, .int .i64 0, .int .i64 0, .int .i64 0, .int .i64 0, .int .i64 0, .int .i64 0, .bool false]
theorem putL13 (c0 c1 c2 c3 c4 c5 c6 c7 c8 c9 c10 c11 : Int) : putL z13 0 [c0, c1, c2, c3, c4, c5, c6, c7, c8, c9, c10, c11] = #[.int .i64 c0, .int .i64 c1, .int .i64 c2, .int .i64 c3, .int .i64 c4, .int .i64 c5, .int .i64 c6, .int .i64 c7, .int .i64 c8, .int .i64 c9, .int .i64 c10, .int .i64 c11, .bool false] := by
  apply Array.toList_inj.1
  rw [putL_at _ _ _ (by show 0 + 12 ≤ 13; omega)]
  rfl
set_option maxRecDepth 8000 in
set_option maxHeartbeats 8000000 in
theorem rd_config (w0 w : World) (R : Asr) (S : SlV) (all : List Nat) (g : Nat) (bs : List Nat) (h : Hold w0 w (rdA S all g bs * R)) (hS : Still w0 R S all) (hb : ∀ x ∈ bs, x < 256) :
    Calls Try.prog 29 #[.pointer (some ⟨g, 0, none⟩)] w (RdPost w0 R S all g cfgV (cfgD bs)) := by
  have h1 := ((h.newBlk (t := 24) (cs := z13)).newBlk (t := 24) (cs := z13)).newBlk (t := 89) (cs := #[.pointer (some ⟨w.heap.size + 1, 0, none⟩), .pointer (some ⟨w.heap.size + 1, 1, none⟩), .pointer (some ⟨w.heap.size + 1, 2, none⟩)])
  simp only [World.size_alloc] at h1
  have H1 := hid (h1.pk4 [3, 1, 0, 2])
  have HS := hid hS
  have HB := hid hb
  clear h h1 hS hb
  go_enter Try.func29, Try.ntmps29
  go_wp2_with fail
  have h1 := H1.out
  unfold z13 at h1
  generalize hW : World.alloc _ _ = W at h1 ⊢
  clear hW H1
  generalize w.heap.size + 1 + 1 = gp at h1 ⊢
  generalize w.heap.size + 1 = gi at h1 ⊢
  generalize w.heap.size = gr at h1 ⊢
  have h1 : Hold w0 W (rdA S all g bs * (blkA 24 gi z13 * (blkA 89 gp #[.pointer (some ⟨gi, 0, none⟩), .pointer (some ⟨gi, 1, none⟩), .pointer (some ⟨gi, 2, none⟩)] * (blkA 24 gr z13 * R)))) := h1
  refine (rd_into w0 W _ S all g gi _ z13 0 3 3 (some ⟨gp, 0, none⟩) bs h1 HS.out.under.under HB.out (fun w' bs' cs' h => ⟨gp, h.drop.drop.blk.reads (by rfl) (by rfl)⟩) (by decide) (by decide)).mono ?_
  intro e w2 hp
  clear h1
  have hL0 := Left.start decS 12 bs
  cases hu : many decS 3 bs with
  | none =>
    rw [hu] at hp
    obtain ⟨rfl, h2⟩ := hp
    have HN : Hid (cfgD bs = none) := hid (by unfold cfgD; rw [Left.stops 3 9 bs [] hL0 hu]; rfl)
    have H2 := hid h2.drop.drop
    clear hu h2 hL0
    go_wp2_with fail
    exact ⟨rfl, rdPost_none HN.out H2.out⟩
  | some y =>
    obtain ⟨l, r⟩ := y
    rw [hu] at hp
    obtain ⟨he, h2⟩ := hp
    subst he
    have HL := hid (Left.steps 3 9 bs r [] l hL0 hu)
    have HM := hid (many_bytes HB.out hu)
    have h3 := hid (h2.pk4 [0, 1, 3])
    clear hu h2 hL0
    go_wp2_with fail
    have h3 := h3.out
    go_loopw [11] (fun i wr => ∃ (k : Nat) (l : List Int) (bs' : List Nat), k ≤ 4 ∧ i = .int .i64 (k : Int) ∧ l.length = 3 + k ∧ Left decS (many decS 12 bs) (9 - k) bs' l ∧ (∀ x ∈ bs', x < 256) ∧ Hold w0 wr (rdA S all g bs' * (blkA 24 gi (putL z13 0 l) * (blkA 24 gr z13 * R)))) (fun i _ => 4 - (intOf i).toNat)
    case atStart => exact ⟨0, l, r, by omega, rfl, HM.out.1, HL.out, HM.out.2, h3⟩
    case round =>
      clear h3 HL HM
      obtain ⟨k, l, bs', hk, rfl, hl, hL, hb, h⟩ := hrel
      by_cases hlt : k < 4
      · have e1 : decide ((k : Int) < (4 : Int)) = true := decide_eq_true (by omega)
        have i0 : (0 : Int) ≤ (k : Int) := by omega
        have i1 : (k : Int) < 4 := by omega
        have H4 := hid ((h.newBlk (t := 89) (cs := #[.pointer (some ⟨gi, 3 + k, none⟩)])).pk4 [1, 2, 0, 3])
        obtain ⟨m, hm⟩ : ∃ m, 9 - k = m + 1 := ⟨9 - k - 1, by omega⟩
        rw [hm] at hL
        have HL := hid hL
        have HM := hid (And.intro hm hl)
        clear hL hm hl h
        go_wp2_with fail
        refine (rd_into w0 _ _ S all g gi _ (putL z13 0 l) (3 + k) 1 1 (some ⟨wr.heap.size, 0, none⟩) bs' H4.out HS.out.under.under hb (fun w' bs' cs' h => ⟨_, h.drop.drop.blk.reads (by rfl) (by rfl)⟩) (by rw [putL_size]; show 3 + k + 1 ≤ 13; omega) (by decide)).mono ?_
        intro e w3 hp
        clear H4
        cases hu : many decS 1 bs' with
        | none =>
          rw [hu] at hp
          obtain ⟨rfl, h2⟩ := hp
          have HN : Hid (cfgD bs = none) := hid (by unfold cfgD; rw [Left.stops 1 m bs' l HL.out hu]; rfl)
          have H2 := hid h2.drop.drop
          clear hu h2
          go_wp2_with fail
          exact ⟨rfl, rdPost_none HN.out H2.out⟩
        | some y =>
          obtain ⟨l', r⟩ := y
          rw [hu] at hp
          obtain ⟨he, h2⟩ := hp
          subst he
          have HL2 := hid (Left.steps 1 m bs' r l l' HL.out hu)
          have hmb := many_bytes hb hu
          rw [show 3 + k = 0 + l.length by rw [HM.out.2]; omega, putL_app] at h2
          have H3 := hid (h2.pk4 [0, 1, 3])
          have HMB := hid hmb
          clear hu h2 hmb HL
          go_wp2_with fail
          go_roundw
          case rel => exact ⟨k + 1, l ++ l', r, by omega, by go_num, by rw [List.length_append, HM.out.2, HMB.out.1]; omega, by rw [show 9 - (k + 1) = m by have := HM.out.1; omega]; exact HL2.out, HMB.out.2, H3.out⟩
          case measure => simp [intOf]; omega
      · obtain rfl : k = 4 := by omega
        have e1 : decide (((4 : Nat) : Int) < (4 : Int)) = false := by decide
        have H4 := hid ((h.newBlk (t := 89) (cs := #[.pointer (some ⟨gi, 7, none⟩), .pointer (some ⟨gi, 8, none⟩), .pointer (some ⟨gi, 9, none⟩), .pointer (some ⟨gi, 10, none⟩), .pointer (some ⟨gi, 11, none⟩)])).pk4 [1, 2, 0, 3])
        have HL := hid hL
        have HM := hid hl
        clear hL hl h
        go_wp2_with fail
        refine (rd_into w0 _ _ S all g gi _ (putL z13 0 l) 7 5 5 (some ⟨wr.heap.size, 0, none⟩) bs' H4.out HS.out.under.under hb (fun w' bs' cs' h => ⟨_, h.drop.drop.blk.reads (by rfl) (by rfl)⟩) (by rw [putL_size]; decide) (by decide)).mono ?_
        intro e w3 hp
        clear H4
        cases hu : many decS 5 bs' with
        | none =>
          rw [hu] at hp
          obtain ⟨rfl, h2⟩ := hp
          have HN : Hid (cfgD bs = none) := hid (by unfold cfgD; rw [Left.stops 5 0 bs' l HL.out hu]; rfl)
          have H2 := hid h2.drop.drop
          clear hu h2
          go_wp2_with fail
          exact ⟨rfl, rdPost_none HN.out H2.out⟩
        | some y =>
          obtain ⟨l', r⟩ := y
          rw [hu] at hp
          obtain ⟨he, h2⟩ := hp
          subst he
          have hX := (Left.steps 5 0 bs' r l l' HL.out hu).done
          have hmb := many_bytes hb hu
          rw [show 7 = 0 + l.length by rw [HM.out], putL_app] at h2
          obtain ⟨L, hLe⟩ : ∃ L, L = l ++ l' := ⟨_, rfl⟩
          rw [← hLe] at h2 hX
          obtain ⟨c0, c1, c2, c3, c4, c5, c6, c7, c8, c9, c10, c11, hcf⟩ := twelve (l := L) (by rw [hLe, List.length_append, HM.out, hmb.1])
          subst hcf
          rw [putL13] at h2
          have h3 : Hold w0 w3 (rdA S all g r * (blkA 24 gi #[.int .i64 c0, .int .i64 c1, .int .i64 c2, .int .i64 c3, .int .i64 c4, .int .i64 c5, .int .i64 c6, .int .i64 c7, .int .i64 c8, .int .i64 c9, .int .i64 c10, .int .i64 c11, .bool false] * (blkA 24 gr z13 * R))) := h2.pk4 [0, 1, 3]
          have HX := hid hX
          clear hu h2 hX hmb hLe HL
          go_wp2_with fail
          cases r with
          | nil =>
            have HN : Hid (cfgD bs = none) := hid (by unfold cfgD; rw [HX.out]; rfl)
            refine (rd_byte_nil w0 w3 _ S all g h3).mono ?_
            rintro e w4 ⟨rfl, h4⟩
            have H4 := hid h4.drop.drop
            clear h3 h4
            go_wp2_with fail
            exact ⟨rfl, rdPost_none HN.out H4.out⟩
          | cons x r =>
            refine (rd_byte w0 w3 _ S all g x r h3 HS.out.under.under).mono ?_
            rintro e w4 ⟨rfl, h4⟩
            clear h3
            by_cases hbad : 1 < x
            · have HN : Hid (cfgD bs = none) := hid (by unfold cfgD; rw [HX.out]; simp [byteD, hbad])
              have e1 : ((x : Int) == 0) = false := by simp; omega
              have e2 : ((x : Int) == 1) = false := by simp; omega
              have H4 := hid h4.drop.drop.drop
              clear h4
              go_wp2_with fail
              exact ⟨rfl, rdPost_none HN.out H4.out⟩
            · have HN : Hid (cfgD bs = some (([c0, c1, c2, c3, c4, c5, c6, c7, c8, c9, c10, c11], x == 1), r)) := hid (by unfold cfgD; rw [HX.out]; simp [byteD, hbad])
              by_cases h1 : x = 1
              · subst h1
                replace HN : Hid (cfgD bs = some (([c0, c1, c2, c3, c4, c5, c6, c7, c8, c9, c10, c11], true), r)) := HN
                have h5 := h4.pk3 [1, 2, 0]
                have zz := h5.blk.frozen 12
                have bb := h5.blk.some_ (i := 12) rfl
                have h6 : Hold w0 (w4.setCell ⟨gi, 12, none⟩ (.bool true)) (blkA 24 gi #[.int .i64 c0, .int .i64 c1, .int .i64 c2, .int .i64 c3, .int .i64 c4, .int .i64 c5, .int .i64 c6, .int .i64 c7, .int .i64 c8, .int .i64 c9, .int .i64 c10, .int .i64 c11, .bool true] * (blkA 24 gr z13 * (rdA S all g r * R))) := h5.setBlk 12 (.bool true)
                have H6 := hid h6
                clear h4 h5 h6
                go_upto_region 14 with fail
                have h7 := H6.out
                generalize hW : World.setCell _ _ _ = W7 at h7 ⊢
                clear hW H6 zz bb
                have h8 := h7.swap
                clear h7
                obtain ⟨⟨y0, y1, y2, y3, y4, y5, y6, y7, y8, y9, y10, y11, y12⟩, _⟩ := blk_13 h8.drop.blk
                obtain ⟨⟨x0, x1, x2, x3, x4, x5, x6, x7, x8, x9, x10, x11, x12⟩, z0, z1, z2, z3, z4, z5, z6, z7, z8, z9, z10, z11, z12⟩ := blk_13 h8.blk
                have H9 := hid (h8.set13 (b12 := .bool true) (b0 := .int .i64 c0) (b1 := .int .i64 c1) (b2 := .int .i64 c2) (b3 := .int .i64 c3) (b4 := .int .i64 c4) (b5 := .int .i64 c5) (b6 := .int .i64 c6) (b7 := .int .i64 c7) (b8 := .int .i64 c8) (b9 := .int .i64 c9) (b10 := .int .i64 c10) (b11 := .int .i64 c11))
                clear h8
                go_wp2_with fail
                have h9 := H9.out
                generalize hW : World.setCell _ _ _ = W9 at h9 ⊢
                clear hW H9 y0 y1 y2 y3 y4 y5 y6 y7 y8 y9 y10 y11 y12 x0 x1 x2 x3 x4 x5 x6 x7 x8 x9 x10 x11 x12 z0 z1 z2 z3 z4 z5 z6 z7 z8 z9 z10 z11 z12
                obtain ⟨⟨y0, y1, y2, y3, y4, y5, y6, y7, y8, y9, y10, y11, y12⟩, _⟩ := blk_13 h9.blk
                have hfin : Hid (RdPost w0 R S all g cfgV (cfgD bs) (.returned (cfgV ([c0, c1, c2, c3, c4, c5, c6, c7, c8, c9, c10, c11], true))) W9) := hid (rdPost_some HN.out (h9.pk3 [2]))
                exact bodyPost_ret (v := cfgV ([c0, c1, c2, c3, c4, c5, c6, c7, c8, c9, c10, c11], true)) (by simp [results, Try.results29, go_sem, y0, y1, y2, y3, y4, y5, y6, y7, y8, y9, y10, y11, y12, cfgV]) rfl hfin.out
              · obtain rfl : x = 0 := by omega
                replace HN : Hid (cfgD bs = some (([c0, c1, c2, c3, c4, c5, c6, c7, c8, c9, c10, c11], false), r)) := HN
                have h7 : Hold w0 w4 (blkA 24 gi #[.int .i64 c0, .int .i64 c1, .int .i64 c2, .int .i64 c3, .int .i64 c4, .int .i64 c5, .int .i64 c6, .int .i64 c7, .int .i64 c8, .int .i64 c9, .int .i64 c10, .int .i64 c11, .bool false] * (blkA 24 gr z13 * (rdA S all g r * R))) := h4.pk3 [1, 2, 0]
                clear h4
                have h8 := h7.swap
                clear h7
                obtain ⟨⟨y0, y1, y2, y3, y4, y5, y6, y7, y8, y9, y10, y11, y12⟩, _⟩ := blk_13 h8.drop.blk
                obtain ⟨⟨x0, x1, x2, x3, x4, x5, x6, x7, x8, x9, x10, x11, x12⟩, z0, z1, z2, z3, z4, z5, z6, z7, z8, z9, z10, z11, z12⟩ := blk_13 h8.blk
                have H9 := hid (h8.set13 (b12 := .bool false) (b0 := .int .i64 c0) (b1 := .int .i64 c1) (b2 := .int .i64 c2) (b3 := .int .i64 c3) (b4 := .int .i64 c4) (b5 := .int .i64 c5) (b6 := .int .i64 c6) (b7 := .int .i64 c7) (b8 := .int .i64 c8) (b9 := .int .i64 c9) (b10 := .int .i64 c10) (b11 := .int .i64 c11))
                clear h8
                go_wp2_with fail
                have h9 := H9.out
                generalize hW : World.setCell _ _ _ = W9 at h9 ⊢
                clear hW H9 y0 y1 y2 y3 y4 y5 y6 y7 y8 y9 y10 y11 y12 x0 x1 x2 x3 x4 x5 x6 x7 x8 x9 x10 x11 x12 z0 z1 z2 z3 z4 z5 z6 z7 z8 z9 z10 z11 z12
                obtain ⟨⟨y0, y1, y2, y3, y4, y5, y6, y7, y8, y9, y10, y11, y12⟩, _⟩ := blk_13 h9.blk
                have hfin : Hid (RdPost w0 R S all g cfgV (cfgD bs) (.returned (cfgV ([c0, c1, c2, c3, c4, c5, c6, c7, c8, c9, c10, c11], false))) W9) := hid (rdPost_some HN.out (h9.pk3 [2]))
                exact bodyPost_ret (v := cfgV ([c0, c1, c2, c3, c4, c5, c6, c7, c8, c9, c10, c11], false)) (by simp [results, Try.results29, go_sem, y0, y1, y2, y3, y4, y5, y6, y7, y8, y9, y10, y11, y12, cfgV]) rfl hfin.out
end Go.Proofs.Ytipafegiobnkpaa
