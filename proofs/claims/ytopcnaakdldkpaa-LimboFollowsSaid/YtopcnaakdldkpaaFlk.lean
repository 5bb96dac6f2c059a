/- freelist: the invariant of pops and pushes of several threads. -/
import Derived.Test.YtopcnaakdldkpaaFlp
import Derived.Test.YtopcnaakdldkpaaFl
namespace Go.Proofs.Ytopcnaakdldkpaa
open Go.RowKit
set_option linter.unusedVariables false

theorem bumpV_eq {hd t : Int} (h0 : 0 ≤ hd) (h1 : hd / 65536 ≤ 1000) (ht : -1 ≤ t ∧ t < 64) : bumpV hd t = (hd / 65536 + 1) * 65536 + (t + 1) := by
  unfold bumpV W.headW W.okG W.okB
  have e : (hd / 65536 + 1) % 281474976710656 = hd / 65536 + 1 := by omega
  rw [e, if_pos]
  simp
  omega
theorem bumpV_tag {hd t : Int} (h0 : 0 ≤ hd) (h1 : hd / 65536 ≤ 1000) (ht : -1 ≤ t ∧ t < 64) : bumpV hd t / 65536 = hd / 65536 + 1 ∧ bumpV hd t % 65536 = t + 1 ∧ 0 ≤ bumpV hd t := by
  rw [bumpV_eq h0 h1 ht]
  omega
/-- The class of a block of the statements' heap. -/
def fcls (b : Nat) : Nat := if b < 3 then 0 else if b < 5 then 1 else 2
theorem fcls_lt (b : Nat) : fcls b < 4 := by unfold fcls; split; · omega
                                             · split <;> omega
/-- The bounds of heads and links. -/
structure FI (hs ns : List Int) (B : Int) : Prop where
  hl : hs.length = 4
  nl : ns.length = 6
  hb : ∀ k : Nat, k < 4 → 0 ≤ hs.getD k 0 ∧ hs.getD k 0 % 65536 ≤ 6 ∧ hs.getD k 0 / 65536 ≤ B
  nb : ∀ b : Nat, 0 ≤ ns.getD b 0 ∧ ns.getD b 0 ≤ 6
/-- What a machine knows of a head that it has loaded. -/
structure HW (hs : List Int) (B : Int) (cl : Nat) (hd : Int) : Prop where
  b : 0 ≤ hd
  m : hd % 65536 ≤ 6
  t : hd / 65536 ≤ B
  le : hd / 65536 ≤ hs.getD cl 0 / 65536
  eq : hd / 65536 = hs.getD cl 0 / 65536 → hd = hs.getD cl 0
section
variable {hs ns : List Int} {B B' : Int} {cl k : Nat} {hd v : Int}
theorem FI.now (h : FI hs ns B) (hk : k < 4) : HW hs B k (hs.getD k 0) := ⟨(h.hb k hk).1, (h.hb k hk).2.1, (h.hb k hk).2.2, Int.le_refl _, fun _ => rfl⟩
theorem FI.le (h : FI hs ns B) (hB : B ≤ B') : FI hs ns B' := ⟨h.hl, h.nl, fun k hk => by have := h.hb k hk; omega, h.nb⟩
theorem HW.mono (h : HW hs B cl hd) (hB : B ≤ B') : HW hs B' cl hd := ⟨h.b, h.m, by have := h.t; omega, h.le, h.eq⟩
theorem HW.set (h : HW hs B cl hd) (hl : k < hs.length) (hv : v / 65536 = hs.getD k 0 / 65536 + 1) (hB : B ≤ B') : HW (hs.set k v) B' cl hd := by
  refine ⟨h.b, h.m, by have := h.t; omega, ?_, ?_⟩
  all_goals rw [getD_set hl]
  · have := h.le
    split
    · rename_i he; subst he; omega
    · exact this
  · have := h.le
    split
    · rename_i he; subst he; intro h1; omega
    · exact h.eq
theorem FI.setH (h : FI hs ns B) (hk : k < 4) (h0 : 0 ≤ v) (h1 : v % 65536 ≤ 6) (h2 : v / 65536 ≤ B') (hB : B ≤ B') : FI (hs.set k v) ns B' := by
  refine ⟨by simp [h.hl], h.nl, fun j hj => ?_, h.nb⟩
  rw [getD_set (by rw [h.hl]; exact hk)]
  split
  · exact ⟨h0, h1, h2⟩
  · have := h.hb j hj; omega
theorem FI.setN (h : FI hs ns B) {b : Nat} (hb : b < 6) (h0 : 0 ≤ v) (h1 : v ≤ 6) (hB : B ≤ B') : FI hs (ns.set b v) B' := by
  refine ⟨h.hl, by simp [h.nl], fun j hj => by have := h.hb j hj; omega, fun j => ?_⟩
  rw [getD_set (by rw [h.nl]; exact hb)]
  split
  · exact ⟨h0, h1⟩
  · exact h.nb j
end
/-- A pop. -/
structure PM where
  g : Nat
  cl : Nat
  at_ : Nat
  hd : Int
  nx : Int
  bk : Int
/-- A push. -/
structure QM where
  g : Nat
  cl : Nat
  bk : Nat
  at_ : Nat
  hd : Int
structure PW (hs ns : List Int) (B : Int) (m : PM) : Prop where
  c : m.cl < 4
  a : m.at_ ≤ 2
  n : 0 ≤ m.nx ∧ m.nx ≤ 6
  h : 1 ≤ m.at_ → HW hs B m.cl m.hd ∧ 1 ≤ m.hd % 65536
  x : m.at_ = 2 → m.hd = hs.getD m.cl 0 → m.nx = ns.getD (m.hd % 65536 - 1).toNat 0
structure QW (hs ns : List Int) (B : Int) (m : QM) : Prop where
  c : m.cl = fcls m.bk
  b : m.bk < 6
  a : m.at_ ≤ 2
  h : 1 ≤ m.at_ → HW hs B m.cl m.hd
  x : m.at_ = 2 → ns.getD m.bk 0 = m.hd % 65536
def cntL (L : Nat → List Nat) (b : Nat) : Nat := (L 0).count b + (L 1).count b + (L 2).count b + (L 3).count b
def qv (b : Nat) : Option QM → Nat
  | none => 0
  | some m => if m.bk = b then 1 else 0
def pcnt (ys : List (Option QM)) (b : Nat) : Nat := (ys.map (qv b)).sum
theorem pcnt_set {b : Nat} {o : Option QM} : ∀ {ys : List (Option QM)} {t : Nat} {p : Option QM}, ys[t]? = some p → pcnt (ys.set t o) b + qv b p = pcnt ys b + qv b o
  | [], t, p, h => by simp at h
  | y :: ys, 0, p, h => by simp at h; subst h; simp [pcnt]; omega
  | y :: ys, t + 1, p, h => by
    have := pcnt_set (b := b) (o := o) (ys := ys) (t := t) (p := p) (by simpa using h)
    simp [pcnt] at *; omega
def updL (L : Nat → List Nat) (k : Nat) (l : List Nat) : Nat → List Nat := fun j => if j = k then l else L j
theorem cntL_upd {L : Nat → List Nat} {k : Nat} (hk : k < 4) (l : List Nat) (b : Nat) : cntL (updL L k l) b + (L k).count b = cntL L b + l.count b := by
  obtain h | h | h | h : k = 0 ∨ k = 1 ∨ k = 2 ∨ k = 3 := by omega
  all_goals
    subst h
    simp [cntL, updL]
    omega
theorem cntL_ge {L : Nat → List Nat} {k : Nat} (hk : k < 4) (b : Nat) : (L k).count b ≤ cntL L b := by
  obtain h | h | h | h : k = 0 ∨ k = 1 ∨ k = 2 ∨ k = 3 := by omega
  all_goals
    subst h
    unfold cntL
    omega
theorem pcnt_ge {b : Nat} {m : QM} : ∀ {ys : List (Option QM)} {t : Nat}, ys[t]? = some (some m) → m.bk = b → 1 ≤ pcnt ys b
  | [], t, h, _ => by simp at h
  | y :: ys, 0, h, hb => by simp at h; subst h; simp [pcnt, qv, hb]
  | y :: ys, t + 1, h, hb => by
    have := pcnt_ge (ys := ys) (t := t) (by simpa using h) hb
    simp [pcnt] at *; omega
theorem set_cases {α : Type} {xs : List α} {t k : Nat} {a b : α} (h : (xs.set t a)[k]? = some b) : (k = t ∧ b = a ∧ t < xs.length) ∨ (k ≠ t ∧ xs[k]? = some b) := by
  by_cases he : t = k
  · subst he
    have hl : t < xs.length := by
      have := (List.getElem?_eq_some_iff.1 h).1
      simpa using this
    rw [List.getElem?_set_self hl] at h
    exact .inl ⟨rfl, (Option.some.inj h).symm, hl⟩
  · rw [List.getElem?_set_ne he] at h
    exact .inr ⟨Ne.symm he, h⟩
/-- Each block is in the list of its class, held or being pushed, once. -/
structure KI (hs ns : List Int) (L : Nat → List Nat) (held : List Nat) (xs : List (Option PM)) (ys : List (Option QM)) (B : Int) : Prop where
  fi : FI hs ns B
  bb : B ≤ 1000
  ch : ∀ k : Nat, k < 4 → Chain ns (hs.getD k 0 % 65536) (L k)
  cl : ∀ k : Nat, k < 4 → ∀ b ∈ L k, fcls b = k
  hd : ∀ b ∈ held, b < 6
  ct : ∀ b : Nat, b < 6 → cntL L b + held.count b + pcnt ys b = 1
  px : ∀ (t : Nat) (m : PM), xs[t]? = some (some m) → PW hs ns B m
  qy : ∀ (t : Nat) (m : QM), ys[t]? = some (some m) → QW hs ns B m
section
variable {hs ns : List Int} {L : Nat → List Nat} {held : List Nat} {xs : List (Option PM)} {ys : List (Option QM)} {B B' : Int} {t : Nat} {m : PM} {q : QM}
theorem Chain.lt {ns : List Int} : ∀ {l : List Nat} {k : Int}, Chain ns k l → ∀ b ∈ l, b < ns.length
  | [], _, _, b, hb => by cases hb
  | a :: l, k, ⟨_, h2, h3⟩, b, hb => by
    rcases List.mem_cons.1 hb with rfl | hb
    · exact h2
    · exact Chain.lt h3 b hb
theorem KI.nodup (h : KI hs ns L held xs ys B) {k : Nat} (hk : k < 4) : (L k).Nodup := by
  rw [List.nodup_iff_count]
  intro b
  by_cases hb : b ∈ L k
  · have hb6 := (h.ch k hk).lt b hb
    rw [h.fi.nl] at hb6
    have := h.ct b hb6
    have := cntL_ge (L := L) hk b
    omega
  · rw [List.count_eq_zero.2 hb]; omega
theorem nodup_len : ∀ {n : Nat} {l : List Nat}, l.Nodup → (∀ b ∈ l, b < n) → l.length ≤ n
  | 0, [], _, _ => Nat.le_refl _
  | 0, a :: l, _, h => absurd (h a (by simp)) (by omega)
  | n + 1, l, hn, h => by
    have h1 := nodup_len (n := n) (l := l.erase n) (hn.erase n) (fun b hb => by
      have h2 := (hn.mem_erase_iff.1 hb)
      have := h b h2.2
      omega)
    have := List.length_erase (a := n) (l := l)
    split at this <;> omega
theorem KI.listF (h : KI hs ns L held xs ys B) {k : Nat} (hk : k < 4) : listF hs ns k = (toI (L k), 0) :=
  listF_chain hk h.fi.hl (h.ch k hk) (h.nodup hk) (nodup_len (h.nodup hk) (h.ch k hk).lt)
theorem KI.mono (h : KI hs ns L held xs ys B) (hB : B ≤ B') (hB2 : B' ≤ 1000) : KI hs ns L held xs ys B' :=
  ⟨h.fi.le hB, hB2, h.ch, h.cl, h.hd, h.ct, fun t m ht => let p := h.px t m ht; ⟨p.c, p.a, p.n, fun ha => ⟨(p.h ha).1.mono hB, (p.h ha).2⟩, p.x⟩, fun t m ht => let p := h.qy t m ht; ⟨p.c, p.b, p.a, fun ha => (p.h ha).mono hB, p.x⟩⟩
/-- A pop that changes no cell. -/
theorem KI.setP (h : KI hs ns L held xs ys B) (o : Option PM) (ho : ∀ m, o = some m → PW hs ns B m) : KI hs ns L held (xs.set t o) ys B :=
  ⟨h.fi, h.bb, h.ch, h.cl, h.hd, h.ct, fun k m hk => by
    rcases set_cases hk with ⟨_, he, _⟩ | ⟨_, hk⟩
    · exact ho m he.symm
    · exact h.px k m hk, h.qy⟩
/-- A push that changes no cell. -/
theorem KI.setQ (h : KI hs ns L held xs ys B) (ht : ys[t]? = some (some q)) {q' : QM} (hb : q'.bk = q.bk) (ho : QW hs ns B q') : KI hs ns L held xs (ys.set t (some q')) B :=
  ⟨h.fi, h.bb, h.ch, h.cl, h.hd, fun b hb6 => by
    have h1 := h.ct b hb6
    have h2 := pcnt_set (b := b) (o := some q') ht
    have h3 : qv b (some q') = qv b (some q) := by simp [qv, hb]
    omega, h.px, fun k m hk => by
    rcases set_cases hk with ⟨_, he, _⟩ | ⟨_, hk⟩
    · obtain rfl := Option.some.inj he
      exact ho
    · exact h.qy k m hk⟩
theorem KI.popLoad (h : KI hs ns L held xs ys B) (ht : xs[t]? = some (some m)) (h1 : 1 ≤ hs.getD m.cl 0 % 65536) : KI hs ns L held (xs.set t (some { m with at_ := 1, hd := hs.getD m.cl 0 })) ys B :=
  h.setP _ fun m' he => by
    obtain rfl := Option.some.inj he
    have p := h.px t m ht
    exact ⟨p.c, by show 1 ≤ 2; omega, p.n, fun _ => ⟨h.fi.now p.c, h1⟩, fun h2 => by cases h2⟩
theorem KI.popNext (h : KI hs ns L held xs ys B) (ht : xs[t]? = some (some m)) (ha : m.at_ = 1) : KI hs ns L held (xs.set t (some { m with at_ := 2, nx := ns.getD (m.hd % 65536 - 1).toNat 0 })) ys B :=
  h.setP _ fun m' he => by
    obtain rfl := Option.some.inj he
    have p := h.px t m ht
    exact ⟨p.c, by show 2 ≤ 2; omega, h.fi.nb _, fun _ => p.h (by omega), fun _ _ => rfl⟩
theorem KI.popNo (h : KI hs ns L held xs ys B) (ht : xs[t]? = some (some m)) : KI hs ns L held (xs.set t (some { m with at_ := 0 })) ys B :=
  h.setP _ fun m' he => by
    obtain rfl := Option.some.inj he
    have p := h.px t m ht
    exact ⟨p.c, by show 0 ≤ 2; omega, p.n, fun h2 => absurd h2 (by show ¬ 1 ≤ 0; omega), fun h2 => by cases h2⟩
theorem KI.swapped (h : KI hs ns L held xs ys B) (hB : B + 1 ≤ 1000) {k : Nat} (hk : k < 4) {v : Int} (hv : v / 65536 = hs.getD k 0 / 65536 + 1) (l held' : List Nat) (ys' : List (Option QM)) (h0 : 0 ≤ v ∧ v % 65536 ≤ 6)
    (hc : Chain ns (v % 65536) l) (hcl : ∀ b ∈ l, fcls b = k) (hhd : ∀ b ∈ held', b < 6) (hct : ∀ b : Nat, b < 6 → l.count b + held'.count b + pcnt ys' b = (L k).count b + held.count b + pcnt ys b)
    (hq : ∀ (t : Nat) (m : QM), ys'[t]? = some (some m) → ys[t]? = some (some m)) : KI (hs.set k v) ns (updL L k l) held' xs ys' (B + 1) := by
  have hkl : k < hs.length := by rw [h.fi.hl]; exact hk
  refine ⟨h.fi.setH hk h0.1 h0.2 (by have := (h.fi.hb k hk).2.2; omega) (by omega), hB, fun j hj => ?_, fun j hj => ?_, hhd, fun b hb => ?_, fun t m ht => ?_, fun t m ht => ?_⟩
  · rw [getD_set hkl]
    unfold updL
    split
    · exact hc
    · exact h.ch j hj
  · unfold updL
    split
    · rename_i he; subst he; exact hcl
    · exact h.cl j hj
  · have h1 := cntL_upd (L := L) hk l b
    have h2 := hct b hb
    have h3 := h.ct b hb
    omega
  · have p := h.px t m ht
    refine ⟨p.c, p.a, p.n, fun ha => ⟨(p.h ha).1.set hkl hv (by omega), (p.h ha).2⟩, fun ha he => ?_⟩
    rw [getD_set hkl] at he
    split at he
    · rename_i hc2
      have h1 := (p.h (by omega)).1.le
      rw [hc2] at h1
      rw [he] at h1
      omega
    · exact p.x ha he
  · have p := h.qy t m (hq t m ht)
    exact ⟨p.c, p.b, p.a, fun ha => (p.h ha).set hkl hv (by omega), p.x⟩
theorem KI.top (h : KI hs ns L held xs ys B) {k : Nat} (hk : k < 4) (h1 : 1 ≤ hs.getD k 0 % 65536) : ∃ l, L k = (hs.getD k 0 % 65536 - 1).toNat :: l ∧ Chain ns (ns.getD (hs.getD k 0 % 65536 - 1).toNat 0) l := by
  have hc := h.ch k hk
  cases hl : L k with
  | nil => rw [hl] at hc; have hc : hs.getD k 0 % 65536 = 0 := hc; omega
  | cons b l =>
    rw [hl] at hc
    obtain ⟨e, _, hc⟩ := hc
    obtain rfl : b = (hs.getD k 0 % 65536 - 1).toNat := by omega
    exact ⟨l, rfl, hc⟩
theorem KI.popYes (h : KI hs ns L held xs ys B) (hB : B + 1 ≤ 1000) (ht : xs[t]? = some (some m)) (ha : m.at_ = 2) (he : hs.getD m.cl 0 = m.hd) (o : Option PM) (ho : o = none) :
    ∃ l, L m.cl = (m.hd % 65536 - 1).toNat :: l ∧ KI (hs.set m.cl (bumpV m.hd (m.nx - 1))) ns (updL L m.cl l) (held ++ [(m.hd % 65536 - 1).toNat]) (xs.set t o) ys (B + 1) := by
  have p := h.px t m ht
  obtain ⟨hw, h1⟩ := p.h (by omega)
  have hx := p.x ha he.symm
  obtain ⟨l, hl, hc⟩ := h.top p.c (by rw [he]; exact h1)
  rw [he] at hl hc
  rw [← hx] at hc
  have hbp := bumpV_tag (t := m.nx - 1) hw.b (by have := hw.t; have := h.bb; omega) (by have := p.n; omega)
  have hb6 : (m.hd % 65536 - 1).toNat < 6 := by have := hw.m; omega
  have h2 := (h.setP (t := t) o (by rw [ho]; intro m he; cases he)).swapped hB p.c (v := bumpV m.hd (m.nx - 1)) (by rw [he]; exact hbp.1) l (held ++ [(m.hd % 65536 - 1).toNat]) ys ⟨hbp.2.2, by have := hbp.2.1; have := p.n; omega⟩
    (by rw [hbp.2.1]; rw [show m.nx - 1 + 1 = m.nx by omega]; exact hc)
    (fun b hb => h.cl _ p.c b (by rw [hl]; simp [hb]))
    (fun b hb => by rcases List.mem_append.1 hb with hb | hb
                    · exact h.hd b hb
                    · rw [List.mem_singleton.1 hb]; exact hb6)
    (fun b hb => by rw [hl, List.count_append, List.count_singleton, List.count_cons]; omega) (fun _ _ h => h)
  exact ⟨l, hl, h2⟩
theorem KI.pushNew {b : Nat} (h : KI hs ns L (b :: held) xs ys B) (ht : ys[t]? = some none) (g : Nat) : KI hs ns L held xs (ys.set t (some ⟨g, fcls b, b, 0, 0⟩)) B :=
  ⟨h.fi, h.bb, h.ch, h.cl, fun c hc => h.hd c (by simp [hc]), fun c hc => by
    have h1 := h.ct c hc
    have h2 := pcnt_set (b := c) (o := some ⟨g, fcls b, b, 0, 0⟩) ht
    rw [List.count_cons] at h1
    simp only [qv] at h2
    by_cases hbc : b = c
    · rw [if_pos hbc] at h2
      rw [if_pos (by simpa using hbc)] at h1
      omega
    · rw [if_neg hbc] at h2
      rw [if_neg (by simpa using hbc)] at h1
      omega, h.px, fun k m hk => by
    rcases set_cases hk with ⟨_, he, _⟩ | ⟨_, hk⟩
    · obtain rfl := Option.some.inj he
      exact ⟨rfl, h.hd b (by simp), by show 0 ≤ 2; omega, fun h => absurd h (by show ¬ 1 ≤ 0; omega), fun h => by cases h⟩
    · exact h.qy k m hk⟩
theorem KI.pushLoad (h : KI hs ns L held xs ys B) (ht : ys[t]? = some (some q)) : KI hs ns L held xs (ys.set t (some { q with at_ := 1, hd := hs.getD q.cl 0 })) B :=
  h.setQ ht rfl (by
    have p := h.qy t q ht
    exact ⟨p.c, p.b, by show 1 ≤ 2; omega, fun _ => h.fi.now (by show q.cl < 4; rw [p.c]; exact fcls_lt _), fun h2 => by cases h2⟩)
theorem KI.pushNo (h : KI hs ns L held xs ys B) (ht : ys[t]? = some (some q)) : KI hs ns L held xs (ys.set t (some { q with at_ := 0 })) B :=
  h.setQ ht rfl (by
    have p := h.qy t q ht
    exact ⟨p.c, p.b, by show 0 ≤ 2; omega, fun h2 => absurd h2 (by show ¬ 1 ≤ 0; omega), fun h2 => by cases h2⟩)
theorem KI.apart (h : KI hs ns L held xs ys B) (ht : ys[t]? = some (some q)) {k : Nat} (hk : k < 4) : q.bk ∉ L k := fun hb => by
  have p := h.qy t q ht
  have h1 := h.ct q.bk p.b
  have h2 := pcnt_ge ht rfl
  have h3 := cntL_ge (L := L) hk q.bk
  have h4 : 1 ≤ (L k).count q.bk := List.count_pos_iff.2 hb
  omega
theorem KI.pushStore (h : KI hs ns L held xs ys B) (ht : ys[t]? = some (some q)) (ha : q.at_ = 1) : KI hs (ns.set q.bk (q.hd % 65536)) L held xs (ys.set t (some { q with at_ := 2 })) B := by
  have p := h.qy t q ht
  have hw := p.h (by omega)
  have hbl : q.bk < ns.length := by rw [h.fi.nl]; exact p.b
  have one : ∀ k r, k ≠ t → ys[k]? = some (some r) → r.bk ≠ q.bk := fun k r hne hk he => by
    have h1 := h.ct q.bk p.b
    have h2 := pcnt_set (b := q.bk) (o := none) ht
    have h3 := pcnt_ge (ys := ys.set t none) (t := k) (m := r) (b := q.bk) (by rw [List.getElem?_set_ne (Ne.symm hne)]; exact hk) he
    simp [qv] at h2
    omega
  refine ⟨h.fi.setN p.b (by have := hw.b; omega) hw.m (Int.le_refl _), h.bb, fun k hk => (h.ch k hk).set (h.apart ht hk), h.cl, h.hd, fun b hb => ?_, fun k m hk => ?_, fun k m hk => ?_⟩
  · have h1 := h.ct b hb
    have h2 := pcnt_set (b := b) (o := some { q with at_ := 2 }) ht
    have h3 : qv b (some { q with at_ := 2 }) = qv b (some q) := rfl
    omega
  · have pm := h.px k m hk
    refine ⟨pm.c, pm.a, pm.n, pm.h, fun h2 he => ?_⟩
    obtain ⟨l, hl, _⟩ := h.top pm.c (by rw [← he]; exact (pm.h (by omega)).2)
    have hne : q.bk ≠ (m.hd % 65536 - 1).toNat := fun hb => h.apart ht pm.c (by rw [hl, ← he, ← hb]; simp)
    rw [getD_set hbl, if_neg (Ne.symm hne)]
    exact pm.x h2 he
  · rcases set_cases hk with ⟨_, he, _⟩ | ⟨hne, hk⟩
    · obtain rfl := Option.some.inj he
      exact ⟨p.c, p.b, by show 2 ≤ 2; omega, fun _ => hw, fun _ => by show (ns.set q.bk (q.hd % 65536)).getD q.bk 0 = _; rw [getD_set hbl, if_pos rfl]⟩
    · have pm := h.qy k m hk
      exact ⟨pm.c, pm.b, pm.a, pm.h, fun h2 => by rw [getD_set hbl, if_neg (one k m hne hk)]; exact pm.x h2⟩
theorem KI.pushYes (h : KI hs ns L held xs ys B) (hB : B + 1 ≤ 1000) (ht : ys[t]? = some (some q)) (ha : q.at_ = 2) (he : hs.getD q.cl 0 = q.hd) :
    KI (hs.set q.cl (bumpV q.hd q.bk)) ns (updL L q.cl (q.bk :: L q.cl)) held xs (ys.set t none) (B + 1) := by
  have p := h.qy t q ht
  have hw := p.h (by omega)
  have hx := p.x ha
  have hk : q.cl < 4 := by rw [p.c]; exact fcls_lt _
  have hbp := bumpV_tag (t := q.bk) hw.b (by have := hw.t; have := h.bb; omega) (by have := p.b; omega)
  have hp := p.b
  have h2 := h.swapped hB hk (v := bumpV q.hd q.bk) (by rw [he]; exact hbp.1) (q.bk :: L q.cl) held (ys.set t none) ⟨hbp.2.2, by rw [hbp.2.1]; omega⟩
    (by
      rw [hbp.2.1]
      refine ⟨rfl, by rw [h.fi.nl]; exact p.b, ?_⟩
      rw [hx, ← he]
      exact h.ch _ hk)
    (fun b hb => by
      rcases List.mem_cons.1 hb with rfl | hb
      · exact p.c.symm
      · exact h.cl _ hk b hb)
    h.hd (fun b hb => by
      have h2 := pcnt_set (b := b) (o := none) ht
      simp only [qv] at h2
      rw [List.count_cons]
      by_cases hbc : q.bk = b
      · rw [if_pos hbc] at h2
        rw [if_pos (by simpa using hbc)]
        omega
      · rw [if_neg hbc] at h2
        rw [if_neg (by simpa using hbc)]
        omega) (fun k m hk => by
      rcases set_cases hk with ⟨_, he, _⟩ | ⟨_, hk⟩
      · cases he
      · exact hk)
  exact h2
theorem KI.start {hs ns : List Int} {L : Nat → List Nat} {xs : List (Option PM)} {ys : List (Option QM)} (f : FI hs ns 0) (hx : ∀ x ∈ xs, x = none) (hy : ∀ y ∈ ys, y = none) (hc : ∀ k : Nat, k < 4 → Chain ns (hs.getD k 0 % 65536) (L k)) (hcl : ∀ k : Nat, k < 4 → ∀ b ∈ L k, fcls b = k) (hct : ∀ b : Nat, b < 6 → cntL L b = 1) : KI hs ns L [] xs ys 0 :=
  ⟨f, by decide, hc, hcl, fun b hb => absurd hb (by simp), fun b hb => by
    have h1 := hct b hb
    have h2 : ∀ ys : List (Option QM), (∀ y ∈ ys, y = none) → pcnt ys b = 0 := fun ys => by
      induction ys with
      | nil => intro _; rfl
      | cons y ys ih => intro h; rw [show pcnt (y :: ys) b = qv b y + pcnt ys b by simp [pcnt], ih (fun z hz => h z (by simp [hz])), h y (by simp)]; rfl
    rw [h2 ys hy]; simp [h1], fun t m ht => by
    exact absurd (hx _ (List.mem_of_getElem? ht)) (by simp), fun t m ht => by
    exact absurd (hy _ (List.mem_of_getElem? ht)) (by simp)⟩
end
end Go.Proofs.Ytopcnaakdldkpaa
