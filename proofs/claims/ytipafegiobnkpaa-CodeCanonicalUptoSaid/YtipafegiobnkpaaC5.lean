/- The bytes of scripts: numbers, lists, scripts as lists of bytes, and how they are read; no program in sight. -/
import Derived.Test.YtipafegiobnkpaaMem
namespace Go.Proofs.Ytipafegiobnkpaa
open Go.RowKit
set_option linter.unusedVariables false

/-! ## Writing -/
def encU (n : Nat) : List Nat := if h : n < 128 then [n] else (n % 128 + 128) :: encU (n / 128)
termination_by n
decreasing_by omega
def zig (n : Int) : Nat := if n < 0 then (-(n + 1)).toNat * 2 + 1 else n.toNat * 2
def encS (n : Int) : List Nat := encU (zig n)
def encI (l : List Int) : List Nat := l.flatMap encS
def encL {α : Type} (f : α → List Nat) (l : List α) : List Nat := encU l.length ++ l.flatMap f
structure Scr where
  cf : List Int
  strong : Bool
  init : List Nat
  progs : List (List (List Int))
  picks : List Int
def mark5 : List Nat := [83, 84, 88, 49]
def encC (l : List Int) (b : Bool) : List Nat := encI l ++ [if b then 1 else 0]
def Scr.body (s : Scr) : List Nat := encC s.cf s.strong ++ (encL encU s.init ++ (encL (encL encI) s.progs ++ encL encS s.picks))
def Scr.bytes (s : Scr) : List Nat := mark5 ++ s.body
def I64 (x : Int) : Prop := -9223372036854775808 ≤ x ∧ x ≤ 9223372036854775807
structure Scr.ok (s : Scr) : Prop where
  cf : s.cf.length = 12 ∧ ∀ x ∈ s.cf, I64 x
  init : ∀ x ∈ s.init, x < 18446744073709551616
  progs : ∀ p ∈ s.progs, p.length < 18446744073709551616 ∧ ∀ i ∈ p, i.length = 5 ∧ ∀ x ∈ i, I64 x
  picks : ∀ x ∈ s.picks, I64 x
  len : s.init.length < 18446744073709551616 ∧ s.progs.length < 18446744073709551616 ∧ s.picks.length < 18446744073709551616

/-! ## Reading -/
def decG : Nat → Nat → List Nat → Option (Nat × List Nat)
  | _, _, [] => none
  | k, a, c :: bs => if (c = 0 ∧ 0 < k) ∨ (k = 9 ∧ 2 ≤ c) then none else if c < 128 then some (a + c % 128 * 2 ^ (7 * k), bs) else decG (k + 1) (a + c % 128 * 2 ^ (7 * k)) bs
def decU (bs : List Nat) : Option (Nat × List Nat) := decG 0 0 bs
def zag (v : Nat) : Int := if v % 2 = 1 then -((v / 2 : Nat) : Int) - 1 else ((v / 2 : Nat) : Int)
def decS (bs : List Nat) : Option (Int × List Nat) := (decU bs).map fun x => (zag x.1, x.2)
def many {α : Type} (p : List Nat → Option (α × List Nat)) : Nat → List Nat → Option (List α × List Nat)
  | 0, bs => some ([], bs)
  | n + 1, bs => (p bs).bind fun x => (many p n x.2).map fun y => (x.1 :: y.1, y.2)
def listD {α : Type} (p : List Nat → Option (α × List Nat)) (bs : List Nat) : Option (List α × List Nat) := (decU bs).bind fun x => if x.2.length < x.1 then none else many p x.1 x.2
def byteD : List Nat → Option (Nat × List Nat)
  | [] => none
  | c :: bs => some (c, bs)
def cfgD (bs : List Nat) : Option ((List Int × Bool) × List Nat) := (many decS 12 bs).bind fun x => (byteD x.2).bind fun y => if 1 < y.1 then none else some ((x.1, y.1 == 1), y.2)
def insD : List Nat → Option (List Int × List Nat) := many decS 5
def scrD (bs : List Nat) : Option Scr := (cfgD bs).bind fun c => (listD decU c.2).bind fun i => (listD (listD insD) i.2).bind fun p => (listD decS p.2).bind fun q => if q.2 = [] then some ⟨c.1.1, c.1.2, i.1, p.1, q.1⟩ else none
def Scr.zero : Scr := ⟨List.replicate 12 0, false, [], [], []⟩
def decode5 (bs : List Nat) : Scr × Int := if 262144 < bs.length then (.zero, 3) else if bs.length < 4 ∨ bs.take 4 ≠ mark5 then (.zero, 30) else match scrD (bs.drop 4) with
  | none => (.zero, 30)
  | some s => (s, 0)
def encode5 (s : Scr) : List Nat × Int := if 262144 < s.bytes.length then ([], 3) else (s.bytes, 0)

/-! ## Numbers -/
theorem encU_lt {n : Nat} (h : n < 128) : encU n = [n] := by rw [encU, dif_pos h]
theorem encU_ge {n : Nat} (h : ¬ n < 128) : encU n = (n % 128 + 128) :: encU (n / 128) := by rw [encU, dif_neg h]
theorem encU_byte : ∀ (n : Nat), ∀ x ∈ encU n, x < 256
  | n => by
    by_cases h : n < 128
    · rw [encU_lt h]; intro x hx; simp at hx; omega
    · rw [encU_ge h]
      intro x hx
      rcases List.mem_cons.1 hx with h1 | h1
      · omega
      · exact encU_byte (n / 128) x h1
termination_by n => n
decreasing_by omega
theorem encU_pos (n : Nat) : 1 ≤ (encU n).length := by
  by_cases h : n < 128
  · rw [encU_lt h]; simp
  · rw [encU_ge h]; simp
theorem encU_len : ∀ (k n : Nat), n < 2 ^ (7 * k) → 0 < k → (encU n).length ≤ k
  | 0, n, _, hk => by omega
  | k + 1, n, h, _ => by
    by_cases hn : n < 128
    · rw [encU_lt hn]; simp
    · rw [encU_ge hn]
      have h2 : n / 128 < 2 ^ (7 * k) := by
        rw [Nat.div_lt_iff_lt_mul (by omega)]
        rw [show 7 * (k + 1) = 7 * k + 7 by omega, Nat.pow_add] at h
        omega
      by_cases hk : k = 0
      · subst hk; simp at h2; omega
      · have := encU_len k (n / 128) h2 (by omega)
        simp; omega
theorem encU_len10 {n : Nat} (h : n < 18446744073709551616) : (encU n).length ≤ 10 := encU_len 10 n (by omega) (by omega)
theorem zig_lt {n : Int} (h : I64 n) : zig n < 18446744073709551616 := by
  unfold zig; unfold I64 at h
  split <;> omega
theorem zag_zig (n : Int) : zag (zig n) = n := by
  unfold zig zag
  split
  · rw [if_pos (by omega)]; omega
  · rw [if_neg (by omega)]; omega
theorem zig_zag (v : Nat) : zig (zag v) = v := by
  unfold zag
  split
  · unfold zig; rw [if_pos (by omega)]; omega
  · unfold zig; rw [if_neg (by omega)]; omega
theorem zag_i64 {v : Nat} (h : v < 18446744073709551616) : I64 (zag v) := by
  unfold zag I64
  split <;> omega

theorem decG_enc : ∀ (n k a : Nat) (r : List Nat), n * 2 ^ (7 * k) < 18446744073709551616 → (0 < k → 0 < n) → decG k a (encU n ++ r) = some (a + n * 2 ^ (7 * k), r)
  | n, k, a, r, h, hk => by
    have p9 : k = 9 → n < 2 := fun h9 => by
      subst h9
      rw [show (7 * 9) = 63 from rfl] at h
      omega
    by_cases hn : n < 128
    · rw [encU_lt hn, List.singleton_append, decG, if_neg (by omega), if_pos hn, Nat.mod_eq_of_lt hn]
    · rw [encU_ge hn, List.cons_append, decG, if_neg (by omega), if_neg (by omega)]
      have e1 : n = n / 128 * 128 + n % 128 := by omega
      have e2 : 2 ^ (7 * (k + 1)) = 128 * 2 ^ (7 * k) := by
        rw [show 7 * (k + 1) = 7 * k + 7 by omega, Nat.pow_add]; omega
      have e3 : n / 128 * 2 ^ (7 * (k + 1)) ≤ n * 2 ^ (7 * k) := by
        rw [e2, ← Nat.mul_assoc]
        exact Nat.mul_le_mul_right _ (by omega)
      rw [decG_enc (n / 128) (k + 1) _ r (by omega) (by omega)]
      congr 2
      rw [Nat.add_assoc, e2, ← Nat.mul_assoc, ← Nat.add_mul]
      congr 2
      omega
termination_by n => n
decreasing_by omega
theorem decU_enc {n : Nat} (r : List Nat) (h : n < 18446744073709551616) : decU (encU n ++ r) = some (n, r) := by
  unfold decU
  rw [decG_enc n 0 0 r (by omega) (by omega)]
  simp
theorem p64 : (2 : Nat) ^ 64 = 18446744073709551616 := by omega
theorem decG_inv : ∀ (bs : List Nat) (k a v : Nat) (r : List Nat), (∀ x ∈ bs, x < 256) → k ≤ 9 → decG k a bs = some (v, r) →
    ∃ n, v = a + n * 2 ^ (7 * k) ∧ n * 2 ^ (7 * k) < 18446744073709551616 ∧ (0 < k → 0 < n) ∧ bs = encU n ++ r
  | [], k, a, v, r, _, _, h => by simp [decG] at h
  | c :: bs, k, a, v, r, hb, hk, h => by
    have hc := hb c (by simp)
    rw [decG] at h
    split at h
    · cases h
    · rename_i h1
      split at h
      · rename_i h2
        simp only [Option.some.injEq, Prod.mk.injEq] at h
        obtain ⟨rfl, rfl⟩ := h
        refine ⟨c, by rw [Nat.mod_eq_of_lt h2], ?_, by omega, by rw [encU_lt h2]; rfl⟩
        by_cases h9 : k = 9
        · subst h9
          have : c < 2 := by omega
          rw [show (7 * 9) = 63 from rfl]; omega
        · have : 2 ^ (7 * k) ≤ 2 ^ 56 := Nat.pow_le_pow_right (by omega) (by omega)
          have h3 : c * 2 ^ (7 * k) ≤ 127 * 2 ^ (7 * k) := Nat.mul_le_mul_right _ (by omega)
          omega
      · rename_i h2
        have h9 : k ≠ 9 := by omega
        obtain ⟨n, rfl, hn, hp, rfl⟩ := decG_inv bs (k + 1) _ v r (fun x hx => hb x (by simp [hx])) (by omega) h
        have e2 : 2 ^ (7 * (k + 1)) = 128 * 2 ^ (7 * k) := by
          rw [show 7 * (k + 1) = 7 * k + 7 by omega, Nat.pow_add]; omega
        have e4 : (n * 128 + c % 128) * 2 ^ (7 * k) = c % 128 * 2 ^ (7 * k) + n * 2 ^ (7 * (k + 1)) := by
          rw [e2, ← Nat.mul_assoc, ← Nat.add_mul]
          congr 1; omega
        have hn0 := hp (by omega)
        refine ⟨n * 128 + c % 128, by rw [e4]; omega, ?_, by omega, ?_⟩
        · have : (∃ q, 18446744073709551616 = 2 ^ (7 * (k + 1)) * q) ∨ k = 8 := by
            by_cases h8 : k = 8
            · exact .inr h8
            · left
              refine ⟨2 ^ (64 - 7 * (k + 1)), ?_⟩
              have e9 : 7 * (k + 1) + (64 - 7 * (k + 1)) = 64 := by omega
              rw [← Nat.pow_add, e9]
          rw [e4]
          have h6 : c % 128 * 2 ^ (7 * k) < 2 ^ (7 * (k + 1)) := by
            rw [e2]
            exact Nat.mul_lt_mul_of_pos_right (Nat.mod_lt _ (by omega)) (Nat.two_pow_pos _)
          rcases this with h5 | h5
          · obtain ⟨q, hq⟩ := h5
            have h7 : n < q := by
              rw [hq, Nat.mul_comm] at hn
              exact Nat.lt_of_mul_lt_mul_left hn
            have h8 : (n + 1) * 2 ^ (7 * (k + 1)) ≤ q * 2 ^ (7 * (k + 1)) := Nat.mul_le_mul_right _ h7
            rw [Nat.mul_comm q, ← hq, Nat.succ_mul] at h8
            exact Nat.lt_of_lt_of_le (by rw [Nat.add_comm]; exact Nat.add_lt_add_left h6 _) h8
          · have e63 : 2 ^ (7 * (k + 1)) = 9223372036854775808 := by rw [h5]
            rw [e63] at hn h6 ⊢
            generalize c % 128 * 2 ^ (7 * k) = z at h6 ⊢
            clear h e4 e2 e63 hb
            omega
        · rw [encU_ge (n := n * 128 + c % 128) (by omega), show (n * 128 + c % 128) % 128 = c % 128 by omega, show (n * 128 + c % 128) / 128 = n by omega, show c % 128 + 128 = c by omega]
          rfl
theorem decU_inv {bs r : List Nat} {v : Nat} (hb : ∀ x ∈ bs, x < 256) (h : decU bs = some (v, r)) : v < 18446744073709551616 ∧ bs = encU v ++ r := by
  obtain ⟨n, h1, h2, h3, h4⟩ := decG_inv bs 0 0 v r hb (by omega) h
  simp at h1 h2
  subst h1
  exact ⟨h2, h4⟩
theorem decS_enc {n : Int} (r : List Nat) (h : I64 n) : decS (encS n ++ r) = some (n, r) := by
  unfold decS encS
  rw [decU_enc r (zig_lt h)]
  simp [zag_zig]
theorem decS_inv {bs r : List Nat} {v : Int} (hb : ∀ x ∈ bs, x < 256) (h : decS bs = some (v, r)) : I64 v ∧ bs = encS v ++ r := by
  unfold decS at h
  cases hu : decU bs with
  | none => rw [hu] at h; cases h
  | some x =>
    rw [hu] at h
    simp only [Option.map_some, Option.some.injEq, Prod.mk.injEq] at h
    obtain ⟨rfl, rfl⟩ := h
    obtain ⟨h1, h2⟩ := decU_inv hb hu
    exact ⟨zag_i64 h1, by unfold encS; rw [zig_zag]; exact h2⟩

/-! ## Lists -/
section
variable {α : Type} {p : List Nat → Option (α × List Nat)} {f : α → List Nat} {ok : α → Prop}
/-- p reads what f writes. -/
structure Codec (p : List Nat → Option (α × List Nat)) (f : α → List Nat) (ok : α → Prop) : Prop where
  enc : ∀ (x : α) (r : List Nat), ok x → p (f x ++ r) = some (x, r)
  inv : ∀ (bs r : List Nat) (x : α), (∀ b ∈ bs, b < 256) → p bs = some (x, r) → ok x ∧ bs = f x ++ r
theorem codecU : Codec decU encU (· < 18446744073709551616) := ⟨fun x r h => decU_enc r h, fun bs r x hb h => decU_inv hb h⟩
theorem codecS : Codec decS encS I64 := ⟨fun x r h => decS_enc r h, fun bs r x hb h => decS_inv hb h⟩
theorem many_enc (hc : Codec p f ok) : ∀ (l : List α) (r : List Nat), (∀ x ∈ l, ok x) → many p l.length (l.flatMap f ++ r) = some (l, r)
  | [], r, _ => rfl
  | x :: l, r, h => by
    rw [List.flatMap_cons, List.append_assoc, List.length_cons, many, hc.enc x _ (h x (by simp))]
    simp [many_enc hc l r (fun y hy => h y (by simp [hy]))]
theorem many_inv (hc : Codec p f ok) : ∀ (n : Nat) (bs r : List Nat) (l : List α), (∀ b ∈ bs, b < 256) → many p n bs = some (l, r) → l.length = n ∧ (∀ x ∈ l, ok x) ∧ bs = l.flatMap f ++ r
  | 0, bs, r, l, _, h => by
    simp [many] at h
    obtain ⟨rfl, rfl⟩ := h
    exact ⟨rfl, by simp, rfl⟩
  | n + 1, bs, r, l, hb, h => by
    rw [many] at h
    obtain ⟨⟨x, s⟩, h1, h2⟩ := Option.bind_eq_some_iff.1 h
    obtain ⟨⟨y, t⟩, h3, h4⟩ := Option.map_eq_some_iff.1 h2
    simp only [Prod.mk.injEq] at h4
    obtain ⟨rfl, rfl⟩ := h4
    obtain ⟨h5, rfl⟩ := hc.inv bs s x hb h1
    obtain ⟨rfl, h6, rfl⟩ := many_inv hc n s t y (fun b hb' => hb b (by simp [hb'])) h3
    refine ⟨by simp, fun z hz => ?_, by simp⟩
    rcases List.mem_cons.1 hz with h7 | h7
    · rw [h7]; exact h5
    · exact h6 z h7
theorem flat_le (h1 : ∀ x : α, 1 ≤ (f x).length) : ∀ l : List α, l.length ≤ (l.flatMap f).length
  | [] => by simp
  | x :: l => by
    have := h1 x
    have := flat_le h1 l
    rw [List.flatMap_cons, List.length_append, List.length_cons]; omega
theorem codecL (hc : Codec p f ok) (h1 : ∀ x : α, 1 ≤ (f x).length) : Codec (listD p) (encL f) (fun l => l.length < 18446744073709551616 ∧ ∀ x ∈ l, ok x) := by
  refine ⟨fun l r h => ?_, fun bs r l hb h => ?_⟩
  · unfold listD encL
    rw [List.append_assoc, decU_enc _ h.1]
    have := flat_le h1 l
    simp only [Option.bind_some]
    rw [if_neg (by rw [List.length_append]; omega), many_enc hc l r h.2]
  · unfold listD at h
    obtain ⟨⟨n, s⟩, h2, h3⟩ := Option.bind_eq_some_iff.1 h
    obtain ⟨h4, rfl⟩ := decU_inv hb h2
    simp only at h3
    split at h3
    · cases h3
    · obtain ⟨rfl, h5, rfl⟩ := many_inv hc n s r l (fun b hb' => hb b (by simp [hb'])) h3
      exact ⟨⟨h4, h5⟩, by unfold encL; simp⟩
end
theorem encI_len1 : ∀ x : List Int, x.length = 5 → 1 ≤ (encI x).length := fun x h => by
  have := flat_le (f := encS) (fun n => encU_pos _) x
  unfold encI; omega

theorem codecI : Codec insD encI (fun l => l.length = 5 ∧ ∀ x ∈ l, I64 x) := by
  refine ⟨fun l r h => ?_, fun bs r l hb h => ?_⟩
  · have := many_enc codecS l r h.2
    rw [h.1] at this
    exact this
  · obtain ⟨h1, h2, h3⟩ := many_inv codecS 5 bs r l hb h
    exact ⟨⟨h1, h2⟩, h3⟩
/-- Lists of instructions: their codes are never empty. -/
theorem codecLI : Codec (listD insD) (encL encI) (fun l => l.length < 18446744073709551616 ∧ ∀ x ∈ l, x.length = 5 ∧ ∀ y ∈ x, I64 y) := by
  have hc := codecI
  have flat : ∀ l : List (List Int), (∀ x ∈ l, x.length = 5) → l.length ≤ (l.flatMap encI).length := by
    intro l
    induction l with
    | nil => simp
    | cons x l ih =>
      intro h
      have h1 := encI_len1 x (h x (by simp))
      have h2 := ih (fun y hy => h y (by simp [hy]))
      rw [List.flatMap_cons, List.length_append, List.length_cons]; omega
  refine ⟨fun l r h => ?_, fun bs r l hb h => ?_⟩
  · unfold listD encL
    rw [List.append_assoc, decU_enc _ h.1]
    have := flat l (fun x hx => (h.2 x hx).1)
    simp only [Option.bind_some]
    rw [if_neg (by rw [List.length_append]; omega), many_enc hc l r h.2]
  · unfold listD at h
    obtain ⟨⟨n, s⟩, h2, h3⟩ := Option.bind_eq_some_iff.1 h
    obtain ⟨h4, rfl⟩ := decU_inv hb h2
    simp only at h3
    split at h3
    · cases h3
    · obtain ⟨rfl, h5, rfl⟩ := many_inv hc n s r l (fun b hb' => hb b (by simp [hb'])) h3
      exact ⟨⟨h4, h5⟩, by unfold encL; simp⟩
theorem encL_pos {α : Type} (f : α → List Nat) (l : List α) : 1 ≤ (encL f l).length := by
  have := encU_pos l.length
  unfold encL; simp; omega

/-! ## Scripts -/
theorem cfgD_enc (l : List Int) (b : Bool) (r : List Nat) (h : l.length = 12 ∧ ∀ x ∈ l, I64 x) : cfgD (encC l b ++ r) = some ((l, b), r) := by
  unfold cfgD encC
  have := many_enc codecS l ([if b then 1 else 0] ++ r) h.2
  rw [h.1] at this
  rw [List.append_assoc]
  show Option.bind (many decS 12 (l.flatMap encS ++ _)) _ = _
  rw [this]
  cases b <;> simp [byteD]
theorem cfgD_inv {bs r : List Nat} {l : List Int} {b : Bool} (hb : ∀ x ∈ bs, x < 256) (h : cfgD bs = some ((l, b), r)) : (l.length = 12 ∧ ∀ x ∈ l, I64 x) ∧ bs = encC l b ++ r := by
  unfold cfgD at h
  obtain ⟨⟨l', s⟩, h1, h2⟩ := Option.bind_eq_some_iff.1 h
  obtain ⟨h3, h4, rfl⟩ := many_inv codecS 12 bs s l' hb h1
  cases s with
  | nil => simp [byteD] at h2
  | cons c s =>
    simp only [byteD, Option.bind_some] at h2
    split at h2
    · cases h2
    · rename_i hc
      simp only [Option.some.injEq, Prod.mk.injEq] at h2
      obtain ⟨⟨rfl, rfl⟩, rfl⟩ := h2
      refine ⟨⟨h3, h4⟩, ?_⟩
      unfold encC encI
      have : c = 0 ∨ c = 1 := by omega
      rcases this with rfl | rfl <;> simp
theorem scrD_enc (s : Scr) (h : s.ok) : scrD s.body = some s := by
  unfold scrD Scr.body
  rw [cfgD_enc _ _ _ h.cf]
  simp only [Option.bind_some]
  rw [(codecL codecU encU_pos).enc _ _ ⟨h.len.1, h.init⟩]
  simp only [Option.bind_some]
  rw [(codecL codecLI (encL_pos _)).enc _ _ ⟨h.len.2.1, fun p hp => ⟨(h.progs p hp).1, (h.progs p hp).2⟩⟩]
  simp only [Option.bind_some]
  have := (codecL codecS (fun n => encU_pos _)).enc s.picks [] ⟨h.len.2.2, h.picks⟩
  rw [List.append_nil] at this
  rw [this]
  rfl
theorem scrD_inv {bs : List Nat} {s : Scr} (hb : ∀ x ∈ bs, x < 256) (h : scrD bs = some s) : s.ok ∧ bs = s.body := by
  unfold scrD at h
  obtain ⟨⟨⟨l, b⟩, r1⟩, h1, ha⟩ := Option.bind_eq_some_iff.1 h
  clear h
  obtain ⟨k1, rfl⟩ := cfgD_inv hb h1
  have hb := fun x hx => hb x (List.mem_append_right _ hx)
  obtain ⟨⟨i, r2⟩, h2, hb'⟩ := Option.bind_eq_some_iff.1 ha
  obtain ⟨k2, e2⟩ := (codecL codecU encU_pos).inv _ _ _ hb h2
  subst e2
  have hb := fun x hx => hb x (List.mem_append_right _ hx)
  obtain ⟨⟨p, r3⟩, h3, hc'⟩ := Option.bind_eq_some_iff.1 hb'
  obtain ⟨k3, e3⟩ := (codecL codecLI (encL_pos _)).inv _ _ _ hb h3
  subst e3
  have hb := fun x hx => hb x (List.mem_append_right _ hx)
  obtain ⟨⟨q, r4⟩, h4, hd⟩ := Option.bind_eq_some_iff.1 hc'
  obtain ⟨k4, e4⟩ := (codecL codecS (fun n => encU_pos _)).inv _ _ _ hb h4
  subst e4
  simp only at hd
  split at hd
  · rename_i hn
    simp only [Option.some.injEq] at hd
    subst hd
    exact ⟨⟨k1, k2.2, fun x hx => ⟨(k3.2 x hx).1, (k3.2 x hx).2⟩, k4.2, k2.1, k3.1, k4.1⟩, by unfold Scr.body; simp [hn]⟩
  · cases hd
end Go.Proofs.Ytipafegiobnkpaa
