/- LimboKeeps: the six pops, the blocks of a limbo, the counts; no program in sight. -/
import Derived.Test.YtopcnaakdldkpaaCl18
import Derived.Test.YtopcnaakdldkpaaAppA
import Derived.Test.YtopcnaakdldkpaaArg5
namespace Go.Proofs.Ytopcnaakdldkpaa
open Go.RowKit
set_option linter.unusedVariables false

/-- The heads after p pops. -/
def kpH : Nat → List Int
  | 0 => [1, 4, 6, 0]
  | 1 => [65538, 4, 6, 0]
  | 2 => [131075, 4, 6, 0]
  | 3 => [196608, 4, 6, 0]
  | 4 => [196608, 65541, 6, 0]
  | 5 => [196608, 131072, 6, 0]
  | _ => [196608, 131072, 65536, 0]
/-- The pop of block p after j steps. -/
def kpS (g p : Nat) : Nat → PM
  | 0 => ⟨g, fcls p, 0, 0, 0, -1⟩
  | 1 => ⟨g, fcls p, 1, (kpH p).getD (fcls p) 0, 0, -1⟩
  | 2 => ⟨g, fcls p, 2, (kpH p).getD (fcls p) 0, ns0.getD p 0, -1⟩
  | _ => ⟨g, fcls p, 3, (kpH p).getD (fcls p) 0, ns0.getD p 0, p⟩
def kpQ (p j : Nat) : List Int := if j < 3 then kpH p else kpH (p + 1)
theorem six {p : Nat} (h : p < 6) : p = 0 ∨ p = 1 ∨ p = 2 ∨ p = 3 ∨ p = 4 ∨ p = 5 := by omega
theorem kp_fi {p : Nat} (hp : p ≤ 6) : FI (kpH p) ns0 3 := by
  obtain rfl | rfl | rfl | rfl | rfl | rfl | rfl : p = 0 ∨ p = 1 ∨ p = 2 ∨ p = 3 ∨ p = 4 ∨ p = 5 ∨ p = 6 := by omega
  all_goals exact .of rfl rfl (by decide) (by decide)
theorem kp_top {p : Nat} (hp : p < 6) : (kpH p).getD (fcls p) 0 % 65536 = (p : Int) + 1 := by
  obtain rfl | rfl | rfl | rfl | rfl | rfl := six hp
  all_goals rfl
theorem ns0_le (p : Nat) : 0 ≤ ns0.getD p 0 ∧ ns0.getD p 0 ≤ 6 := fi0.nb p
theorem kp_pw (g : Nat) {p j : Nat} (hp : p < 6) (hj : j < 3) : PW (kpH p) ns0 3 (kpS g p j) := by
  have ht := kp_top hp
  have hw : HW (kpH p) 3 (fcls p) ((kpH p).getD (fcls p) 0) ∧ 1 ≤ (kpH p).getD (fcls p) 0 % 65536 := ⟨(kp_fi (by omega)).now (fcls_lt p), by omega⟩
  match j, hj with
  | 0, _ => exact ⟨fcls_lt p, by show 0 ≤ 2; decide, by show (0 : Int) ≤ 0 ∧ (0 : Int) ≤ 6; decide, fun h => absurd h (by show ¬ 1 ≤ 0; decide), fun h => by cases h⟩
  | 1, _ => exact ⟨fcls_lt p, by show 1 ≤ 2; decide, by show (0 : Int) ≤ 0 ∧ (0 : Int) ≤ 6; decide, fun _ => hw, fun h => by cases h⟩
  | 2, _ => exact ⟨fcls_lt p, by show 2 ≤ 2; decide, ns0_le p, fun _ => hw, fun _ _ => by
      show ns0.getD p 0 = ns0.getD ((kpH p).getD (fcls p) 0 % 65536 - 1).toNat 0
      rw [ht, show ((p : Int) + 1 - 1).toNat = p by omega]⟩
theorem kp_next (g : Nat) {p j : Nat} (hp : p < 6) (hj : j < 3) : popN (kpH p) ns0 (kpS g p j) = kpS g p (j + 1) ∧ popH (kpH p) (kpS g p j) = kpQ p (j + 1) := by
  obtain rfl | rfl | rfl : j = 0 ∨ j = 1 ∨ j = 2 := by omega
  all_goals
    obtain rfl | rfl | rfl | rfl | rfl | rfl := six hp
    all_goals exact ⟨rfl, rfl⟩
theorem kpS_g (g p j : Nat) : (kpS g p j).g = g := by
  match j with
  | 0 => rfl
  | 1 => rfl
  | 2 => rfl
  | j + 3 => rfl
/-- The first block of a class, and how many it has. -/
def kpB : Nat → Nat
  | 0 => 0
  | 1 => 3
  | 2 => 5
  | _ => 6
def kpN : Nat → Nat
  | 0 => 3
  | 1 => 2
  | 2 => 1
  | _ => 0
theorem kpB_next {k : Nat} (h : k < 3) : kpB (k + 1) = kpB k + kpN k ∧ kpB k + kpN k ≤ 6 ∧ kpN k ≤ 3 := by
  obtain rfl | rfl | rfl : k = 0 ∨ k = 1 ∨ k = 2 := by omega
  all_goals exact ⟨rfl, by decide, by decide⟩
theorem kpB_cls {k i : Nat} (h : k < 3) (hi : i < kpN k) : fcls (kpB k + i) = k ∧ kpB k + i < 6 := by
  obtain rfl | rfl | rfl : k = 0 ∨ k = 1 ∨ k = 2 := by omega
  · obtain rfl | rfl | rfl : i = 0 ∨ i = 1 ∨ i = 2 := by have : kpN 0 = 3 := rfl; omega
    all_goals exact ⟨rfl, by decide⟩
  · obtain rfl | rfl : i = 0 ∨ i = 1 := by have : kpN 1 = 2 := rfl; omega
    all_goals exact ⟨rfl, by decide⟩
  · obtain rfl : i = 0 := by have : kpN 2 = 1 := rfl; omega
    exact ⟨rfl, by decide⟩
theorem kp_ki : KI (kpH 6) ns0 (fun _ => []) (List.range 6) [] [none] 3 := by
  refine ⟨kp_fi (by decide), by decide, fun k hk => ?_, (fun k hk b hb => by cases hb), (fun b hb => by simpa using hb), fun b hb => ?_, (fun t m ht => by simp at ht), fun t m ht => ?_⟩
  · obtain rfl | rfl | rfl | rfl : k = 0 ∨ k = 1 ∨ k = 2 ∨ k = 3 := by omega
    all_goals rfl
  · obtain rfl | rfl | rfl | rfl | rfl | rfl := six hb
    all_goals rfl
  · match t with
    | 0 => simp at ht
    | t + 1 => simp at ht

/-! ## The blocks of a limbo -/
def blkN (es : List (Int × Int)) : List Nat := es.map fun e => e.1.toNat
theorem zipq_bk : ∀ (es : List (Int × Int)) (gs : List Nat), gs.length = es.length → (List.zipWith qOf gs es).map (·.bk) = blkN es
  | [], gs, h => by
    obtain rfl : gs = [] := List.length_eq_zero_iff.1 (by simpa using h)
    rfl
  | e :: es, [], h => by simp at h
  | e :: es, g :: gs, h => by
    simp only [List.zipWith_cons_cons, List.map_cons, blkN]
    rw [zipq_bk es gs (by simpa using h)]
    rfl
theorem zipq_new : ∀ (es : List (Int × Int)) (gs : List Nat), ∀ x ∈ List.zipWith qOf gs es, x.at_ = 0 ∧ x.hd = 0 ∧ x.cl = fcls x.bk
  | [], gs, x, hx => by cases gs <;> cases hx
  | e :: es, [], x, hx => by cases hx
  | e :: es, g :: gs, x, hx => by
    simp only [List.zipWith_cons_cons] at hx
    rcases List.mem_cons.1 hx with rfl | hx
    · exact ⟨rfl, rfl, rfl⟩
    · exact zipq_new es gs x hx
theorem kept_perm (v : Int) (es : List (Int × Int)) : (blkN es).Perm (blkN (keptE v es) ++ blkN (outE v es)) := by
  unfold blkN keptE outE
  rw [← List.map_append]
  have h := List.filter_append_perm (fun e : Int × Int => decide (v < e.2)) es
  have e1 : (fun e : Int × Int => decide (e.2 ≤ v)) = fun e : Int × Int => !decide (v < e.2) := by
    funext e
    by_cases h1 : v < e.2
    · rw [decide_eq_true h1, decide_eq_false (by omega)]; rfl
    · rw [decide_eq_false h1, decide_eq_true (by omega)]; rfl
  rw [e1]
  exact (h.map _).symm
theorem keptE_sub {v : Int} {es : List (Int × Int)} (h : ∀ e ∈ es, 0 ≤ e.1 ∧ e.1 < 6) : ∀ e ∈ keptE v es, 0 ≤ e.1 ∧ e.1 < 6 := fun e he => h e (List.mem_filter.1 he).1
theorem keptE_gt {v : Int} {es : List (Int × Int)} {e : Int × Int} (he : e ∈ keptE v es) : v < e.2 := by
  have := (List.mem_filter.1 he).2
  simpa using this
section
variable {hs ns : List Int} {L : Nat → List Nat} {outs : List Nat} {es : List (Int × Int)} {B : Int}
theorem KI.len {held : List Nat} (h : KI hs ns L held [] [none] B) : held.length ≤ 6 := by
  refine nodup_len (List.nodup_iff_count.2 fun b => ?_) h.hd
  by_cases hb : b < 6
  · have := h.ct b hb; omega
  · rw [List.count_eq_zero.2 fun hm => hb (h.hd b hm)]; omega
/-- A drain begins. -/
theorem KI.drain {gs : List Nat} (v : Int) (h : KI hs ns L (outs ++ blkN es) [] [none] B) (hg : gs.length = (outE v es).length) :
    SI hs ns L (outs ++ blkN (keptE v es)) B (List.zipWith qOf gs (outE v es)) ∧ remQ (List.zipWith qOf gs (outE v es)) ≤ 18 := by
  have h1 := h.perm (b := (outs ++ blkN (keptE v es)) ++ (List.zipWith qOf gs (outE v es)).map (·.bk)) (by
    rw [zipq_bk _ _ hg, List.append_assoc]
    exact (kept_perm v es).append_left outs)
  refine ⟨SI.begin h1 (zipq_new _ _), ?_⟩
  rw [zip_rem (fun x hx => (zipq_new _ _ x hx).1)]
  have := h1.len
  rw [List.length_append, List.length_map] at this
  omega
/-- A block is added. -/
theorem KI.add {b : Nat} (v : Int) (h : KI hs ns L (b :: outs ++ blkN es) [] [none] B) : KI hs ns L (outs ++ blkN (addE es v [(b : Int)])) [] [none] B ∧ addE es v [(b : Int)] = es ++ [((b : Int), v)] := by
  have hb : b < 6 := h.hd b (by simp)
  have hl : 0 ≤ lcls (b : Int) := by rw [lcls_nat (by omega)]; omega
  have e1 : addE es v [(b : Int)] = es ++ [((b : Int), v)] := by
    unfold addE keepB
    rw [List.filter_cons, if_pos (by simpa using hl)]
    rfl
  refine ⟨h.perm ?_, e1⟩
  rw [e1]
  unfold blkN
  rw [List.map_append]
  show (b :: outs ++ es.map _).Perm (outs ++ (es.map _ ++ [(b : Int).toNat]))
  rw [Int.toNat_natCast, List.cons_append, ← List.append_assoc]
  exact (List.perm_append_singleton b _).symm
def allL (L : Nat → List Nat) (held : List Nat) : Nat → List Nat
  | 0 => held
  | k + 1 => allL L held k ++ L k
theorem KI.all {held : List Nat} (h : KI hs ns L held [] [none] B) : (∀ b ∈ allL L held 3, b < 6) ∧ ∀ b : Nat, b < 6 → (allL L held 3).count b = 1 := by
  have h3 : L 3 = [] := by
    cases hl : L 3 with
    | nil => rfl
    | cons b l =>
      have := h.cl 3 (by decide) b (by rw [hl]; simp)
      unfold fcls at this
      split at this
      · omega
      split at this <;> omega
  have hlt : ∀ k : Nat, k < 4 → ∀ b ∈ L k, b < 6 := fun k hk b hb => by
    have := (h.ch k hk).lt b hb
    rw [h.fi.nl] at this
    exact this
  refine ⟨fun b hb => ?_, fun b hb => ?_⟩
  · simp only [allL, List.mem_append] at hb
    rcases hb with ((hb | hb) | hb) | hb
    · exact h.hd b hb
    · exact hlt 0 (by decide) b hb
    · exact hlt 1 (by decide) b hb
    · exact hlt 2 (by decide) b hb
  · have h1 := h.ct b hb
    have h2 : pcnt [none] b = 0 := rfl
    unfold cntL at h1
    rw [h3] at h1
    simp only [allL, List.count_append]
    simp only [List.count_nil] at h1
    omega
theorem KI.allLen {held : List Nat} (h : KI hs ns L held [] [none] B) {k : Nat} (hk : k ≤ 3) : (allL L held k).length ≤ 100 ∧ ∀ j, j < 3 → (L j).length ≤ 6 := by
  have h0 := h.len
  have hl : ∀ j, j < 3 → (L j).length ≤ 6 := fun j hj => nodup_len (h.nodup (by omega)) (fun b hb => by
    have := (h.ch j (by omega)).lt b hb
    rw [h.fi.nl] at this
    exact this)
  have a0 := hl 0 (by decide)
  have a1 := hl 1 (by decide)
  have a2 := hl 2 (by decide)
  refine ⟨?_, hl⟩
  obtain rfl | rfl | rfl | rfl : k = 0 ∨ k = 1 ∨ k = 2 ∨ k = 3 := by omega
  all_goals simp only [allL, List.length_append]; omega
end
/-! ## Counts -/
def cntR (l : List Nat) : List Int := (List.range 6).map fun b => ((l.count b : Nat) : Int)
theorem cntR_at {l : List Nat} {b : Nat} (hb : b < 6) : ((cntR l).map (Value.int .i64))[b]? = some (.int .i64 ((l.count b : Nat) : Int)) := by
  obtain rfl | rfl | rfl | rfl | rfl | rfl := six hb
  all_goals rfl
theorem cntR_add {l : List Nat} {b : Nat} (hb : b < 6) : ((cntR l).map (Value.int .i64)).set b (.int .i64 (((l.count b : Nat) : Int) + 1)) = (cntR (l ++ [b])).map (Value.int .i64) := by
  have e1 : ∀ c, (l ++ [b]).count c = l.count c + if b = c then 1 else 0 := fun c => by
    rw [List.count_append, List.count_singleton]
    by_cases h : b = c <;> simp [h]
  unfold cntR
  simp only [e1]
  obtain rfl | rfl | rfl | rfl | rfl | rfl := six hb
  all_goals rfl
theorem keepsArg {w : World} {v : Value} (h : KFits w 5 (.slice [.bool, .int .i64, .slice [.int .i64]]) v) : ∃ (A : Option Addr) (n c : Nat), v = .slice A n c ∧
    ∀ w', Below w.heap.size w w' → ∀ i, i < n → ∃ (x : Addr) (dr : Bool) (z : Int), A = some x ∧ I64b z ∧ w'.cell? (x.add (i * 3)) = some (.bool dr) ∧ w'.cell? ⟨(x.add (i * 3)).block, (x.add (i * 3)).off + 1, none⟩ = some (.int .i64 z) := by
  obtain ⟨A, n, c, rfl, h⟩ := h
  refine ⟨A, n, c, rfl, fun w' hb i hi => ?_⟩
  rcases h with ⟨_, rfl, _⟩ | ⟨x, rfl, h1, _, hf⟩
  · omega
  obtain ⟨u0, hc0, b, rfl⟩ := hf i (by omega) 0 _ rfl
  obtain ⟨u1, hc1, z, rfl, hz⟩ := hf i (by omega) 1 _ rfl
  have h7 := add_of_add2 x (i * 3) 0
  rw [Nat.zero_add] at h7
  have up : ∀ a u, w.cell? a = some u → w'.cell? a = some u := fun a u hc => by
    have h6 := World.block_lt_of_cell? w a hc
    exact (World.cell?_of_block (hb.block _ h6)).trans hc
  refine ⟨x, b, z, rfl, ?_, up _ _ hc0, ?_⟩
  · simp [Lit.wf, IntKind.min, IntKind.max, IntKind.signed, IntKind.bits] at hz
    unfold I64b; omega
  · rw [← h7]; exact up _ _ hc1
end Go.Proofs.Ytopcnaakdldkpaa
