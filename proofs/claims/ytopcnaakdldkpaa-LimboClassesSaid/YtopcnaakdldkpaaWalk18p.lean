/- LimboClasses: lists, what is seen, what is wanted. -/
import Derived.Test.YtopcnaakdldkpaaCl18
import Derived.Test.YtopcnaakdldkpaaClass
import Derived.Test.YtopcnaakdldkpaaArg
import Derived.Test.YtopcnaakdldkpaaAppA
namespace Go.Proofs.Ytopcnaakdldkpaa
open Go.RowKit
set_option linter.unusedVariables false

def hzL (k : Nat) : List Int := if k = 0 then [1, 4, 6, 0] else if k = 1 then [0, 4, 6, 0] else if k = 2 then [0, 0, 6, 0] else [0, 0, 0, 0]
theorem hzL_set {k : Nat} (hk : k < 3) : (hzL k).set k 0 = hzL (k + 1) ∧ (hzL k).length = 4 := by
  match k, hk with
  | 0, _ => exact ⟨rfl, rfl⟩
  | 1, _ => exact ⟨rfl, rfl⟩
  | 2, _ => exact ⟨rfl, rfl⟩
theorem fiZ : FI (hzL 3) ns0 0 := .of rfl rfl (by decide) (by decide)
/-- The blocks that are not among bs. -/
def unB (bs : List Nat) : List Nat := (List.range 6).filter fun b => !bs.contains b
theorem kiZ {bs : List Nat} (hn : bs.Nodup) (hb : ∀ b ∈ bs, b < 6) : KI (hzL 3) ns0 (fun _ => []) (unB bs ++ bs) [] [none] 0 := by
  refine ⟨fiZ, by omega, fun k hk => ?_, (fun k hk b hb => by cases hb), fun b hx => ?_, fun b hb6 => ?_, (fun t m h => by simp at h), fun t m h => ?_⟩
  · have : (hzL 3).getD k 0 = 0 := by
      match k, hk with
      | 0, _ => rfl
      | 1, _ => rfl
      | 2, _ => rfl
      | 3, _ => rfl
    rw [this]; rfl
  · rcases List.mem_append.1 hx with h | h
    · have := (List.mem_filter.1 h).1
      simpa using this
    · exact hb b h
  · have e1 : cntL (fun _ => []) b = 0 := rfl
    have e2 : pcnt [none] b = 0 := rfl
    rw [e1, e2, List.count_append]
    by_cases hm : b ∈ bs
    · have e3 : (unB bs).count b = 0 := List.count_eq_zero.2 fun h => by
        have := (List.mem_filter.1 h).2
        simp [hm] at this
      rw [e3, hn.count, if_pos hm]
    · have e3 : (unB bs).count b = 1 := by
        have h1 : (unB bs).Nodup := List.Pairwise.filter _ List.nodup_range
        have h2 : b ∈ unB bs := List.mem_filter.2 ⟨List.mem_range.2 hb6, by rw [Bool.not_eq_true']; exact Bool.eq_false_iff.2 fun h => hm (List.contains_iff_mem.1 h)⟩
        rw [h1.count, if_pos h2]
      rw [e3, List.count_eq_zero.2 hm]
  · match t with
    | 0 => simp at h
    | t + 1 => simp at h
theorem wantL_len : ∀ (bs : List Nat) (L : Nat → List Nat) (k : Nat), (wantL L bs k).length ≤ (L k).length + bs.length
  | [], L, k => Nat.le_refl _
  | b :: bs, L, k => by
    have h1 := wantL_len bs (putL18 L (fcls b) b) k
    have h2 : (putL18 L (fcls b) b k).length ≤ (L k).length + 1 := by
      unfold putL18 updL
      split
      · rename_i h; rw [h]; simp
      · omega
    show (wantL _ bs k).length ≤ _
    rw [List.length_cons]; omega
/-- Where the three lists lie. -/
abbrev Lie := (Nat → Option Addr) × (Nat → Nat)
def rI (p : Lie) (W : Nat → List Nat) (j : Nat) : Asr := rowS 3 1 (.slice (p.1 j) (W j).length (p.2 j)) (W j).length ((toI (W j)).map (Value.int .i64))
def wC (p : Lie) (W : Nat → List Nat) : Array Value := #[.slice (p.1 0) (W 0).length (p.2 0), .slice (p.1 1) (W 1).length (p.2 1), .slice (p.1 2) (W 2).length (p.2 2)]
theorem wC_at (p : Lie) (W : Nat → List Nat) {j : Nat} (hj : j < 3) : (wC p W)[j]? = some (.slice (p.1 j) (W j).length (p.2 j)) := by
  match j, hj with
  | 0, _ => rfl
  | 1, _ => rfl
  | 2, _ => rfl
def updP (p : Lie) (j : Nat) (A : Option Addr) (c : Nat) : Lie := (fun i => if i = j then A else p.1 i, fun i => if i = j then c else p.2 i)
theorem wC_set (p : Lie) (W : Nat → List Nat) {j : Nat} (hj : j < 3) (A : Option Addr) (c : Nat) (b : Nat) : (wC p W).setIfInBounds j (.slice A ((W j).length + 1) c) = wC (updP p j A c) (putL18 W j b) := by
  match j, hj with
  | 0, _ => rfl
  | 1, _ => rfl
  | 2, _ => rfl
theorem rI_other (p : Lie) (W : Nat → List Nat) {i j : Nat} (h : i ≠ j) (A : Option Addr) (c b : Nat) : rI (updP p j A c) (putL18 W j b) i = rI p W i := by
  unfold rI updP putL18 updL
  simp only [if_neg h]
theorem rI_self (p : Lie) (W : Nat → List Nat) (j : Nat) (A : Option Addr) (c b : Nat) : rI (updP p j A c) (putL18 W j b) j = rowS 3 1 (.slice A ((W j).length + 1) c) ((W j).length + 1) (.int .i64 (b : Int) :: (toI (W j)).map (Value.int .i64)) := by
  unfold rI updP putL18 updL
  simp only [if_true, List.length_cons, toI, List.map_cons]
abbrev rows3 (p : Lie) (W : Nat → List Nat) : List Asr := [rI p W 0, rI p W 1, rI p W 2]
theorem rows3_at (p : Lie) (W : Nat → List Nat) {j : Nat} (hj : j < 3) : (rows3 p W)[j]? = some (rI p W j) := by
  match j, hj with
  | 0, _ => rfl
  | 1, _ => rfl
  | 2, _ => rfl
theorem rows3_put (p : Lie) (W : Nat → List Nat) {j : Nat} (hj : j < 3) (A : Option Addr) (c b : Nat) : ((rows3 p W).set j Asr.emp).set j (rI (updP p j A c) (putL18 W j b) j) = rows3 (updP p j A c) (putL18 W j b) := by
  match j, hj with
  | 0, _ =>
    show [rI (updP p 0 A c) (putL18 W 0 b) 0, rI p W 1, rI p W 2] = [_, _, _]
    rw [← rI_other p W (i := 1) (j := 0) (by decide) A c b, ← rI_other p W (i := 2) (j := 0) (by decide) A c b]
  | 1, _ =>
    show [rI p W 0, rI (updP p 1 A c) (putL18 W 1 b) 1, rI p W 2] = [_, _, _]
    rw [← rI_other p W (i := 0) (j := 1) (by decide) A c b, ← rI_other p W (i := 2) (j := 1) (by decide) A c b]
  | 2, _ =>
    show [rI p W 0, rI p W 1, rI (updP p 2 A c) (putL18 W 2 b) 2] = [_, _, _]
    rw [← rI_other p W (i := 0) (j := 2) (by decide) A c b, ← rI_other p W (i := 1) (j := 2) (by decide) A c b]
def seenC (bs : List Nat) : Array Value := #[.bool (bs.contains 0), .bool (bs.contains 1), .bool (bs.contains 2), .bool (bs.contains 3), .bool (bs.contains 4), .bool (bs.contains 5)]
theorem seenC_at (bs : List Nat) {j : Nat} (hj : j < 6) : (seenC bs)[j]? = some (.bool (bs.contains j)) := by
  match j, hj with
  | 0, _ => rfl
  | 1, _ => rfl
  | 2, _ => rfl
  | 3, _ => rfl
  | 4, _ => rfl
  | 5, _ => rfl
theorem seenC_set (bs : List Nat) {j : Nat} (hj : j < 6) : (seenC bs).setIfInBounds j (.bool true) = seenC (bs ++ [j]) := by
  match j, hj with
  | 0, _ => simp [seenC]
  | 1, _ => simp [seenC]
  | 2, _ => simp [seenC]
  | 3, _ => simp [seenC]
  | 4, _ => simp [seenC]
  | 5, _ => simp [seenC]
def esB (bs : List Nat) : List (Int × Int) := bs.map fun b : Nat => ((b : Int), 1)
theorem outE_esB (bs : List Nat) : outE 1 (esB bs) = esB bs := by
  unfold outE esB
  rw [List.filter_eq_self]
  intro e he
  obtain ⟨b, _, rfl⟩ := List.mem_map.1 he
  rfl
theorem keptE_esB (bs : List Nat) : keptE 1 (esB bs) = [] := by
  unfold keptE esB
  rw [List.filter_eq_nil_iff]
  intro e he
  obtain ⟨b, _, rfl⟩ := List.mem_map.1 he
  simp
theorem si_zip {bs gs : List Nat} (h : gs.length = bs.length) (hn : bs.Nodup) (hb : ∀ b ∈ bs, b < 6) : SI (hzL 3) ns0 (fun _ => []) (unB bs) 0 (List.zipWith qOf gs (esB bs)) := by
  refine SI.begin ?_ (zip_new 1 bs gs h)
  unfold esB
  rw [zip_bk 1 bs gs h]
  exact kiZ hn hb
theorem rem_zip {bs gs : List Nat} (h : gs.length = bs.length) (hl : bs.length ≤ 6) : remQ (List.zipWith qOf gs (esB bs)) ≤ 18 := by
  unfold esB
  rw [zip_rem (fun x hx => (zip_new 1 bs gs h x hx).1), List.length_zipWith, List.length_map]
  omega
theorem cls18 {b : Nat} (hb : b < 6) : cls cfH b = fcls b ∧ fcls b < 3 := by
  match b, hb with
  | 0, _ => exact ⟨by decide, by decide⟩
  | 1, _ => exact ⟨by decide, by decide⟩
  | 2, _ => exact ⟨by decide, by decide⟩
  | 3, _ => exact ⟨by decide, by decide⟩
  | 4, _ => exact ⟨by decide, by decide⟩
  | 5, _ => exact ⟨by decide, by decide⟩
theorem addE_one (es : List (Int × Int)) {b : Nat} (hb : b < 6) (v : Int) : addE es v [(b : Int)] = es ++ [((b : Int), v)] := by
  have h : 0 ≤ lcls (b : Int) := by rw [lcls_nat (by omega)]; omega
  unfold addE keepB
  simp [h]
/-- What follows the first k statements. -/
def dropC : Nat → Code → Code
  | 0, c => c
  | k + 1, .seq _ y => dropC k y
  | _ + 1, c => c
def dropF (k : Nat) (f : Func) : Code := match f.body with
  | some c => dropC k c
  | none => .skip
end Go.Proofs.Ytopcnaakdldkpaa
