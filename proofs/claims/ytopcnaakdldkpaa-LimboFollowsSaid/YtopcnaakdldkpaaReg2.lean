/- Regions by phases: two that write are ready at once. And an append whose new element lies in a box made before. -/
import Derived.Test.YtopcnaakdldkpaaReg
namespace Go.Proofs.Ytopcnaakdldkpaa
open Go.RowKit
set_option linter.unusedVariables false

section
variable {P : Program} {Q : Exit → Act → World → Prop} {md : Region.Mode} {S : World → Prop}

/-- One of those that are ready. -/
theorem wpOp_bar {ol : List Oper} (m : List Bool) {i : Nat} {o : Oper} {a : Act} {w : World} {fuel : Nat} {listed : Array Bool} (hi : maskI 0 m = [i]) (ho : maskL m ol = [o])
    (h : ∀ QB : Exit → Act → World → Prop, Shut (∀ a' w', S w' → wpAnyH P md ol.toArray Q S fuel (listed.setIfInBounds i true) a' w' → QB .normal a' w') → Shut (∀ e a' w', e ≠ .normal → Q e a' w' → QB e a' w') →
      wpList P ol.toArray QB (maskL m ol) a w) : wpOp P ol.toArray Q i (fun a' w' => S w' ∧ wpAnyH P md ol.toArray Q S fuel (listed.setIfInBounds i true) a' w') a w := by
  have hoi : ol.toArray[i]? = some o := by
    have := maskL_get (ops := ol.toArray) m ol 0 (fun j => by simp) (by rw [hi, ho]; rfl) 0 i (by rw [hi]; rfl)
    rw [this, ho]; rfl
  have h0 := h (fun e a' w' => match e with
    | .normal => S w' ∧ wpAnyH P md ol.toArray Q S fuel (listed.setIfInBounds i true) a' w'
    | e => Q e a' w') (fun a' w' h1 h2 => ⟨h1, h2⟩) (fun e a' w' h1 h2 => by cases e <;> first | exact absurd rfl h1 | exact h2)
  rw [ho] at h0
  unfold wpList at h0
  unfold wpOp
  simp only [hoi]
  split
  · rename_i hw
    rw [if_pos hw] at h0
    rcases h0 with h0 | ⟨ha, hl⟩
    · left
      unfold Oper.wp at *
      generalize (execOp a.eval o).run P w = r at *
      cases r with
      | ok n w' =>
        cases n <;> simp only [Oper.upon, wpList] at h0 ⊢ <;>
          first
            | exact h0
            | exact Calls.mono h0 (fun e w'' he => by cases e <;> exact he)
      | halt x w' => cases x <;> simp only [Oper.upon] at h0 ⊢ <;> exact h0
    · exact .inr ⟨ha, hl⟩
  · rename_i hw
    rw [if_neg hw] at h0
    simpa only [wpList] using h0

/-- TWO THAT WRITE ARE READY: either may come up. -/
theorem wpAnyH_two {ol : List Oper} (m m2 : List Bool) {i j : Nat} {o o2 : Oper} {a : Act} {w : World} {fuel : Nat} {listed : Array Bool} (hi : maskI 0 m = [i]) (ho : maskL m ol = [o]) (hi2 : maskI 0 m2 = [j]) (ho2 : maskL m2 ol = [o2])
    (hr : Region.ready md ol.toArray listed = [i, j])
    (h : ∀ QB : Exit → Act → World → Prop, Shut (∀ a' w', S w' → wpAnyH P md ol.toArray Q S fuel (listed.setIfInBounds i true) a' w' → QB .normal a' w') → Shut (∀ e a' w', e ≠ .normal → Q e a' w' → QB e a' w') →
      wpList P ol.toArray QB (maskL m ol) a w)
    (h2 : ∀ QB : Exit → Act → World → Prop, Shut (∀ a' w', S w' → wpAnyH P md ol.toArray Q S fuel (listed.setIfInBounds j true) a' w' → QB .normal a' w') → Shut (∀ e a' w', e ≠ .normal → Q e a' w' → QB e a' w') →
      wpList P ol.toArray QB (maskL m2 ol) a w) : wpAnyH P md ol.toArray Q S (fuel + 1) listed a w := by
  refine wpAnyH_all hr (by simp) fun k hk => ?_
  rcases List.mem_cons.1 hk with rfl | hk
  · exact wpOp_bar m hi ho h
  · obtain rfl : k = j := by simpa using hk
    exact wpOp_bar m2 hi2 ho2 h2
end

/-- append of one element that lies in a box of one cell. -/
theorem wpList_append1b {P : Program} {W : World} {ops : Array Oper} {rest : List Oper} {o : Oper} {a : Act} {Q : Exit → Act → World → Prop} (hgd : o.guard = none) (s x : Operand) (t : TypeId)
    (ho : o.op = .call { callee := .builtin .append, args := #[s, x], argTypes := #[t, t] })
    (e : TypeId) (i : TypeInfo) (z : Value) (bytes : Nat) (ht : P.underlying t = some (.slice e)) (hi : P.info? e = some i) (hz : i.zero = some z)
    (hsize : i.size = 1) (hby : i.bytes = bytes) (hzs : z.cells.size = 1)
    (v : Value) (n : Nat) (xs : List Value) (u : Value) (H : Nat) (hs : a.eval s = v) (hown : W.ownsRow 0 e 1 v n xs)
    (hx : a.eval x = .slice (some ⟨H, 0, none⟩) 1 1) (hbox : W.cell? ⟨H, 0, none⟩ = some u) (h1 : u.oneCell' = true) (hn : n ≤ 1000000) (hb : bytes ≤ 4096)
    (h : ∀ A' c' w', w'.ownsRow 0 e 1 (.slice A' (n + 1) c') (n + 1) (xs ++ [u]) → Chg (fpV v) W w' → (∀ k ∈ fpV (.slice A' (n + 1) c'), k ∈ fpV v ∨ W.heap.size ≤ k) → wpList P ops Q rest (a.put o.dst (.slice A' (n + 1) c')) w') :
    wpList P ops Q (o :: rest) a W := by
  refine wpList_append_own_at W hgd s x t ho 0 e i z 1 bytes ht hi hz hsize hby hzs (by decide) v n xs hs hown ⟨H, 0, none⟩ 1 1 [u] hx rfl ?_ ?_ ?_ ?_ (Nat.zero_le _) ?_
  · intro j u' hj
    match j, hj with
    | 0, hj => simp at hj; subst hj; simpa [Addr.add] using hbox
  · intro u' hu'; simp at hu'; subst hu'; exact h1
  · unfold maxLen; omega
  · have : (n + 1) * bytes ≤ (n + 1) * 4096 := Nat.mul_le_mul_left _ hb
    omega
  · intro v' w' hown' hg _ hat
    obtain ⟨A', c', hv⟩ := row_form hown'
    subst hv
    refine h A' c' w' hown' ((Chg.refl _ W).grown hg (fun k hk => .inl (mem_fpV.2 hk))) (fun k hk => ?_)
    rcases hat with e1 | e1
    · left; rw [mem_fpV] at hk ⊢; rw [← e1]; exact hk
    · right; rw [mem_fpV] at hk; rw [e1] at hk; simp at hk; omega
end Go.Proofs.Ytopcnaakdldkpaa
