/- strongtxlaw11: the heap, the lists of an image, awake. -/
import Derived.Test.YtopcnaakdldkpaaFls
import Derived.Test.YtopcnaakdldkpaaFli
import Derived.Test.YtopcnaakdldkpaaLab2
import Derived.Test.YtopcnaakdldkpaaImage
import Derived.Test.YtopcnaakdldkpaaKit
namespace Go.Proofs.Ytopcnaakdldkpaa
open Go.RowKit
set_option linter.unusedVariables false

def cfH : Cfg := { words := 20, orecs := 4, base := 1, c0 := 3, c1 := 2, c2 := 1, c3 := 0, reads := 1, writes := 1, allocs := 0, frees := 0, clock := 0, strong := false }
theorem cfH_ok : cfgErr cfH = 0 := by decide
def hs0 : List Int := [1, 4, 6, 0]
def ns0 : List Int := [2, 3, 0, 5, 0, 0]
def cH (th : Nat) : Nat → List Int := newC cfH th (initL 20)
theorem cH_ok {th : Nat} (ht : th ≤ 16) : COk (cH th) := COk.newC cfH_ok ht (by decide)
theorem cH_fv {th : Nat} (ht : th ≤ 16) : FV (cH th) hs0 ns0 := ⟨cH_ok ht, by show heads cfH = hs0; decide, by show nexts cfH = ns0; decide⟩
theorem FI.of {hs ns : List Int} {B : Int} (hl : hs.length = 4) (nl : ns.length = 6) (hb : ∀ k : Nat, k < 4 → 0 ≤ hs.getD k 0 ∧ hs.getD k 0 % 65536 ≤ 6 ∧ hs.getD k 0 / 65536 ≤ B) (nb : ∀ b : Nat, b < 6 → 0 ≤ ns.getD b 0 ∧ ns.getD b 0 ≤ 6) : FI hs ns B :=
  ⟨hl, nl, hb, fun b => by
    rcases Nat.lt_or_ge b 6 with h | h
    · exact nb b h
    · rw [show ns.getD b 0 = 0 by rw [List.getD_eq_getElem?_getD, List.getElem?_eq_none (by omega)]; rfl]; decide⟩
theorem fi0 : FI hs0 ns0 0 := .of rfl rfl (by decide) (by decide)
theorem FI.src {C : Nat → List Int} {hs ns : List Int} {B : Int} {y : Lay} {w0 : World} (v : FV C hs ns) (f : FI hs ns B) (hB : B ≤ 1000) : SrcI w0 (cellK C y 7 * cellK C y 8) (y.A 7) (y.A 8) hs ns := by
  refine ⟨fun w' R' h => ?_, fun w' R' h => ?_, fun x hx => ?_, fun x hx => ?_, by rw [f.nl]; decide, by rw [f.hl]; decide⟩
  · have h1 := h.part.rowReads
    rw [v.h7] at h1
    exact ⟨_, h1⟩
  · have h1 := h.part.swap.rowReads
    rw [v.h8] at h1
    exact ⟨_, h1⟩
  · obtain ⟨k, hk, rfl⟩ := List.getElem_of_mem hx
    have := f.hb k (by rw [← f.hl]; exact hk)
    rw [List.getD_eq_getElem?_getD, List.getElem?_eq_getElem hk] at this
    simp at this
    omega
  · obtain ⟨k, hk, rfl⟩ := List.getElem_of_mem hx
    have := f.nb k
    rw [List.getD_eq_getElem?_getD, List.getElem?_eq_getElem hk] at this
    simp at this
    omega
/-- List of an image: the image is not needed any longer. -/
theorem list_img (w0 w : World) (R : Asr) (C : Nat → List Int) (hs ns : List Int) (B : Int) (y : Lay) (k : Int) (h : Hold w0 w (sepR (refL C y) R)) (v : FV C hs ns) (f : FI hs ns B) (hB : B ≤ 1000) :
    Calls Try.prog 29 #[imgV C y, .int .i64 k] w (ListPost w0 R (listF hs ns k)) := by
  have h1 := (Hold.join (h.pk5 [3, 4]))
  have hc := list_any w0 w R _ (slV C y 1) (slV C y 2) (.int .u64 (w1 C 3)) (.int .u64 (w1 C 4)) (.int .u64 (w1 C 5)) (slV C y 6) (y.A 7) (y.A 8) (y.c 7) (y.c 8) hs ns k (FI.src v f hB) h1
  rw [show imgV C y = .agg #[slV C y 1, slV C y 2, .int .u64 (w1 C 3), .int .u64 (w1 C 4), .int .u64 (w1 C 5), slV C y 6, .slice (y.A 7) hs.length (y.c 7), .slice (y.A 8) ns.length (y.c 8)] by unfold imgV slV; rw [v.h7, v.h8]]
  exact hc.mono fun e w' ⟨A, c, he, h'⟩ => ⟨A, c, he, h'.pk2 [0]⟩
theorem heap18_any (w0 w : World) (R : Asr) (h : Hold w0 w R) : Calls Try.prog 8 #[] w (BothPost w0 cfH.val R) := by
  go_enter Try.func8, Try.ntmps8
  go_wp2_with fail
  exact bodyPost_ret (v := cfH.val) (by simp [results, Try.results8, cfH, go_sem]) rfl ⟨rfl, h.alloc _⟩
end Go.Proofs.Ytopcnaakdldkpaa
