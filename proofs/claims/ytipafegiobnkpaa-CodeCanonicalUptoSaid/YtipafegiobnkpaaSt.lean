/- Bytes as strings. -/
import Derived.Test.YtipafegiobnkpaaWn
import Derived.Laws.BytesArg
import Derived.Laws.Strings
namespace Go.Proofs.Ytipafegiobnkpaa
open Go.RowKit
set_option linter.unusedVariables false

/-- The string of a list of bytes. -/
def strB (bs : List Nat) : ByteArray := ⟨(bs.map fun n => UInt8.ofNat n).toArray⟩
theorem conv_bytes (w : World) (A : Option Addr) (b n c : Nat) (bs : List Nat) (hr : Reads w b A n (bv bs)) (hn : A = none → n = 0) :
    (convert 31 9 (.slice A n c)).run Try.prog w = .ok (.string (strB bs)) w := by
  cases A with
  | none =>
    have hl := hr.len
    rw [bv_len, hn rfl] at hl
    have : bs = [] := List.eq_nil_of_length_eq_zero hl
    subst this
    rw [run_convert_bytes_nil w 31 5 rfl rfl n c 9 rfl]
    rfl
  | some ad =>
    have hl := hr.len
    have h1 : (loadCells ad n).run Try.prog w = .ok ((bs.map fun (x : Nat) => (x : Int)).map (Value.int .u8)).toArray w := by
      have := run_loadCells_list (P := Try.prog) (w := w) ad (bv bs) (fun j v hj => by
        have hjl := (List.getElem?_eq_some_iff.1 hj).1
        obtain ⟨ad2, hA, _, hc⟩ := hr.cellAt (k := j) (by omega)
        obtain rfl := Option.some.inj hA
        rw [hc]
        exact (List.getElem?_eq_getElem hjl).symm.trans hj)
      rw [hl] at this
      rw [this]
      simp [bv, List.map_map]
    rw [run_convert_bytes_string w 31 9 5 (some ad) n c rfl rfl rfl, run_bytesToString w ad n c _ h1, foldl_push_bytes]
    unfold strB
    simp [ByteArray.empty, ByteArray.emptyWithCapacity, List.map_map]
    rfl
theorem strB_inj {a b : List Nat} (ha : ∀ x ∈ a, x < 256) (hb : ∀ x ∈ b, x < 256) (h : strB a = strB b) : a = b := by
  have h1 : a.map (fun n => UInt8.ofNat n) = b.map (fun n => UInt8.ofNat n) := by
    have := congrArg (fun s : ByteArray => s.data.toList) h
    exact this
  have h2 := congrArg (List.map fun u : UInt8 => u.toNat) h1
  rw [List.map_map, List.map_map] at h2
  have e : ∀ l : List Nat, (∀ x ∈ l, x < 256) → l.map ((fun u : UInt8 => u.toNat) ∘ fun n => UInt8.ofNat n) = l := by
    intro l hl
    conv => rhs; rw [← List.map_id l]
    exact List.map_congr_left fun x hx => by
      show (UInt8.ofNat x).toNat = x
      rw [UInt8.toNat_ofNat']
      exact Nat.mod_eq_of_lt (hl x hx)
  rwa [e a ha, e b hb] at h2
theorem strB_list (bs : List Nat) : (strB bs).toList = bs.map fun n => UInt8.ofNat n := by
  unfold strB
  exact ByteArray.toList_mk _
theorem strB_beq (a b : List Nat) (ha : ∀ x ∈ a, x < 256) (hb : ∀ x ∈ b, x < 256) : ((strB a).toList == (strB b).toList) = decide (a = b) := by
  by_cases h : a = b
  · subst h; simp
  · rw [decide_eq_false h]
    refine beq_eq_false_iff_ne.2 fun hs => h (strB_inj ha hb ?_)
    rw [strB_list, strB_list] at hs
    unfold strB
    rw [hs]
theorem same_any (w : World) (A B : Option Addr) (a b n m c d : Nat) (xs ys : List Nat) (hA : Reads w a A n (bv xs)) (hB : Reads w b B m (bv ys)) (zA : A = none → n = 0) (zB : B = none → m = 0) (ha : ∀ x ∈ xs, x < 256) (hb : ∀ x ∈ ys, x < 256) :
    Calls Try.prog 12 #[.slice A n c, .slice B m d] w fun e w' => e = .returned (.bool (decide (xs = ys))) ∧ w = w' := by
  have c1 := conv_bytes w A a n c xs hA zA
  have c2 := conv_bytes w B b m d ys hB zB
  have HE := hid (strB_beq xs ys ha hb)
  clear hA hB
  go_enter Try.func12, Try.ntmps12
  go_wp2_with fail
  go_ret
  exact ⟨by rw [← HE.out]; rfl, rfl⟩
end Go.Proofs.Ytipafegiobnkpaa
