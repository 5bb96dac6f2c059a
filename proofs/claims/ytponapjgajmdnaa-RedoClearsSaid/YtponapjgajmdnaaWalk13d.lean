/- The walk of RedoLast. -/
import Derived.Test.YtponapjgajmdnaaWalk13c
import Derived.Test.YtponapjgajmdnaaArg2
namespace Go.Proofs.Ytponapjgajmdnaa
open Go.RowKit
set_option linter.unusedVariables false

theorem get_put_ok {L : PL} {x v : Int} (h : putOk L x = true) (y : Int) : getOk (putL L x v) y = (getOk L y || decide (y = x)) := by
  unfold putOk at h
  simp only [Bool.and_eq_true, Bool.or_eq_true, decide_eq_true_eq] at h
  obtain ⟨h0, h1⟩ := h
  unfold getOk
  by_cases hin : x ∈ L.addrs
  · rw [putL_in h0 hin]
    by_cases hy : y = x
    · subst hy; simp [hin]
    · simp [hy]
  · rcases h1 with h1 | h1
    · exact absurd h1 hin
    · rw [putL_new h0 hin h1]
      simp only [List.mem_append, List.mem_singleton]
      by_cases hy : y = x <;> by_cases hm : y ∈ L.addrs <;> simp [hy, hm]
theorem get_put_val {L : PL} (H : Inv L) {x v : Int} (h : putOk L x = true) (y : Int) : getV (putL L x v) y = if y = x then v else getV L y := by
  unfold putOk at h
  simp only [Bool.and_eq_true, Bool.or_eq_true, decide_eq_true_eq] at h
  obtain ⟨h0, h1⟩ := h
  unfold getV
  by_cases hin : x ∈ L.addrs
  · rw [putL_in h0 hin]
    obtain ⟨hi, hix⟩ := mem_adr hin
    have hv := H.vlen
    by_cases hy : y = x
    · subst hy
      simp [hin, List.getD, hv, hi]
    · by_cases hm : y ∈ L.addrs
      · obtain ⟨hj, hjx⟩ := mem_adr hm
        have hne : L.addrs.idxOf x ≠ L.addrs.idxOf y := fun e => hy (by rw [← hjx, ← e, hix])
        simp [hm, hy, List.getD, List.getElem?_set_ne hne]
      · simp [hm, hy]
  · rcases h1 with h1 | h1
    · exact absurd h1 hin
    · rw [putL_new h0 hin h1]
      have hv := H.vlen
      by_cases hy : y = x
      · subst hy
        simp [List.idxOf_append, hin, List.getD, ← hv]
      · by_cases hm : y ∈ L.addrs
        · have hj := List.idxOf_lt_length_of_mem hm
          simp [hm, hy, List.idxOf_append, List.getD, List.getElem?_append_left (show L.addrs.idxOf y < L.vals.length by omega)]
        · simp [hm, hy]
theorem put_addrs {L : PL} {x v : Int} (h : putOk L x = true) : (putL L x v).addrs = if x ∈ L.addrs then L.addrs else L.addrs ++ [x] := by
  unfold putOk at h
  simp only [Bool.and_eq_true, Bool.or_eq_true, decide_eq_true_eq] at h
  obtain ⟨h0, h1⟩ := h
  by_cases hin : x ∈ L.addrs
  · rw [putL_in h0 hin, if_pos hin]
  · rcases h1 with h1 | h1
    · exact absurd h1 hin
    · rw [putL_new h0 hin h1, if_neg hin]
theorem put_cap (L : PL) (x v : Int) : (putL L x v).cap = L.cap := by unfold putL; (repeat' split) <;> rfl

/-- What the law keeps beside the log: a flag and a value per address. -/
structure Keeps (has : List Bool) (last : List Int) (L : PL) : Prop where
  hl : has.length = 24
  ll : last.length = 24
  cap : L.cap = 32
  num : has.countP id = L.addrs.length
  ok : ∀ x : Nat, x < 24 → has.getD x false = getOk L x
  val : ∀ x : Nat, x < 24 → last.getD x 0 = getV L x

theorem Keeps.zero : Keeps (List.replicate 24 false) (List.replicate 24 0) (newL 32) := by
  refine ⟨rfl, rfl, rfl, by decide, fun x hx => ?_, fun x hx => ?_⟩
  · exact (show (List.replicate 24 false).getD x false = false by rw [List.getD_eq_getElem?_getD, List.getElem?_replicate, if_pos hx]; rfl).trans (decide_eq_false (by simp [newL, emptyL])).symm
  · exact (show (List.replicate 24 (0 : Int)).getD x 0 = 0 by rw [List.getD_eq_getElem?_getD, List.getElem?_replicate, if_pos hx]; rfl).trans (if_neg (by simp [newL, emptyL])).symm
theorem Keeps.put {has : List Bool} {last : List Int} {L : PL} (K : Keeps has last L) (H : Inv L) {x : Nat} (hx : x < 24) (v : Int) :
    putOk L x = true ∧ Keeps (has.set x true) (last.set x v) (putL L x v) ∧ (putL L x v).addrs.length = if has.getD x false then L.addrs.length else L.addrs.length + 1 := by
  have hlen : L.addrs.length < L.cap := by
    have h1 := List.countP_le_length (p := id) (l := has)
    rw [K.num, K.hl] at h1
    rw [K.cap]
    omega
  have hok : putOk L x = true := by unfold putOk; rw [decide_eq_true (by omega), decide_eq_true hlen]; simp
  have hadd := put_addrs (v := v) hok
  have hgx : has.getD x false = decide ((x : Int) ∈ L.addrs) := K.ok x hx
  have hgl : (putL L x v).addrs.length = if has.getD x false then L.addrs.length else L.addrs.length + 1 := by
    rw [hadd, hgx]
    by_cases hin : (x : Int) ∈ L.addrs <;> simp [hin]
  have hxl : x < has.length := by rw [K.hl]; exact hx
  refine ⟨hok, ⟨by simp [K.hl], by simp [K.ll], by rw [put_cap, K.cap], ?_, fun y hy => ?_, fun y hy => ?_⟩, hgl⟩
  · rw [hgl, List.countP_set (h := hxl), K.num]
    have hg : has.getD x false = has[x] := by simp [List.getD, List.getElem?_eq_getElem hxl]
    rw [hg]
    cases hb : has[x] with
    | false => simp
    | true =>
      have hp : 0 < has.countP id := List.countP_pos_iff.2 ⟨has[x], List.getElem_mem _, by simp [hb]⟩
      rw [K.num] at hp
      simp
      omega
  · rw [get_put_ok hok, ← K.ok y hy]
    by_cases hxy : y = x
    · subst hxy; simp [List.getD, hxl]
    · have h1 : ¬ ((y : Int) = (x : Int)) := by omega
      simp [List.getD, List.getElem?_set_ne (Ne.symm hxy), h1]
  · rw [get_put_val H hok, ← K.val y hy]
    have hxl' : x < last.length := by rw [K.ll]; exact hx
    by_cases hxy : y = x
    · subst hxy; simp [List.getD, hxl']
    · have h1 : ¬ ((y : Int) = (x : Int)) := by omega
      simp [List.getD, List.getElem?_set_ne (Ne.symm hxy), h1]

theorem redoLast_walk (a0 : Option Addr) (len0 cap0 : Nat) (w : World) (w0 : IsStructs [.int .i64, .int .u64] w a0 len0 cap0) :
    Calls Try.prog 10 #[.slice a0 len0 cap0] w fun e w' => e = .returned (.bool true) ∧ Below w.heap.size w w' := by
  by_cases hl : len0 ≤ 60
  · have hd : decide (60 < (len0 : Int)) = false := decide_eq_false (by omega)
    go_enter Try.func10, Try.ntmps10
    go_wp2_with fail
    refine (li_new w _ _ (Below.refl _ _)).mono ?_
    rintro e w1 ⟨g, fp, rfl, h1⟩
    go_wp2_with fail
    generalize hW : World.alloc (World.alloc w1 _) _ = W
    have hbA : Blk W w1.heap.size 49 ((List.replicate 24 false).map Value.bool).toArray := by rw [← hW]; exact (Blk.new _ _ _).alloc _
    have hbL : Blk W (w1.heap.size + 1) 51 ((List.replicate 24 (0 : Int)).map (Value.int .u64)).toArray := by
      rw [← hW]
      have := Blk.new (w1.alloc (.cells ((List.replicate 24 false).map Value.bool).toArray 49)) 51 ((List.replicate 24 (0 : Int)).map (Value.int .u64)).toArray
      simp only [World.size_alloc] at this
      exact this
    have h2 : LI w W fp g (newL 32) := by rw [← hW]; exact (h1.alloc _).alloc _
    have hge := h1.size
    have hnA : w1.heap.size ∉ fp := fun h => by have := h1.at_.lt _ h; omega
    have hnL : w1.heap.size + 1 ∉ fp := fun h => by have := h1.at_.lt _ h; omega
    obtain ⟨ga, hga⟩ : ∃ ga, ga = w1.heap.size := ⟨_, rfl⟩
    rw [← hga] at hbA hbL hge hnA hnL ⊢
    clear hW h1 hga
    clear hd
    go_loopw [6, 7, 8] (fun c i _ wr => ∃ (k : Nat) (fp : List Nat) (L : PL) (has : List Bool) (last : List Int), k ≤ len0 ∧ i = .int .i64 k ∧ c = .int .i64 L.addrs.length ∧ Keeps has last L ∧ LI w wr fp g L ∧
      Blk wr ga 49 (has.map Value.bool).toArray ∧ Blk wr (ga + 1) 51 (last.map (Value.int .u64)).toArray ∧ ga ∉ fp ∧ ga + 1 ∉ fp) (fun _ i _ _ => len0 - (intOf i).toNat)
    case atStart => exact ⟨0, fp, _, _, _, Nat.zero_le _, rfl, rfl, Keeps.zero, h2, hbA, hbL, hnA, hnL⟩
    case round =>
      obtain ⟨k, fp, L, has, last, hk, rfl, rfl, K, h3, bA, bL, nA, nL⟩ := hrel
      clear h2 hbA hbL hnA hnL
      by_cases hlt : k < len0
      · have e1 : decide ((k : Int) < (len0 : Int)) = true := decide_eq_true (by omega)
        have e2 : (0 : Int) ≤ (k : Int) := by omega
        have e3 : (k : Int) < (len0 : Int) := by omega
        obtain ⟨x, rfl, hc⟩ := w0.at_ (Below.refl _ w) hlt
        obtain ⟨_, hc0, y, rfl, _⟩ := hc 0 _ rfl
        obtain ⟨_, hc1, v, rfl, _⟩ := hc 1 _ rfl
        have d0 : wr.cell? (x.add (k * 2)) = some (.int .i64 y) := (h3.below.cell (World.block_lt_of_cell? w _ hc0)).trans hc0
        have hb1 := World.block_lt_of_cell? w _ hc1
        have hc1' : w.cell? ((x.add (k * 2)).add 1) = some (.int .u64 v) := by rw [add_of_add]; exact hc1
        have hb1 := World.block_lt_of_cell? w _ hc1'
        have d1 : wr.cell? ⟨(x.add (k * 2)).block, (x.add (k * 2)).off + 1, none⟩ = some (.int .u64 v) := (h3.below.cell hb1).trans hc1'
        have Hd := hid (And.intro hb1 hc1')
        clear hc hc0 hc1 hc1' hb1
        have v0 := place_nonneg y 24 (by omega)
        have v1 := place_lt y 24 (by omega)
        obtain ⟨m, hm⟩ : ∃ m : Nat, place y 24 = (m : Int) := ⟨(place y 24).toNat, by omega⟩
        have m24 : m < 24 := by omega
        have Hm := hid hm
        clear hm v0 v1
        go_wp2_with fail
        refine (place_any _ _ _ (by omega) (by omega)).mono ?_
        rintro e w2 ⟨rfl, rfl⟩
        rw [Hm.out]
        go_wp2_with fail
        obtain ⟨ok, K2, hlen⟩ := K.put h3.inv m24 v
        refine (li_put w _ _ _ _ (m : Int) v h3).mono ?_
        rintro e w3 ⟨rfl, fp3, h4, hc4, hf4⟩
        rw [ok]
        have bA4 := bA.chg hc4 nA
        have bL4 := bL.chg hc4 nL
        have nA4 : ga ∉ fp3 := fun h => by
          rcases hf4 _ h with h | h
          · exact nA h
          · have := bA.lt; omega
        have nL4 : ga + 1 ∉ fp3 := fun h => by
          rcases hf4 _ h with h | h
          · exact nL h
          · have := bL.lt; omega
        obtain ⟨b, hb⟩ : ∃ b, b = has.getD m false := ⟨_, rfl⟩
        have cA : w3.cell? ⟨ga, m, none⟩ = some (.bool b) := by
          rw [hb, bA4.cell]
          have : m < has.length := by rw [K.hl]; exact m24
          simp [List.getD, this]
        rw [← hb] at hlen
        have zA := bA4.frozen m
        have hcA : Chg [ga, ga + 1] w3 (w3.setCell ⟨ga, m, none⟩ (.bool true)) := (Chg.refl _ _).setCell (.inl (by simp)) _
        have hcL : Chg [ga, ga + 1] w3 ((w3.setCell ⟨ga, m, none⟩ (.bool true)).setCell ⟨ga + 1, m, none⟩ (.int .u64 v)) := hcA.setCell (.inl (by simp)) _
        have hown : Own w.heap.size [ga, ga + 1] := fun z hz => by simp at hz; omega
        have h5 := h4.chg hcL hown (fun z hz hz2 => by
          simp at hz2
          rcases hz2 with rfl | rfl
          · exact nA4 hz
          · exact nL4 hz)
        have sA := (bA4.set_ m (.bool true)).far (p := ⟨ga + 1, m, none⟩) (by simp) (.int .u64 v)
        have sL := (bL4.far (p := ⟨ga, m, none⟩) (by simp) (.bool true)).set_ m (.int .u64 v)
        rw [List.setIfInBounds_toArray, ← List.map_set] at sA sL
        have dd : w3.cell? ⟨(x.add (k * 2)).block, (x.add (k * 2)).off + 1, none⟩ = some (.int .u64 v) := (h4.below.cell Hd.out.1).trans Hd.out.2
        have hxb : (x.add (k * 2)).block < w.heap.size := Hd.out.1
        have hxb3 : (x.add (k * 2)).block < w3.heap.size := by have := h4.size; omega
        have hxn : (x.add (k * 2)).block ∉ [ga, ga + 1] := by simp; omega
        have dd8 : (w3.setCell ⟨ga, m, none⟩ (.bool true)).cell? ⟨(x.add (k * 2)).block, (x.add (k * 2)).off + 1, none⟩ = some (.int .u64 v) := (hcA.cell (p := ⟨(x.add (k * 2)).block, (x.add (k * 2)).off + 1, none⟩) hxb3 hxn).trans dd
        have dd10 : ((w3.setCell ⟨ga, m, none⟩ (.bool true)).setCell ⟨ga + 1, m, none⟩ (.int .u64 v)).cell? ⟨(x.add (k * 2)).block, (x.add (k * 2)).off + 1, none⟩ = some (.int .u64 v) := (hcL.cell (p := ⟨(x.add (k * 2)).block, (x.add (k * 2)).off + 1, none⟩) hxb3 hxn).trans dd
        have hm24 : m < last.length := by rw [K.ll]; exact m24
        have bL8 := bL4.far (p := ⟨ga, m, none⟩) (by simp) (.bool true)
        have cL : (w3.setCell ⟨ga, m, none⟩ (.bool true)).cell? ⟨ga + 1, m, none⟩ = some (.int .u64 (last.getD m 0)) := by rw [bL8.cell]; simp [hm24, List.getD]
        have zL := bL8.frozen m
        have m1 : (0 : Int) ≤ (m : Int) := by omega
        have m2 : (m : Int) < 24 := by omega
        have HFin : Hid (∀ W, Chg [] ((w3.setCell ⟨ga, m, none⟩ (.bool true)).setCell ⟨ga + 1, m, none⟩ (.int .u64 v)) W → LI w W fp3 g (putL L (m : Int) v) ∧ Blk W ga 49 ((has.set m true).map Value.bool).toArray ∧ Blk W (ga + 1) 51 ((last.set m v).map (Value.int .u64)).toArray) :=
          hid fun W hW => ⟨h5.chg0 hW, sA.chg hW (by simp), sL.chg hW (by simp)⟩
        have HL := hid hlen
        have n32 : L.addrs.length ≤ 32 := h3.len
        have HK := hid K2
        clear hlen K2 h5 sA sL bL8 hcL hcA hown h4 hc4 hf4 bA4 bL4 h3 bA bL K hb ok hxb hxb3 hxn d0 d1 hb1 hge nA nL
        cases b
        all_goals
          go_wp2_with fail
          refine wp_region_brk [] (by kernel_rfl) ?_
          refine wpAnyB_now (fun w' => w'.cell? ⟨(x.add (k * 2)).block, (x.add (k * 2)).off + 1, none⟩ = some (.int .u64 v)) (fun _ _ => trivial) _ _ _ _ ?_
          refine' wpAnyB_bulk [true, true, true, true, true, true, true, true] 84 (listed' := #[true, true, true, true, true, true, true, true, false, false, false]) rfl (by kernel_rfl) (by kernel_rfl) (by kernel_rfl) (by kernel_rfl) (by kernel_rfl) (by kernel_rfl) (by decide) (fun _ _ _ _ h => h) rfl dd (fun wq hq => ?_) ?_; rotate_left 1
          · simp only [maskL]
            have q1 := hq
            repeat (go_big_quiet_step (fail))
            exact wpQuiet_nil rfl
          refine wpAnyB_bar [false, false, false, false, false, false, false, false, true] (fuel := 2) (by rfl) (by rfl) (by kernel_rfl) (fun QB hQB hQX => ?_)
          simp only [maskL]
          go_wp2_with fail
          refine hQB.out _ _ dd8 ?_
          refine' wpAnyB_bulk [false, false, false, false, false, false, false, false, false, true] 84 (listed' := #[true, true, true, true, true, true, true, true, true, true, false]) rfl (by kernel_rfl) (by kernel_rfl) (by kernel_rfl) (by kernel_rfl) (by kernel_rfl) (by kernel_rfl) (by decide) (fun _ _ _ _ h => h) rfl dd8 (fun wq hq => ?_) ?_; rotate_left 1
          · simp only [maskL]
            repeat (go_big_quiet_step (fail))
            exact wpQuiet_nil rfl
          refine wpAnyB_bar [false, false, false, false, false, false, false, false, false, false, true] (fuel := 0) (by rfl) (by rfl) (by kernel_rfl) (fun QB hQB hQX => ?_)
          simp only [maskL]
          go_wp2_with fail
          refine hQB.out _ _ dd10 ?_
          refine wpAnyB_done (by kernel_rfl) ?_ _
          -- END
          go_wp2_with fail
          go_roundw
          case rel =>
            exact ⟨k + 1, fp3, _, _, _, by omega, rfl, by rw [HL.out]; rfl, HK.out, (HFin.out _ (Chg.refl [] _).drew).1, (HFin.out _ (Chg.refl [] _).drew).2.1, (HFin.out _ (Chg.refl [] _).drew).2.2, nA4, nL4⟩
          case measure => simp [intOf]; omega
      · have hkn : k = len0 := by omega
        subst hkn
        have e1 : decide ((k : Int) < (k : Int)) = false := by simp
        have n32 : L.addrs.length ≤ 32 := h3.len
        have HK := hid K
        clear K
        go_wp2_with fail
        go_loopw [9, 10, 11] (fun i _ _ W => ∃ m q : Nat, m ≤ 24 ∧ i = .int .i64 m ∧ W = wr.drewN q) (fun i _ _ _ => 24 - (intOf i).toNat)
        case atStart => exact ⟨0, 0, by omega, rfl, rfl⟩
        case round =>
          obtain ⟨m, q, hm, rfl, rfl⟩ := hrel
          have h4 := h3.drewN q
          by_cases hlm : m < 24
          · have f1 : decide ((m : Int) < 24) = true := decide_eq_true (by omega)
            have f2 : (0 : Int) ≤ (m : Int) := by omega
            have f3 : (m : Int) < 24 := by omega
            have hgo := HK.out.ok m hlm
            have hgv := HK.out.val m hlm
            have hA : m < has.length := by rw [HK.out.hl]; exact hlm
            have hB : m < last.length := by rw [HK.out.ll]; exact hlm
            have cA : wr.cell? ⟨ga, m, none⟩ = some (.bool (has.getD m false)) := by rw [bA.cell]; simp [hA, List.getD]
            have cB : wr.cell? ⟨ga + 1, m, none⟩ = some (.int .u64 (last.getD m 0)) := by rw [bL.cell]; simp [hB, List.getD]
            rw [hgo] at cA
            rw [hgv] at cB
            clear hgo hgv hA hB
            go_wp2_with fail
            refine (log_get _ _ _ _ (m : Int) h4.at_ h4.inv).mono ?_
            rintro e w5 ⟨rfl, q2, rfl⟩
            rw [World.drewN_drewN]
            obtain ⟨bo, hbo⟩ : ∃ bo, bo = getOk L (m : Int) := ⟨_, rfl⟩
            obtain ⟨bv, hbv⟩ : ∃ bv, bv = getV L (m : Int) := ⟨_, rfl⟩
            rw [← hbo] at cA ⊢
            rw [← hbv] at cB ⊢
            clear hbo hbv
            have g1 : (bo != bo) = false := by simp
            have g2 : (bv != bv) = false := by simp
            go_wp2_with fail
            go_roundw
            case rel => exact ⟨m + 1, _, by omega, rfl, rfl⟩
            case measure => simp [intOf]; omega
          · have f1 : decide ((m : Int) < 24) = false := decide_eq_false (by omega)
            go_wp2_with fail
            refine (log_len _ _ _ _ h4.at_).mono ?_
            rintro e w5 ⟨rfl, rfl⟩
            go_wp2_with fail
            refine (awake13 _).mono ?_
            rintro e w13 ⟨rfl, hb⟩
            go_wp2_with fail
            go_ret
            exact ⟨rfl, chg_below h4.below (Chg.of_below hb) (Own.nil _)⟩
  · have hd : decide (60 < (len0 : Int)) = true := decide_eq_true (by omega)
    go_enter Try.func10, Try.ntmps10
    go_wp2_with fail
    refine (awake13 _).mono ?_
    rintro e w13 ⟨rfl, hb⟩
    go_wp2_with fail
    go_ret
    exact ⟨rfl, hb⟩
end Go.Proofs.Ytponapjgajmdnaa
