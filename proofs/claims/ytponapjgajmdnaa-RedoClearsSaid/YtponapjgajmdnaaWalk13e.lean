/- The walk of RedoClears. -/
import Derived.Test.YtponapjgajmdnaaWalk13d
namespace Go.Proofs.Ytponapjgajmdnaa
open Go.RowKit
set_option linter.unusedVariables false

/-- The first k turned by f. -/
def mapTo (f : Int → Int) (k : Nat) (xs : List Int) : List Int := (xs.take k).map f ++ xs.drop k
theorem mapTo_zero (f : Int → Int) (xs : List Int) : mapTo f 0 xs = xs := by simp [mapTo]
theorem mapTo_len (f : Int → Int) {k : Nat} {xs : List Int} : (mapTo f k xs).length = xs.length := by simp [mapTo]; omega
theorem mapTo_all (f : Int → Int) (xs : List Int) : mapTo f xs.length xs = xs.map f := by simp [mapTo]
theorem mapTo_at (f : Int → Int) {k : Nat} {xs : List Int} (h : k < xs.length) : (mapTo f k xs).getD k 0 = xs.getD k 0 := by
  have hl : ((xs.take k).map f).length = k := by simp; omega
  simp only [mapTo, List.getD, List.getElem?_append_right (show ((xs.take k).map f).length ≤ k by omega), hl, Nat.sub_self, List.getElem?_drop, Nat.add_zero]
theorem mapTo_set (f : Int → Int) {k : Nat} {xs : List Int} (h : k < xs.length) : (mapTo f k xs).set k (f (xs.getD k 0)) = mapTo f (k + 1) xs := by
  have hl : ((xs.take k).map f).length = k := by simp; omega
  unfold mapTo
  rw [List.set_append_right _ _ (by omega), hl, Nat.sub_self, List.drop_eq_getElem_cons h, List.set_cons_zero, List.take_succ_eq_append_getElem h, List.map_append, List.append_assoc]
  simp [List.getD, List.getElem?_eq_getElem h]
theorem map_at (f : Int → Int) {k : Nat} {xs : List Int} (h : k < xs.length) : (xs.map f).getD k 0 = f (xs.getD k 0) := by simp [List.getD, List.getElem?_eq_getElem h]

/-- The three lists that the law holds, beside the log. -/
structure Trio (w0 W : World) (fp : List Nat) (g : Nat) (L : PL) (X Y Z : Option Addr) (cx cy cz n : Nat) (xs ys zs : List Int) : Prop where
  log : LI w0 W fp g L
  hx : W.ownsRow 0 3 1 (.slice X n cx) n (xs.map (Value.int .i64))
  hy : W.ownsRow 0 50 1 (.slice Y n cy) n (ys.map (Value.int .u64))
  hz : W.ownsRow 0 3 1 (.slice Z 64 cz) 64 (zs.map (Value.int .i64))
  xz : ∀ b ∈ fpV (.slice X n cx), b ∉ fpV (.slice Z 64 cz)
  xf : ∀ b ∈ fpV (.slice X n cx), b ∉ fp
  yf : ∀ b ∈ fpV (.slice Y n cy), b ∉ fp
  zf : ∀ b ∈ fpV (.slice Z 64 cz), b ∉ fp
  xo : Own w0.heap.size (fpV (.slice X n cx))
  yo : Own w0.heap.size (fpV (.slice Y n cy))
  zo : Own w0.heap.size (fpV (.slice Z 64 cz))
section
variable {w0 W W' : World} {fp : List Nat} {g : Nat} {L : PL} {X Y Z : Option Addr} {cx cy cz n : Nat} {xs ys zs : List Int}
theorem Trio.chg0 (T : Trio w0 W fp g L X Y Z cx cy cz n xs ys zs) (h : Chg [] W W') : Trio w0 W' fp g L X Y Z cx cy cz n xs ys zs :=
  ⟨T.log.chg0 h, row_chg T.hx h (by simp), row_chg T.hy h (by simp), row_chg T.hz h (by simp), T.xz, T.xf, T.yf, T.zf, T.xo, T.yo, T.zo⟩
theorem Trio.setX (T : Trio w0 W fp g L X Y Z cx cy cz n xs ys zs) {k : Nat} (hk : k < n) (hl : xs.length = n) :
    ∃ gx, X = some ⟨gx, 0, none⟩ ∧ W.cell? ⟨gx, k, none⟩ = some (.int .i64 (xs.getD k 0)) ∧ W.frozen? ⟨gx, k, none⟩ = false ∧
      ∀ u, Trio w0 (W.setCell ⟨gx, k, none⟩ (.int .i64 u)) fp g L X Y Z cx cy cz n (xs.set k u) ys zs := by
  obtain ⟨gx, hX, hm, hc, hf, hst⟩ := row_at T.hx hk
  rw [num_some (by omega)] at hc
  refine ⟨gx, hX, hc, hf, fun u => ?_⟩
  have hC : Chg [gx] W (W.setCell ⟨gx, k, none⟩ (.int .i64 u)) := (Chg.refl _ _).setCell (.inl (by simp)) _
  have ho : Own w0.heap.size [gx] := Own.one (T.xo gx hm)
  have hx2 := hst (.int .i64 u)
  rw [← List.map_set] at hx2
  refine ⟨T.log.chg hC ho (fun b hb hb2 => T.xf gx hm (by rw [← List.mem_singleton.1 hb2]; exact hb)), hx2, row_chg T.hy hC (fun b hb hb2 => ?_), row_chg T.hz hC (fun b hb hb2 => ?_), T.xz, T.xf, T.yf, T.zf, T.xo, T.yo, T.zo⟩
  · rw [List.mem_singleton.1 hb2] at hb; exact row_row_ne T.hy T.hx (by decide) gx hb hm
  · rw [List.mem_singleton.1 hb2] at hb; exact T.xz gx hm hb
theorem Trio.setY (T : Trio w0 W fp g L X Y Z cx cy cz n xs ys zs) {k : Nat} (hk : k < n) (hl : ys.length = n) :
    ∃ gy, Y = some ⟨gy, 0, none⟩ ∧ W.cell? ⟨gy, k, none⟩ = some (.int .u64 (ys.getD k 0)) ∧ W.frozen? ⟨gy, k, none⟩ = false ∧
      ∀ u, Trio w0 (W.setCell ⟨gy, k, none⟩ (.int .u64 u)) fp g L X Y Z cx cy cz n xs (ys.set k u) zs := by
  obtain ⟨gx, hX, hm, hc, hf, hst⟩ := row_at T.hy hk
  rw [num_some (by omega)] at hc
  refine ⟨gx, hX, hc, hf, fun u => ?_⟩
  have hC : Chg [gx] W (W.setCell ⟨gx, k, none⟩ (.int .u64 u)) := (Chg.refl _ _).setCell (.inl (by simp)) _
  have ho : Own w0.heap.size [gx] := Own.one (T.yo gx hm)
  have hx2 := hst (.int .u64 u)
  rw [← List.map_set] at hx2
  refine ⟨T.log.chg hC ho (fun b hb hb2 => T.yf gx hm (by rw [← List.mem_singleton.1 hb2]; exact hb)), row_chg T.hx hC (fun b hb hb2 => ?_), hx2, row_chg T.hz hC (fun b hb hb2 => ?_), T.xz, T.xf, T.yf, T.zf, T.xo, T.yo, T.zo⟩
  · rw [List.mem_singleton.1 hb2] at hb; exact row_row_ne T.hx T.hy (by decide) gx hb hm
  · rw [List.mem_singleton.1 hb2] at hb; exact row_row_ne T.hz T.hy (by decide) gx hb hm
theorem Trio.setZ (T : Trio w0 W fp g L X Y Z cx cy cz n xs ys zs) {k : Nat} (hk : k < 64) (hl : zs.length = 64) :
    ∃ gz, Z = some ⟨gz, 0, none⟩ ∧ W.cell? ⟨gz, k, none⟩ = some (.int .i64 (zs.getD k 0)) ∧ W.frozen? ⟨gz, k, none⟩ = false ∧
      ∀ u, Trio w0 (W.setCell ⟨gz, k, none⟩ (.int .i64 u)) fp g L X Y Z cx cy cz n xs ys (zs.set k u) := by
  obtain ⟨gx, hX, hm, hc, hf, hst⟩ := row_at T.hz hk
  rw [num_some (by omega)] at hc
  refine ⟨gx, hX, hc, hf, fun u => ?_⟩
  have hC : Chg [gx] W (W.setCell ⟨gx, k, none⟩ (.int .i64 u)) := (Chg.refl _ _).setCell (.inl (by simp)) _
  have ho : Own w0.heap.size [gx] := Own.one (T.zo gx hm)
  have hx2 := hst (.int .i64 u)
  rw [← List.map_set] at hx2
  refine ⟨T.log.chg hC ho (fun b hb hb2 => T.zf gx hm (by rw [← List.mem_singleton.1 hb2]; exact hb)), row_chg T.hx hC (fun b hb hb2 => ?_), row_chg T.hy hC (fun b hb hb2 => ?_), hx2, T.xz, T.xf, T.yf, T.zf, T.xo, T.yo, T.zo⟩
  · rw [List.mem_singleton.1 hb2] at hb; exact T.xz gx hb hm
  · rw [List.mem_singleton.1 hb2] at hb; exact row_row_ne T.hy T.hz (by decide) gx hb hm
end

structure Small (L : PL) : Prop where
  cap : L.cap = 32
  len : L.idx.length = 64
  lt : ∀ a ∈ L.addrs, a < 30
theorem Small.zero : Small (newL 32) := ⟨rfl, rfl, by simp [newL, emptyL]⟩
theorem Small.put {L : PL} (h : Small L) (a v : Int) (ha : a < 30) : Small (putL L a v) := by
  refine ⟨by rw [put_cap, h.cap], ?_, ?_⟩
  · unfold putL; (repeat' split) <;> simp [h.len]
  · unfold putL
    (repeat' split)
    · exact h.lt
    · exact h.lt
    · intro b hb
      rcases List.mem_append.1 hb with hb | hb
      · exact h.lt b hb
      · rw [List.mem_singleton.1 hb]; exact ha
    · exact h.lt

set_option maxRecDepth 8000 in
set_option maxHeartbeats 4000000 in
theorem redoClears_walk (a0 : Option Addr) (len0 cap0 : Nat) (w : World) (w0 : IsStructs [.int .i64, .int .u64] w a0 len0 cap0) :
    Calls Try.prog 14 #[.slice a0 len0 cap0] w fun e w' => e = .returned (.bool true) ∧ Below w.heap.size w w' := by
  by_cases hl : len0 ≤ 30
  · have hd : decide (30 < (len0 : Int)) = false := decide_eq_false (by omega)
    go_enter Try.func14, Try.ntmps14
    go_wp2_with fail
    refine (li_new w _ _ (Below.refl _ _)).mono ?_
    rintro e w1 ⟨g, fp, rfl, h1⟩
    go_wp2_with fail
    clear hd
    go_loopw [4] (fun i wr => ∃ (k : Nat) (fp : List Nat) (L : PL), k ≤ len0 ∧ i = .int .i64 k ∧ Small L ∧ LI w wr fp g L) (fun i _ => len0 - (intOf i).toNat)
    case atStart => exact ⟨0, fp, _, Nat.zero_le _, rfl, Small.zero, h1⟩
    case round =>
      obtain ⟨k, fp, L, hk, rfl, hS, h2⟩ := hrel
      clear h1
      by_cases hlt : k < len0
      · have e1 : decide ((k : Int) < (len0 : Int)) = true := decide_eq_true (by omega)
        have e2 : (0 : Int) ≤ (k : Int) := by omega
        have e3 : (k : Int) < (len0 : Int) := by omega
        obtain ⟨x, rfl, hc⟩ := w0.at_ (Below.refl _ w) hlt
        obtain ⟨_, hc0, y, rfl, _⟩ := hc 0 _ rfl
        obtain ⟨_, hc1, v, rfl, _⟩ := hc 1 _ rfl
        have hc1' : w.cell? ((x.add (k * 2)).add 1) = some (.int .u64 v) := by rw [add_of_add]; exact hc1
        have hcc : Hid (∀ W, Below w.heap.size w W → W.cell? (x.add (k * 2)) = some (.int .i64 y) ∧ W.cell? ⟨(x.add (k * 2)).block, (x.add (k * 2)).off + 1, none⟩ = some (.int .u64 v)) := hid fun W hW =>
          ⟨(hW.cell (World.block_lt_of_cell? w _ hc0)).trans hc0, (hW.cell (World.block_lt_of_cell? w _ hc1')).trans hc1'⟩
        obtain ⟨d0, d1⟩ := hcc.out wr h2.below
        have v1 := place_lt y 30 (by omega)
        clear hc hc0 hc1 hc1'
        go_wp2_with fail
        refine wp_region_brk [] (by kernel_rfl) ?_
        refine wpAnyB_now (fun w' => w'.cell? (x.add (k * 2)) = some (.int .i64 y) ∧ w'.cell? ⟨(x.add (k * 2)).block, (x.add (k * 2)).off + 1, none⟩ = some (.int .u64 v)) (fun _ _ => trivial) _ _ _ _ ?_
        refine' wpAnyB_bulk [true, true, true, true, true, true, true, true, true, true, true, true] 220 (listed' := #[true, true, true, true, true, true, true, true, true, true, true, true, false]) rfl (by kernel_rfl) (by kernel_rfl) (by kernel_rfl) (by kernel_rfl) (by kernel_rfl) (by kernel_rfl) (by decide) (fun _ _ _ _ h => h) rfl ⟨d0, d1⟩ (fun wq hq => ?_) ?_; rotate_left 1
        · simp only [maskL]
          obtain ⟨q0, q1⟩ := hq
          repeat (first | go_big_quiet_step (fail) | (go_big_quiet_want; go_big_quiet_op; apply Exists.intro; refine ⟨?_, ?_⟩; (exact (place_any _ _ 30 (by omega) (by omega)).mono fun e w' h => ⟨h.1, h.2.symm⟩); go_big_quiet_on))
          exact wpQuiet_nil rfl
        refine wpAnyB_bar [false, false, false, false, false, false, false, false, false, false, false, false, true] (fuel := 0) (by rfl) (by rfl) (by kernel_rfl) (fun QB hQB hQX => ?_)
        simp only [maskL]
        go_wp2_with fail
        refine (li_put w wr.drew _ _ _ (place y 30) v (h2.chg0 ((Chg.refl _ _).drew))).mono ?_
        rintro e w3 ⟨rfl, fp3, h3, _⟩
        go_wp2_with fail
        refine hQB.out _ _ (hcc.out _ h3.below) ?_
        refine wpAnyB_done (by kernel_rfl) ?_ _
        -- END
        go_wp2_with fail
        go_roundw
        case rel => exact ⟨k + 1, fp3, _, by omega, rfl, hS.put _ _ v1, h3⟩
        case measure => simp [intOf]; omega
      · have hkn : k = len0 := by omega
        subst hkn
        have e1 : decide ((k : Int) < (k : Int)) = false := by simp
        go_wp2_with fail
        refine (log_addrs _ _ _ _ h2.at_ h2.inv).mono ?_
        rintro e w2 ⟨X, cx, rfl, oX, hcX⟩
        have h3 := h2.chg0 hcX
        have s2 := h2.size
        have lf2 := h2.at_.lt
        go_wp2_with fail
        refine (log_values _ _ _ _ h3.at_ h3.inv).mono ?_
        rintro e w3 ⟨Y, cy, rfl, oY, hcY⟩
        have h4 := h3.chg0 hcY
        have s3 := h3.size
        have lf3 := h3.at_.lt
        have oX3 := row_chg oX hcY (by simp)
        go_wp2_with fail
        refine (log_index _ _ _ _ h4.at_ h4.inv).mono ?_
        rintro e w4 ⟨Z, cz, rfl, oZ, hcZ⟩
        rw [hS.len] at oZ ⊢
        have lf4 := h4.at_.lt
        have s4 := h4.size
        have T : Trio w w4 fp g L X Y Z cx cy cz L.addrs.length L.addrs L.vals L.idx := by
          refine ⟨h4.chg0 hcZ, row_base (row_chg oX3 hcZ (by simp)) (Nat.zero_le _), row_base (row_chg oY hcZ (by simp)) (Nat.zero_le _), row_base oZ (Nat.zero_le _), ?_, ?_, ?_, ?_, ?_, ?_, ?_⟩
          · intro b hb hb2
            have := row_lt oX3 b hb
            have := row_ge oZ b hb2
            omega
          · intro b hb hb2
            have := row_ge oX b hb
            have := lf2 b hb2
            omega
          · intro b hb hb2
            have := row_ge oY b hb
            have := lf3 b hb2
            omega
          · intro b hb hb2
            have := row_ge oZ b hb
            have := lf4 b hb2
            omega
          · intro b hb
            have := row_ge oX b hb
            omega
          · intro b hb
            have := row_ge oY b hb
            omega
          · intro b hb
            have := row_ge oZ b hb
            omega
        clear h2 h3 h4 oX oY oZ oX3 hcX hcY hcZ lf2 lf3 lf4 s2 s3 s4 e1 hlt hk
        have HI := hid T.log.inv
        have HS := hid hS
        have n32 : L.addrs.length ≤ 32 := T.log.len
        obtain ⟨n, hn⟩ : ∃ n, n = L.addrs.length := ⟨_, rfl⟩
        rw [← hn] at T n32 ⊢
        have Hn := hid hn
        clear hn hS
        go_wp2_with fail
        go_loopw [8] (fun i W => ∃ j : Nat, j ≤ n ∧ i = .int .i64 j ∧ Trio w W fp g L X Y Z cx cy cz n (mapTo (· + 1) j L.addrs) (mapTo (fun v => IntKind.u64.wrap (v + 1)) j L.vals) L.idx) (fun i _ => n - (intOf i).toNat)
        case atStart => exact ⟨0, by omega, rfl, by rw [mapTo_zero, mapTo_zero]; exact T⟩
        case round =>
          obtain ⟨j, hj, rfl, T2⟩ := hrel
          clear T
          by_cases hlj : j < n
          · have e1 : decide ((j : Int) < (n : Int)) = true := decide_eq_true (by omega)
            have e2 : (0 : Int) ≤ (j : Int) := by omega
            have e3 : (j : Int) < (n : Int) := by omega
            have hja : j < L.addrs.length := by rw [← Hn.out]; exact hlj
            have hjv : j < L.vals.length := by rw [HI.out.vlen]; exact hja
            obtain ⟨gy', hY', _, zY', _⟩ := T2.setY hlj (by rw [mapTo_len, HI.out.vlen, Hn.out])
            obtain ⟨gx, rfl, cX, zX, T3⟩ := T2.setX hlj (by rw [mapTo_len, Hn.out])
            rw [mapTo_at _ hja] at cX
            have T4 := T3 (L.addrs.getD j 0 + 1)
            rw [mapTo_set (· + 1) hja] at T4
            obtain ⟨gy, rfl, cY, zY, T5⟩ := T4.setY hlj (by rw [mapTo_len, HI.out.vlen, Hn.out])
            rw [mapTo_at _ hjv] at cY
            injection hY' with hY'
            injection hY' with hY'
            subst hY'
            have T6 := T5 (IntKind.u64.wrap (L.vals.getD j 0 + 1))
            rw [mapTo_set (fun v => IntKind.u64.wrap (v + 1)) hjv] at T6
            have a0 := HI.out.nonneg j hja
            have a1 := HS.out.lt _ (adr_mem hja)
            obtain ⟨y, hy⟩ : ∃ y, y = L.addrs.getD j 0 := ⟨_, rfl⟩
            obtain ⟨v, hv⟩ : ∃ v, v = L.vals.getD j 0 := ⟨_, rfl⟩
            have a0' : 0 ≤ y := by rw [hy]; exact a0
            have a1' : y < 30 := by rw [hy]; exact a1
            rw [← hy] at cX cY T6
            rw [← hv] at cY T6
            have H6 := hid T6
            clear T6 T5 T4 T3 T2 hy hv a0 a1
            go_wp2_with fail
            go_roundw
            case rel => exact ⟨j + 1, by omega, rfl, H6.out⟩
            case measure => simp [intOf]; omega
          · have hjn : j = n := by omega
            subst hjn
            have e1 : decide ((j : Int) < (j : Int)) = false := by simp
            go_wp2_with fail
            go_loopw [9] (fun i W => ∃ q : Nat, q ≤ 64 ∧ i = .int .i64 q ∧ Trio w W fp g L X Y Z cx cy cz j (mapTo (· + 1) j L.addrs) (mapTo (fun v => IntKind.u64.wrap (v + 1)) j L.vals) (mapTo (· - 1) q L.idx)) (fun i _ => 64 - (intOf i).toNat)
            case atStart => exact ⟨0, by omega, rfl, by rw [mapTo_zero (· - 1)]; exact T2⟩
            case round =>
              obtain ⟨q, hq, rfl, T3⟩ := hrel
              clear T2
              by_cases hlq : q < 64
              · have f1 : decide ((q : Int) < 64) = true := decide_eq_true (by omega)
                have f2 : (0 : Int) ≤ (q : Int) := by omega
                have f3 : (q : Int) < 64 := by omega
                have hqi : q < L.idx.length := by rw [HS.out.len]; exact hlq
                have hrg := HI.out.rng q hqi
                have hn32 := Hn.out
                obtain ⟨gz, rfl, cZ, zZ, T4⟩ := T3.setZ hlq (by rw [mapTo_len, HS.out.len])
                rw [mapTo_at _ hqi] at cZ
                have T5 := T4 (L.idx.getD q 0 - 1)
                rw [mapTo_set (· - 1) hqi] at T5
                obtain ⟨z, hz⟩ : ∃ z, z = L.idx.getD q 0 := ⟨_, rfl⟩
                have z0 : -1 ≤ z := by rw [hz]; exact hrg.1
                have z1 : z < 33 := by rw [hz]; have := hrg.2; unfold ix at this; omega
                rw [← hz] at cZ T5
                have H5 := hid T5
                clear T5 T4 T3 hrg hz hn32
                go_wp2_with fail
                go_roundw
                case rel => exact ⟨q + 1, by omega, rfl, H5.out⟩
                case measure => simp [intOf]; omega
              · have hq64 : q = 64 := by omega
                subst hq64
                have f1 : decide ((64 : Int) < 64) = false := by decide
                go_wp2_with fail
                refine (log_addrs _ _ _ _ T3.log.at_ T3.log.inv).mono ?_
                rintro e w5 ⟨U, cu, rfl, oU, hcU⟩
                rw [← Hn.out] at oU ⊢
                have T5 := T3.chg0 hcU
                go_wp2_with fail
                refine (log_values _ _ _ _ T5.log.at_ T5.log.inv).mono ?_
                rintro e w6 ⟨V, cv, rfl, oV, hcV⟩
                rw [← Hn.out] at oV ⊢
                have T6 := T5.chg0 hcV
                have oU6 := row_chg oU hcV (by simp)
                go_wp2_with fail
                refine (log_index _ _ _ _ T6.log.at_ T6.log.inv).mono ?_
                rintro e w7 ⟨R, cr, rfl, oR, hcR⟩
                rw [HS.out.len] at oR ⊢
                have T7 := T6.chg0 hcR
                have oU7 := row_base (row_chg oU6 hcR (by simp)) (Nat.zero_le _)
                have oV7 := row_base (row_chg oV hcR (by simp)) (Nat.zero_le _)
                have oR7 := row_base oR (Nat.zero_le _)
                clear T3 T5 T6 oU oV oR oU6 hcU hcV hcR
                go_wp2_with fail
                refine (log_len _ _ _ _ T7.log.at_).mono ?_
                rintro e w8 ⟨rfl, rfl⟩
                rw [← Hn.out]
                go_wp2_with fail
                refine (log_len _ _ _ _ T7.log.at_).mono ?_
                rintro e w8 ⟨rfl, rfl⟩
                rw [← Hn.out]
                go_wp2_with fail
                have key : Hid (∀ q, q < j → ∃ gx gu gy gv, X = some ⟨gx, 0, none⟩ ∧ U = some ⟨gu, 0, none⟩ ∧ Y = some ⟨gy, 0, none⟩ ∧ V = some ⟨gv, 0, none⟩ ∧ w7.cell? ⟨gx, q, none⟩ = some (.int .i64 (L.addrs.getD q 0 + 1)) ∧ w7.cell? ⟨gu, q, none⟩ = some (.int .i64 (L.addrs.getD q 0)) ∧
                    w7.cell? ⟨gy, q, none⟩ = some (.int .u64 (IntKind.u64.wrap (L.vals.getD q 0 + 1))) ∧ w7.cell? ⟨gv, q, none⟩ = some (.int .u64 (L.vals.getD q 0))) := hid fun q hq => by
                  have hqa : q < L.addrs.length := by rw [← Hn.out]; exact hq
                  have hqv : q < L.vals.length := by rw [HI.out.vlen]; exact hqa
                  obtain ⟨gx, hX, -, cX, -, -⟩ := row_at T7.hx hq
                  obtain ⟨gu, hU, -, cU, -, -⟩ := row_at oU7 hq
                  obtain ⟨gy, hY, -, cY, -, -⟩ := row_at T7.hy hq
                  obtain ⟨gv, hV, -, cV, -, -⟩ := row_at oV7 hq
                  refine ⟨gx, gu, gy, gv, hX, hU, hY, hV, ?_, ?_, ?_, ?_⟩
                  · rw [cX, num_some (by rw [mapTo_len]; exact hqa), Hn.out, mapTo_all, map_at _ hqa]
                  · rw [cU, num_some hqa]
                  · rw [cY, num_some (by rw [mapTo_len]; exact hqv), Hn.out, ← HI.out.vlen, mapTo_all, map_at _ hqv]
                  · rw [cV, num_some hqv]
                have kez : Hid (∀ q, q < 64 → ∃ gz gr, Z = some ⟨gz, 0, none⟩ ∧ R = some ⟨gr, 0, none⟩ ∧ w7.cell? ⟨gz, q, none⟩ = some (.int .i64 (L.idx.getD q 0 - 1)) ∧ w7.cell? ⟨gr, q, none⟩ = some (.int .i64 (L.idx.getD q 0))) := hid fun q hq => by
                  have hqi : q < L.idx.length := by rw [HS.out.len]; exact hq
                  obtain ⟨gz, hZ, -, cZ, -, -⟩ := row_at T7.hz hq
                  obtain ⟨gr, hR, -, cR, -, -⟩ := row_at oR7 hq
                  refine ⟨gz, gr, hZ, hR, ?_, ?_⟩
                  · have h64 : mapTo (· - 1) 64 L.idx = L.idx.map (· - 1) := by rw [← HS.out.len, mapTo_all]
                    rw [cZ, num_some (by rw [mapTo_len]; exact hqi), h64, map_at _ hqi]
                  · rw [cR, num_some hqi]
                have h7 := T7.log
                clear T7 oU7 oV7 oR7
                go_loopw [13] (fun i W => ∃ q t : Nat, q ≤ j ∧ i = .int .i64 q ∧ W = w7.drewN t) (fun i _ => j - (intOf i).toNat)
                case atStart => exact ⟨0, 0, by omega, rfl, rfl⟩
                case round =>
                  obtain ⟨q, t, hq, rfl, rfl⟩ := hrel
                  by_cases hlq : q < j
                  · have g1 : decide ((q : Int) < (j : Int)) = true := decide_eq_true (by omega)
                    have g2 : (0 : Int) ≤ (q : Int) := by omega
                    have g3 : (q : Int) < (j : Int) := by omega
                    obtain ⟨gx, gu, gy, gv, rfl, rfl, rfl, rfl, cX, cU, cY, cV⟩ := key.out q hlq
                    obtain ⟨y, hy⟩ : ∃ y, y = L.addrs.getD q 0 := ⟨_, rfl⟩
                    obtain ⟨v, hv⟩ : ∃ v, v = L.vals.getD q 0 := ⟨_, rfl⟩
                    rw [← hy] at cX cU
                    rw [← hv] at cY cV
                    have k1 : (y == y + 1) = false := by simp; omega
                    have k2 : (v == IntKind.u64.wrap (v + 1)) = false := by rw [IntKind.wrap_u64]; simp; omega
                    clear hy hv
                    go_wp2_with fail
                    go_quiet (fail)
                    go_wp2_with fail
                    go_roundw
                    case rel => exact ⟨q + 1, _, by omega, rfl, (by first | rfl | exact World.drewN_drewN _ _ _)⟩
                    case measure => simp [intOf]; omega
                  · have hqj : q = j := by omega
                    subst hqj
                    have g1 : decide ((q : Int) < (q : Int)) = false := by simp
                    go_wp2_with fail
                    go_loopw [14] (fun i W => ∃ r t : Nat, r ≤ 64 ∧ i = .int .i64 r ∧ W = w7.drewN t) (fun i _ => 64 - (intOf i).toNat)
                    case atStart => exact ⟨0, _, by omega, rfl, rfl⟩
                    case round =>
                      obtain ⟨r, t, hr, rfl, rfl⟩ := hrel
                      by_cases hlr : r < 64
                      · have g1 : decide ((r : Int) < 64) = true := decide_eq_true (by omega)
                        have g2 : (0 : Int) ≤ (r : Int) := by omega
                        have g3 : (r : Int) < 64 := by omega
                        obtain ⟨gz, gr, rfl, rfl, cZ, cR⟩ := kez.out r hlr
                        obtain ⟨z, hz⟩ : ∃ z, z = L.idx.getD r 0 := ⟨_, rfl⟩
                        rw [← hz] at cZ cR
                        have k1 : (z == z - 1) = false := by simp; omega
                        clear hz
                        go_wp2_with fail
                        go_quiet (fail)
                        go_wp2_with fail
                        go_roundw
                        case rel => exact ⟨r + 1, _, by omega, rfl, (by first | rfl | exact World.drewN_drewN _ _ _)⟩
                        case measure => simp [intOf]; omega
                      · have hr64 : r = 64 := by omega
                        subst hr64
                        have g1 : decide ((64 : Int) < 64) = false := by decide
                        go_wp2_with fail
                        have h8 := h7.drewN t
                        refine (log_clear _ _ _ _ h8.at_ h8.idx.1 h8.idx.2).mono ?_
                        rintro e w9 ⟨rfl, fp9, hL9, hc9, hf9⟩
                        have hb9 := chg_below h8.below hc9 h8.own
                        have inv9 : Inv (clearL L) := by
                          have h0 := HI.out
                          have h1 := h0.plt
                          exact empty_inv h0.cap32 h1 h0.p64
                        have h9 : LI w w9 fp9 g (clearL L) := ⟨inv9, hL9, fun b hb => h8.own b (hf9 b hb), hb9⟩
                        clear h8 hc9 hf9 hL9 hb9
                        go_wp2_with fail
                        refine (log_index _ _ _ _ h9.at_ h9.inv).mono ?_
                        rintro e w10 ⟨E, ce, rfl, oE, hcE⟩
                        have hlen : (clearL L).idx.length = 64 := by simp [clearL, HS.out.len]
                        rw [hlen] at oE ⊢
                        have h10 := h9.chg0 hcE
                        have oE0 := row_base oE (Nat.zero_le _)
                        have keE : Hid (∀ r, r < 64 → ∃ ge, E = some ⟨ge, 0, none⟩ ∧ w10.cell? ⟨ge, r, none⟩ = some (.int .i64 (-1))) := hid fun r hr => by
                          obtain ⟨ge, hE, -, cE, -, -⟩ := row_at oE0 hr
                          refine ⟨ge, hE, ?_⟩
                          rw [cE, num_some (by rw [hlen]; exact hr)]
                          show some (Value.int .i64 ((List.replicate L.idx.length (-1 : Int)).getD r 0)) = _
                          rw [List.getD_eq_getElem?_getD, List.getElem?_replicate, if_pos (by rw [HS.out.len]; exact hr)]
                          rfl
                        clear h9 oE oE0 hcE hlen
                        go_wp2_with fail
                        go_loop [16] (fun i => ∃ r : Nat, r ≤ 64 ∧ i = .int .i64 r) (fun i => 64 - (intOf i).toNat)
                        case atStart => exact ⟨0, by omega, rfl⟩
                        case round =>
                          obtain ⟨r, hr, rfl⟩ := hrel
                          by_cases hlr : r < 64
                          · have g1 : decide ((r : Int) < 64) = true := decide_eq_true (by omega)
                            have g2 : (0 : Int) ≤ (r : Int) := by omega
                            have g3 : (r : Int) < 64 := by omega
                            obtain ⟨ge, rfl, cE⟩ := keE.out r hlr
                            go_wp2_with fail
                            go_round
                            case rel => exact ⟨r + 1, by omega, rfl⟩
                            case measure => simp [intOf]; omega
                          · have hr64 : r = 64 := by omega
                            subst hr64
                            have g1 : decide ((64 : Int) < 64) = false := by decide
                            go_wp2_with fail
                            refine (log_clear_nil _).mono ?_
                            rintro e w11 ⟨rfl, rfl⟩
                            go_wp2_with fail
                            refine (log_get_nil _ _).mono ?_
                            rintro e w11 ⟨rfl, rfl⟩
                            go_wp2_with fail
                            refine (log_len _ _ _ _ h10.at_).mono ?_
                            rintro e w11 ⟨rfl, rfl⟩
                            rw [show ((clearL L).addrs.length : Int) = 0 from rfl]
                            go_wp2_with fail
                            refine (log_addrs _ _ _ _ h10.at_ h10.inv).mono ?_
                            rintro e w11 ⟨G, cg, rfl, oG, hcG⟩
                            rw [show (clearL L).addrs.length = 0 from rfl]
                            have h11 := (h10.chg0 hcG).below
                            clear h10 oG hcG
                            go_wp2_with fail
                            refine (log_put_nil _ _ _).mono ?_
                            rintro e w12 ⟨rfl, rfl⟩
                            go_wp2_with fail
                            refine (log_len_nil _).mono ?_
                            rintro e w12 ⟨rfl, rfl⟩
                            go_wp2_with fail
                            refine (log_index_nil _).mono ?_
                            rintro e w12 ⟨rfl, rfl⟩
                            go_wp2_with fail
                            refine (awake13 _).mono ?_
                            rintro e w13 ⟨rfl, hb⟩
                            go_wp2_with fail
                            go_ret
                            exact ⟨rfl, chg_below h11 (Chg.of_below hb) (Own.nil _)⟩
  · have hd : decide (30 < (len0 : Int)) = true := decide_eq_true (by omega)
    go_enter Try.func14, Try.ntmps14
    go_wp2_with fail
    refine (awake13 _).mono ?_
    rintro e w13 ⟨rfl, hb⟩
    go_wp2_with fail
    go_ret
    exact ⟨rfl, hb⟩
end Go.Proofs.Ytponapjgajmdnaa
