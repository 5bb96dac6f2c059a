/- Configurations: the reference's check. -/
import Derived.Test.YtopcnaakdldkpaaCfg
namespace Go.Proofs.Ytopcnaakdldkpaa
open Go.RowKit
set_option linter.unusedVariables false

set_option maxHeartbeats 8000000 in
theorem rcheck_any (w : World) (c : Cfg) : Calls Try.prog 67 #[c.val] w (CheckPost w c) := by
  rcases cfgErr_spec c with ⟨h1 | ⟨h1, h2⟩, hE⟩ | ⟨⟨h1, h2⟩, h3 | ⟨h3, h4 | ⟨h4, h5⟩⟩, hE⟩ | ⟨⟨h1, h2⟩, ⟨h3, h4, h5⟩, ⟨h6 | ⟨h6, h7 | ⟨h7, h8 | ⟨h8, h9⟩⟩⟩, hE⟩ | ⟨⟨h6, h7, h8, h9⟩, ⟨h10, hE⟩ | ⟨h10, hE⟩⟩⟩
  · have HE := hid hE
    clear hE
    have E1 := hid h1
    clear h1
    go_enter Try.func67, Try.ntmps67
    go_wp2_with (go_at_call 80; refine (rwithin_any _ _ _ _).mono ?_; rintro e w' ⟨rfl, rfl⟩; (first | rw [E1.out]))
    go_ret
    exact ⟨int_eq2 HE.out.symm, (Chg.refl [] w).alloc _⟩
  · have HE := hid hE
    clear hE
    have E1 := hid h1
    have E2 := hid h2
    clear h1 h2
    go_enter Try.func67, Try.ntmps67
    go_wp2_with (go_at_call 80; refine (rwithin_any _ _ _ _).mono ?_; rintro e w' ⟨rfl, rfl⟩; (first | rw [E1.out] | rw [E2.out]))
    go_ret
    exact ⟨int_eq2 HE.out.symm, (Chg.refl [] w).alloc _⟩
  · have HE := hid hE
    clear hE
    have E1 := hid h1
    have E2 := hid h2
    clear h1 h2
    rcases kfalse h3 with h3a | ⟨h3a, h3b | ⟨h3b, h3c | ⟨h3c, h3d | ⟨h3d, h3e⟩⟩⟩⟩
    · clear h3
      have E3a := hid h3a
      clear h3a
      go_enter Try.func67, Try.ntmps67
      go_wp2_with (go_at_call 80; refine (rwithin_any _ _ _ _).mono ?_; rintro e w' ⟨rfl, rfl⟩; (first | rw [E1.out] | rw [E2.out] | rw [E3a.out]))
      refine wp_loop_rounds 1 ?_
      rw [rounds_succ]; go_wp2_with (go_at_call 80; refine (rwithin_any _ _ _ _).mono ?_; rintro e w' ⟨rfl, rfl⟩; (first | rw [E1.out] | rw [E2.out] | rw [E3a.out]))
      go_ret
      exact ⟨int_eq2 HE.out.symm, (Chg.refl [] w).alloc _⟩
    · clear h3
      have bc0 := win_true.1 h3a
      have E3a := hid h3a
      have E3b := hid h3b
      clear h3a h3b
      go_enter Try.func67, Try.ntmps67
      go_wp2_with (go_at_call 80; refine (rwithin_any _ _ _ _).mono ?_; rintro e w' ⟨rfl, rfl⟩; (first | rw [E1.out] | rw [E2.out] | rw [E3a.out] | rw [E3b.out]))
      refine wp_loop_rounds 2 ?_
      rw [rounds_succ]; go_wp2_with (go_at_call 80; refine (rwithin_any _ _ _ _).mono ?_; rintro e w' ⟨rfl, rfl⟩; (first | rw [E1.out] | rw [E2.out] | rw [E3a.out] | rw [E3b.out]))
      rw [rounds_succ]; go_wp2_with (go_at_call 80; refine (rwithin_any _ _ _ _).mono ?_; rintro e w' ⟨rfl, rfl⟩; (first | rw [E1.out] | rw [E2.out] | rw [E3a.out] | rw [E3b.out]))
      go_ret
      exact ⟨int_eq2 HE.out.symm, (Chg.refl [] w).alloc _⟩
    · clear h3
      have bc0 := win_true.1 h3a
      have bc1 := win_true.1 h3b
      have E3a := hid h3a
      have E3b := hid h3b
      have E3c := hid h3c
      clear h3a h3b h3c
      go_enter Try.func67, Try.ntmps67
      go_wp2_with (go_at_call 80; refine (rwithin_any _ _ _ _).mono ?_; rintro e w' ⟨rfl, rfl⟩; (first | rw [E1.out] | rw [E2.out] | rw [E3a.out] | rw [E3b.out] | rw [E3c.out]))
      refine wp_loop_rounds 3 ?_
      rw [rounds_succ]; go_wp2_with (go_at_call 80; refine (rwithin_any _ _ _ _).mono ?_; rintro e w' ⟨rfl, rfl⟩; (first | rw [E1.out] | rw [E2.out] | rw [E3a.out] | rw [E3b.out] | rw [E3c.out]))
      rw [rounds_succ]; go_wp2_with (go_at_call 80; refine (rwithin_any _ _ _ _).mono ?_; rintro e w' ⟨rfl, rfl⟩; (first | rw [E1.out] | rw [E2.out] | rw [E3a.out] | rw [E3b.out] | rw [E3c.out]))
      rw [rounds_succ]; go_wp2_with (go_at_call 80; refine (rwithin_any _ _ _ _).mono ?_; rintro e w' ⟨rfl, rfl⟩; (first | rw [E1.out] | rw [E2.out] | rw [E3a.out] | rw [E3b.out] | rw [E3c.out]))
      go_ret
      exact ⟨int_eq2 HE.out.symm, (Chg.refl [] w).alloc _⟩
    · clear h3
      have bc0 := win_true.1 h3a
      have bc1 := win_true.1 h3b
      have bc2 := win_true.1 h3c
      have E3a := hid h3a
      have E3b := hid h3b
      have E3c := hid h3c
      have E3d := hid h3d
      clear h3a h3b h3c h3d
      go_enter Try.func67, Try.ntmps67
      go_wp2_with (go_at_call 80; refine (rwithin_any _ _ _ _).mono ?_; rintro e w' ⟨rfl, rfl⟩; (first | rw [E1.out] | rw [E2.out] | rw [E3a.out] | rw [E3b.out] | rw [E3c.out] | rw [E3d.out]))
      refine wp_loop_rounds 4 ?_
      rw [rounds_succ]; go_wp2_with (go_at_call 80; refine (rwithin_any _ _ _ _).mono ?_; rintro e w' ⟨rfl, rfl⟩; (first | rw [E1.out] | rw [E2.out] | rw [E3a.out] | rw [E3b.out] | rw [E3c.out] | rw [E3d.out]))
      rw [rounds_succ]; go_wp2_with (go_at_call 80; refine (rwithin_any _ _ _ _).mono ?_; rintro e w' ⟨rfl, rfl⟩; (first | rw [E1.out] | rw [E2.out] | rw [E3a.out] | rw [E3b.out] | rw [E3c.out] | rw [E3d.out]))
      rw [rounds_succ]; go_wp2_with (go_at_call 80; refine (rwithin_any _ _ _ _).mono ?_; rintro e w' ⟨rfl, rfl⟩; (first | rw [E1.out] | rw [E2.out] | rw [E3a.out] | rw [E3b.out] | rw [E3c.out] | rw [E3d.out]))
      rw [rounds_succ]; go_wp2_with (go_at_call 80; refine (rwithin_any _ _ _ _).mono ?_; rintro e w' ⟨rfl, rfl⟩; (first | rw [E1.out] | rw [E2.out] | rw [E3a.out] | rw [E3b.out] | rw [E3c.out] | rw [E3d.out]))
      go_ret
      exact ⟨int_eq2 HE.out.symm, (Chg.refl [] w).alloc _⟩
    · clear h3
      have bc0 := win_true.1 h3a
      have bc1 := win_true.1 h3b
      have bc2 := win_true.1 h3c
      have bc3 := win_true.1 h3d
      unfold nblocks at h3e
      have E3a := hid h3a
      have E3b := hid h3b
      have E3c := hid h3c
      have E3d := hid h3d
      clear h3a h3b h3c h3d
      go_enter Try.func67, Try.ntmps67
      go_wp2_with (go_at_call 80; refine (rwithin_any _ _ _ _).mono ?_; rintro e w' ⟨rfl, rfl⟩; (first | rw [E1.out] | rw [E2.out] | rw [E3a.out] | rw [E3b.out] | rw [E3c.out] | rw [E3d.out]))
      refine wp_loop_rounds 5 ?_
      rw [rounds_succ]; go_wp2_with (go_at_call 80; refine (rwithin_any _ _ _ _).mono ?_; rintro e w' ⟨rfl, rfl⟩; (first | rw [E1.out] | rw [E2.out] | rw [E3a.out] | rw [E3b.out] | rw [E3c.out] | rw [E3d.out]))
      rw [rounds_succ]; go_wp2_with (go_at_call 80; refine (rwithin_any _ _ _ _).mono ?_; rintro e w' ⟨rfl, rfl⟩; (first | rw [E1.out] | rw [E2.out] | rw [E3a.out] | rw [E3b.out] | rw [E3c.out] | rw [E3d.out]))
      rw [rounds_succ]; go_wp2_with (go_at_call 80; refine (rwithin_any _ _ _ _).mono ?_; rintro e w' ⟨rfl, rfl⟩; (first | rw [E1.out] | rw [E2.out] | rw [E3a.out] | rw [E3b.out] | rw [E3c.out] | rw [E3d.out]))
      rw [rounds_succ]; go_wp2_with (go_at_call 80; refine (rwithin_any _ _ _ _).mono ?_; rintro e w' ⟨rfl, rfl⟩; (first | rw [E1.out] | rw [E2.out] | rw [E3a.out] | rw [E3b.out] | rw [E3c.out] | rw [E3d.out]))
      rw [rounds_succ]; go_wp2_with (go_at_call 80; refine (rwithin_any _ _ _ _).mono ?_; rintro e w' ⟨rfl, rfl⟩; (first | rw [E1.out] | rw [E2.out] | rw [E3a.out] | rw [E3b.out] | rw [E3c.out] | rw [E3d.out]))
      go_ret
      exact ⟨int_eq2 HE.out.symm, (Chg.refl [] w).alloc _⟩
  · have HE := hid hE
    clear hE
    obtain ⟨⟨h3a, h3b, h3c, h3d⟩, h3e⟩ := ktrue h3
    clear h3
    have bc0 := win_true.1 h3a
    have bc1 := win_true.1 h3b
    have bc2 := win_true.1 h3c
    have bc3 := win_true.1 h3d
    unfold nblocks at h3e
    have E3a := hid h3a
    have E3b := hid h3b
    have E3c := hid h3c
    have E3d := hid h3d
    clear h3a h3b h3c h3d
    have b1 := win_true.1 h1
    have E1 := hid h1
    have E2 := hid h2
    have E4 := hid h4
    clear h1 h2 h4
    go_enter Try.func67, Try.ntmps67
    go_wp2_with (go_at_call 80; refine (rwithin_any _ _ _ _).mono ?_; rintro e w' ⟨rfl, rfl⟩; (first | rw [E1.out] | rw [E2.out] | rw [E4.out] | rw [E3a.out] | rw [E3b.out] | rw [E3c.out] | rw [E3d.out]))
    refine wp_loop_rounds 5 ?_
    rw [rounds_succ]; go_wp2_with (go_at_call 80; refine (rwithin_any _ _ _ _).mono ?_; rintro e w' ⟨rfl, rfl⟩; (first | rw [E1.out] | rw [E2.out] | rw [E4.out] | rw [E3a.out] | rw [E3b.out] | rw [E3c.out] | rw [E3d.out]))
    rw [rounds_succ]; go_wp2_with (go_at_call 80; refine (rwithin_any _ _ _ _).mono ?_; rintro e w' ⟨rfl, rfl⟩; (first | rw [E1.out] | rw [E2.out] | rw [E4.out] | rw [E3a.out] | rw [E3b.out] | rw [E3c.out] | rw [E3d.out]))
    rw [rounds_succ]; go_wp2_with (go_at_call 80; refine (rwithin_any _ _ _ _).mono ?_; rintro e w' ⟨rfl, rfl⟩; (first | rw [E1.out] | rw [E2.out] | rw [E4.out] | rw [E3a.out] | rw [E3b.out] | rw [E3c.out] | rw [E3d.out]))
    rw [rounds_succ]; go_wp2_with (go_at_call 80; refine (rwithin_any _ _ _ _).mono ?_; rintro e w' ⟨rfl, rfl⟩; (first | rw [E1.out] | rw [E2.out] | rw [E4.out] | rw [E3a.out] | rw [E3b.out] | rw [E3c.out] | rw [E3d.out]))
    rw [rounds_succ]; go_wp2_with (go_at_call 80; refine (rwithin_any _ _ _ _).mono ?_; rintro e w' ⟨rfl, rfl⟩; (first | rw [E1.out] | rw [E2.out] | rw [E4.out] | rw [E3a.out] | rw [E3b.out] | rw [E3c.out] | rw [E3d.out]))
    go_ret
    exact ⟨int_eq2 HE.out.symm, (Chg.refl [] w).alloc _⟩
  · have HE := hid hE
    clear hE
    obtain ⟨⟨h3a, h3b, h3c, h3d⟩, h3e⟩ := ktrue h3
    clear h3
    have bc0 := win_true.1 h3a
    have bc1 := win_true.1 h3b
    have bc2 := win_true.1 h3c
    have bc3 := win_true.1 h3d
    unfold nblocks at h3e
    have E3a := hid h3a
    have E3b := hid h3b
    have E3c := hid h3c
    have E3d := hid h3d
    clear h3a h3b h3c h3d
    have b1 := win_true.1 h1
    have b4 := win_true.1 h4
    have b5 : c.words < c.base + nwords c := by simpa using h5
    unfold nwords at b5
    clear h5
    have E1 := hid h1
    have E2 := hid h2
    have E4 := hid h4
    clear h1 h2 h4
    go_enter Try.func67, Try.ntmps67
    go_wp2_with (go_at_call 80; refine (rwithin_any _ _ _ _).mono ?_; rintro e w' ⟨rfl, rfl⟩; (first | rw [E1.out] | rw [E2.out] | rw [E4.out] | rw [E3a.out] | rw [E3b.out] | rw [E3c.out] | rw [E3d.out]))
    refine wp_loop_rounds 5 ?_
    rw [rounds_succ]; go_wp2_with (go_at_call 80; refine (rwithin_any _ _ _ _).mono ?_; rintro e w' ⟨rfl, rfl⟩; (first | rw [E1.out] | rw [E2.out] | rw [E4.out] | rw [E3a.out] | rw [E3b.out] | rw [E3c.out] | rw [E3d.out]))
    rw [rounds_succ]; go_wp2_with (go_at_call 80; refine (rwithin_any _ _ _ _).mono ?_; rintro e w' ⟨rfl, rfl⟩; (first | rw [E1.out] | rw [E2.out] | rw [E4.out] | rw [E3a.out] | rw [E3b.out] | rw [E3c.out] | rw [E3d.out]))
    rw [rounds_succ]; go_wp2_with (go_at_call 80; refine (rwithin_any _ _ _ _).mono ?_; rintro e w' ⟨rfl, rfl⟩; (first | rw [E1.out] | rw [E2.out] | rw [E4.out] | rw [E3a.out] | rw [E3b.out] | rw [E3c.out] | rw [E3d.out]))
    rw [rounds_succ]; go_wp2_with (go_at_call 80; refine (rwithin_any _ _ _ _).mono ?_; rintro e w' ⟨rfl, rfl⟩; (first | rw [E1.out] | rw [E2.out] | rw [E4.out] | rw [E3a.out] | rw [E3b.out] | rw [E3c.out] | rw [E3d.out]))
    rw [rounds_succ]; go_wp2_with (go_at_call 80; refine (rwithin_any _ _ _ _).mono ?_; rintro e w' ⟨rfl, rfl⟩; (first | rw [E1.out] | rw [E2.out] | rw [E4.out] | rw [E3a.out] | rw [E3b.out] | rw [E3c.out] | rw [E3d.out]))
    go_ret
    exact ⟨int_eq2 HE.out.symm, (Chg.refl [] w).alloc _⟩
  · have HE := hid hE
    clear hE
    obtain ⟨⟨h3a, h3b, h3c, h3d⟩, h3e⟩ := ktrue h3
    clear h3
    have bc0 := win_true.1 h3a
    have bc1 := win_true.1 h3b
    have bc2 := win_true.1 h3c
    have bc3 := win_true.1 h3d
    unfold nblocks at h3e
    have E3a := hid h3a
    have E3b := hid h3b
    have E3c := hid h3c
    have E3d := hid h3d
    clear h3a h3b h3c h3d
    have b1 := win_true.1 h1
    have b4 := win_true.1 h4
    have b5 : c.base + nwords c ≤ c.words := by simpa using h5
    unfold nwords at b5
    clear h5
    have E1 := hid h1
    have E2 := hid h2
    have E6 := hid h6
    have E4 := hid h4
    clear h1 h2 h6 h4
    go_enter Try.func67, Try.ntmps67
    go_wp2_with (go_at_call 80; refine (rwithin_any _ _ _ _).mono ?_; rintro e w' ⟨rfl, rfl⟩; (first | rw [E1.out] | rw [E2.out] | rw [E6.out] | rw [E4.out] | rw [E3a.out] | rw [E3b.out] | rw [E3c.out] | rw [E3d.out]))
    refine wp_loop_rounds 5 ?_
    rw [rounds_succ]; go_wp2_with (go_at_call 80; refine (rwithin_any _ _ _ _).mono ?_; rintro e w' ⟨rfl, rfl⟩; (first | rw [E1.out] | rw [E2.out] | rw [E6.out] | rw [E4.out] | rw [E3a.out] | rw [E3b.out] | rw [E3c.out] | rw [E3d.out]))
    rw [rounds_succ]; go_wp2_with (go_at_call 80; refine (rwithin_any _ _ _ _).mono ?_; rintro e w' ⟨rfl, rfl⟩; (first | rw [E1.out] | rw [E2.out] | rw [E6.out] | rw [E4.out] | rw [E3a.out] | rw [E3b.out] | rw [E3c.out] | rw [E3d.out]))
    rw [rounds_succ]; go_wp2_with (go_at_call 80; refine (rwithin_any _ _ _ _).mono ?_; rintro e w' ⟨rfl, rfl⟩; (first | rw [E1.out] | rw [E2.out] | rw [E6.out] | rw [E4.out] | rw [E3a.out] | rw [E3b.out] | rw [E3c.out] | rw [E3d.out]))
    rw [rounds_succ]; go_wp2_with (go_at_call 80; refine (rwithin_any _ _ _ _).mono ?_; rintro e w' ⟨rfl, rfl⟩; (first | rw [E1.out] | rw [E2.out] | rw [E6.out] | rw [E4.out] | rw [E3a.out] | rw [E3b.out] | rw [E3c.out] | rw [E3d.out]))
    rw [rounds_succ]; go_wp2_with (go_at_call 80; refine (rwithin_any _ _ _ _).mono ?_; rintro e w' ⟨rfl, rfl⟩; (first | rw [E1.out] | rw [E2.out] | rw [E6.out] | rw [E4.out] | rw [E3a.out] | rw [E3b.out] | rw [E3c.out] | rw [E3d.out]))
    go_ret
    exact ⟨int_eq2 HE.out.symm, (Chg.refl [] w).alloc _⟩
  · have HE := hid hE
    clear hE
    obtain ⟨⟨h3a, h3b, h3c, h3d⟩, h3e⟩ := ktrue h3
    clear h3
    have bc0 := win_true.1 h3a
    have bc1 := win_true.1 h3b
    have bc2 := win_true.1 h3c
    have bc3 := win_true.1 h3d
    unfold nblocks at h3e
    have E3a := hid h3a
    have E3b := hid h3b
    have E3c := hid h3c
    have E3d := hid h3d
    clear h3a h3b h3c h3d
    have b1 := win_true.1 h1
    have b4 := win_true.1 h4
    have b5 : c.base + nwords c ≤ c.words := by simpa using h5
    unfold nwords at b5
    clear h5
    have E1 := hid h1
    have E2 := hid h2
    have E6 := hid h6
    have E7 := hid h7
    have E4 := hid h4
    clear h1 h2 h6 h7 h4
    go_enter Try.func67, Try.ntmps67
    go_wp2_with (go_at_call 80; refine (rwithin_any _ _ _ _).mono ?_; rintro e w' ⟨rfl, rfl⟩; (first | rw [E1.out] | rw [E2.out] | rw [E6.out] | rw [E7.out] | rw [E4.out] | rw [E3a.out] | rw [E3b.out] | rw [E3c.out] | rw [E3d.out]))
    refine wp_loop_rounds 5 ?_
    rw [rounds_succ]; go_wp2_with (go_at_call 80; refine (rwithin_any _ _ _ _).mono ?_; rintro e w' ⟨rfl, rfl⟩; (first | rw [E1.out] | rw [E2.out] | rw [E6.out] | rw [E7.out] | rw [E4.out] | rw [E3a.out] | rw [E3b.out] | rw [E3c.out] | rw [E3d.out]))
    rw [rounds_succ]; go_wp2_with (go_at_call 80; refine (rwithin_any _ _ _ _).mono ?_; rintro e w' ⟨rfl, rfl⟩; (first | rw [E1.out] | rw [E2.out] | rw [E6.out] | rw [E7.out] | rw [E4.out] | rw [E3a.out] | rw [E3b.out] | rw [E3c.out] | rw [E3d.out]))
    rw [rounds_succ]; go_wp2_with (go_at_call 80; refine (rwithin_any _ _ _ _).mono ?_; rintro e w' ⟨rfl, rfl⟩; (first | rw [E1.out] | rw [E2.out] | rw [E6.out] | rw [E7.out] | rw [E4.out] | rw [E3a.out] | rw [E3b.out] | rw [E3c.out] | rw [E3d.out]))
    rw [rounds_succ]; go_wp2_with (go_at_call 80; refine (rwithin_any _ _ _ _).mono ?_; rintro e w' ⟨rfl, rfl⟩; (first | rw [E1.out] | rw [E2.out] | rw [E6.out] | rw [E7.out] | rw [E4.out] | rw [E3a.out] | rw [E3b.out] | rw [E3c.out] | rw [E3d.out]))
    rw [rounds_succ]; go_wp2_with (go_at_call 80; refine (rwithin_any _ _ _ _).mono ?_; rintro e w' ⟨rfl, rfl⟩; (first | rw [E1.out] | rw [E2.out] | rw [E6.out] | rw [E7.out] | rw [E4.out] | rw [E3a.out] | rw [E3b.out] | rw [E3c.out] | rw [E3d.out]))
    go_ret
    exact ⟨int_eq2 HE.out.symm, (Chg.refl [] w).alloc _⟩
  · have HE := hid hE
    clear hE
    obtain ⟨⟨h3a, h3b, h3c, h3d⟩, h3e⟩ := ktrue h3
    clear h3
    have bc0 := win_true.1 h3a
    have bc1 := win_true.1 h3b
    have bc2 := win_true.1 h3c
    have bc3 := win_true.1 h3d
    unfold nblocks at h3e
    have E3a := hid h3a
    have E3b := hid h3b
    have E3c := hid h3c
    have E3d := hid h3d
    clear h3a h3b h3c h3d
    have b1 := win_true.1 h1
    have b4 := win_true.1 h4
    have b5 : c.base + nwords c ≤ c.words := by simpa using h5
    unfold nwords at b5
    clear h5
    have E1 := hid h1
    have E2 := hid h2
    have E6 := hid h6
    have E7 := hid h7
    have E8 := hid h8
    have E4 := hid h4
    clear h1 h2 h6 h7 h8 h4
    go_enter Try.func67, Try.ntmps67
    go_wp2_with (go_at_call 80; refine (rwithin_any _ _ _ _).mono ?_; rintro e w' ⟨rfl, rfl⟩; (first | rw [E1.out] | rw [E2.out] | rw [E6.out] | rw [E7.out] | rw [E8.out] | rw [E4.out] | rw [E3a.out] | rw [E3b.out] | rw [E3c.out] | rw [E3d.out]))
    refine wp_loop_rounds 5 ?_
    rw [rounds_succ]; go_wp2_with (go_at_call 80; refine (rwithin_any _ _ _ _).mono ?_; rintro e w' ⟨rfl, rfl⟩; (first | rw [E1.out] | rw [E2.out] | rw [E6.out] | rw [E7.out] | rw [E8.out] | rw [E4.out] | rw [E3a.out] | rw [E3b.out] | rw [E3c.out] | rw [E3d.out]))
    rw [rounds_succ]; go_wp2_with (go_at_call 80; refine (rwithin_any _ _ _ _).mono ?_; rintro e w' ⟨rfl, rfl⟩; (first | rw [E1.out] | rw [E2.out] | rw [E6.out] | rw [E7.out] | rw [E8.out] | rw [E4.out] | rw [E3a.out] | rw [E3b.out] | rw [E3c.out] | rw [E3d.out]))
    rw [rounds_succ]; go_wp2_with (go_at_call 80; refine (rwithin_any _ _ _ _).mono ?_; rintro e w' ⟨rfl, rfl⟩; (first | rw [E1.out] | rw [E2.out] | rw [E6.out] | rw [E7.out] | rw [E8.out] | rw [E4.out] | rw [E3a.out] | rw [E3b.out] | rw [E3c.out] | rw [E3d.out]))
    rw [rounds_succ]; go_wp2_with (go_at_call 80; refine (rwithin_any _ _ _ _).mono ?_; rintro e w' ⟨rfl, rfl⟩; (first | rw [E1.out] | rw [E2.out] | rw [E6.out] | rw [E7.out] | rw [E8.out] | rw [E4.out] | rw [E3a.out] | rw [E3b.out] | rw [E3c.out] | rw [E3d.out]))
    rw [rounds_succ]; go_wp2_with (go_at_call 80; refine (rwithin_any _ _ _ _).mono ?_; rintro e w' ⟨rfl, rfl⟩; (first | rw [E1.out] | rw [E2.out] | rw [E6.out] | rw [E7.out] | rw [E8.out] | rw [E4.out] | rw [E3a.out] | rw [E3b.out] | rw [E3c.out] | rw [E3d.out]))
    go_ret
    exact ⟨int_eq2 HE.out.symm, (Chg.refl [] w).alloc _⟩
  · have HE := hid hE
    clear hE
    obtain ⟨⟨h3a, h3b, h3c, h3d⟩, h3e⟩ := ktrue h3
    clear h3
    have bc0 := win_true.1 h3a
    have bc1 := win_true.1 h3b
    have bc2 := win_true.1 h3c
    have bc3 := win_true.1 h3d
    unfold nblocks at h3e
    have E3a := hid h3a
    have E3b := hid h3b
    have E3c := hid h3c
    have E3d := hid h3d
    clear h3a h3b h3c h3d
    have b1 := win_true.1 h1
    have b4 := win_true.1 h4
    have b5 : c.base + nwords c ≤ c.words := by simpa using h5
    unfold nwords at b5
    clear h5
    have E1 := hid h1
    have E2 := hid h2
    have E6 := hid h6
    have E7 := hid h7
    have E8 := hid h8
    have E9 := hid h9
    have E4 := hid h4
    clear h1 h2 h6 h7 h8 h9 h4
    go_enter Try.func67, Try.ntmps67
    go_wp2_with (go_at_call 80; refine (rwithin_any _ _ _ _).mono ?_; rintro e w' ⟨rfl, rfl⟩; (first | rw [E1.out] | rw [E2.out] | rw [E6.out] | rw [E7.out] | rw [E8.out] | rw [E9.out] | rw [E4.out] | rw [E3a.out] | rw [E3b.out] | rw [E3c.out] | rw [E3d.out]))
    refine wp_loop_rounds 5 ?_
    rw [rounds_succ]; go_wp2_with (go_at_call 80; refine (rwithin_any _ _ _ _).mono ?_; rintro e w' ⟨rfl, rfl⟩; (first | rw [E1.out] | rw [E2.out] | rw [E6.out] | rw [E7.out] | rw [E8.out] | rw [E9.out] | rw [E4.out] | rw [E3a.out] | rw [E3b.out] | rw [E3c.out] | rw [E3d.out]))
    rw [rounds_succ]; go_wp2_with (go_at_call 80; refine (rwithin_any _ _ _ _).mono ?_; rintro e w' ⟨rfl, rfl⟩; (first | rw [E1.out] | rw [E2.out] | rw [E6.out] | rw [E7.out] | rw [E8.out] | rw [E9.out] | rw [E4.out] | rw [E3a.out] | rw [E3b.out] | rw [E3c.out] | rw [E3d.out]))
    rw [rounds_succ]; go_wp2_with (go_at_call 80; refine (rwithin_any _ _ _ _).mono ?_; rintro e w' ⟨rfl, rfl⟩; (first | rw [E1.out] | rw [E2.out] | rw [E6.out] | rw [E7.out] | rw [E8.out] | rw [E9.out] | rw [E4.out] | rw [E3a.out] | rw [E3b.out] | rw [E3c.out] | rw [E3d.out]))
    rw [rounds_succ]; go_wp2_with (go_at_call 80; refine (rwithin_any _ _ _ _).mono ?_; rintro e w' ⟨rfl, rfl⟩; (first | rw [E1.out] | rw [E2.out] | rw [E6.out] | rw [E7.out] | rw [E8.out] | rw [E9.out] | rw [E4.out] | rw [E3a.out] | rw [E3b.out] | rw [E3c.out] | rw [E3d.out]))
    rw [rounds_succ]; go_wp2_with (go_at_call 80; refine (rwithin_any _ _ _ _).mono ?_; rintro e w' ⟨rfl, rfl⟩; (first | rw [E1.out] | rw [E2.out] | rw [E6.out] | rw [E7.out] | rw [E8.out] | rw [E9.out] | rw [E4.out] | rw [E3a.out] | rw [E3b.out] | rw [E3c.out] | rw [E3d.out]))
    go_ret
    exact ⟨int_eq2 HE.out.symm, (Chg.refl [] w).alloc _⟩
  · have HE := hid hE
    clear hE
    obtain ⟨⟨h3a, h3b, h3c, h3d⟩, h3e⟩ := ktrue h3
    clear h3
    have bc0 := win_true.1 h3a
    have bc1 := win_true.1 h3b
    have bc2 := win_true.1 h3c
    have bc3 := win_true.1 h3d
    unfold nblocks at h3e
    have E3a := hid h3a
    have E3b := hid h3b
    have E3c := hid h3c
    have E3d := hid h3d
    clear h3a h3b h3c h3d
    have b1 := win_true.1 h1
    have b4 := win_true.1 h4
    have b5 : c.base + nwords c ≤ c.words := by simpa using h5
    unfold nwords at b5
    clear h5
    have E1 := hid h1
    have E2 := hid h2
    have E6 := hid h6
    have E7 := hid h7
    have E8 := hid h8
    have E9 := hid h9
    have E10 := hid h10
    have E4 := hid h4
    clear h1 h2 h6 h7 h8 h9 h10 h4
    go_enter Try.func67, Try.ntmps67
    go_wp2_with (go_at_call 80; refine (rwithin_any _ _ _ _).mono ?_; rintro e w' ⟨rfl, rfl⟩; (first | rw [E1.out] | rw [E2.out] | rw [E6.out] | rw [E7.out] | rw [E8.out] | rw [E9.out] | rw [E10.out] | rw [E4.out] | rw [E3a.out] | rw [E3b.out] | rw [E3c.out] | rw [E3d.out]))
    refine wp_loop_rounds 5 ?_
    rw [rounds_succ]; go_wp2_with (go_at_call 80; refine (rwithin_any _ _ _ _).mono ?_; rintro e w' ⟨rfl, rfl⟩; (first | rw [E1.out] | rw [E2.out] | rw [E6.out] | rw [E7.out] | rw [E8.out] | rw [E9.out] | rw [E10.out] | rw [E4.out] | rw [E3a.out] | rw [E3b.out] | rw [E3c.out] | rw [E3d.out]))
    rw [rounds_succ]; go_wp2_with (go_at_call 80; refine (rwithin_any _ _ _ _).mono ?_; rintro e w' ⟨rfl, rfl⟩; (first | rw [E1.out] | rw [E2.out] | rw [E6.out] | rw [E7.out] | rw [E8.out] | rw [E9.out] | rw [E10.out] | rw [E4.out] | rw [E3a.out] | rw [E3b.out] | rw [E3c.out] | rw [E3d.out]))
    rw [rounds_succ]; go_wp2_with (go_at_call 80; refine (rwithin_any _ _ _ _).mono ?_; rintro e w' ⟨rfl, rfl⟩; (first | rw [E1.out] | rw [E2.out] | rw [E6.out] | rw [E7.out] | rw [E8.out] | rw [E9.out] | rw [E10.out] | rw [E4.out] | rw [E3a.out] | rw [E3b.out] | rw [E3c.out] | rw [E3d.out]))
    rw [rounds_succ]; go_wp2_with (go_at_call 80; refine (rwithin_any _ _ _ _).mono ?_; rintro e w' ⟨rfl, rfl⟩; (first | rw [E1.out] | rw [E2.out] | rw [E6.out] | rw [E7.out] | rw [E8.out] | rw [E9.out] | rw [E10.out] | rw [E4.out] | rw [E3a.out] | rw [E3b.out] | rw [E3c.out] | rw [E3d.out]))
    rw [rounds_succ]; go_wp2_with (go_at_call 80; refine (rwithin_any _ _ _ _).mono ?_; rintro e w' ⟨rfl, rfl⟩; (first | rw [E1.out] | rw [E2.out] | rw [E6.out] | rw [E7.out] | rw [E8.out] | rw [E9.out] | rw [E10.out] | rw [E4.out] | rw [E3a.out] | rw [E3b.out] | rw [E3c.out] | rw [E3d.out]))
    go_ret
    exact ⟨int_eq2 HE.out.symm, (Chg.refl [] w).alloc _⟩
  · have HE := hid hE
    clear hE
    obtain ⟨⟨h3a, h3b, h3c, h3d⟩, h3e⟩ := ktrue h3
    clear h3
    have bc0 := win_true.1 h3a
    have bc1 := win_true.1 h3b
    have bc2 := win_true.1 h3c
    have bc3 := win_true.1 h3d
    unfold nblocks at h3e
    have E3a := hid h3a
    have E3b := hid h3b
    have E3c := hid h3c
    have E3d := hid h3d
    clear h3a h3b h3c h3d
    have b1 := win_true.1 h1
    have b4 := win_true.1 h4
    have b5 : c.base + nwords c ≤ c.words := by simpa using h5
    unfold nwords at b5
    clear h5
    have E1 := hid h1
    have E2 := hid h2
    have E6 := hid h6
    have E7 := hid h7
    have E8 := hid h8
    have E9 := hid h9
    have E10 := hid h10
    have E4 := hid h4
    clear h1 h2 h6 h7 h8 h9 h10 h4
    go_enter Try.func67, Try.ntmps67
    go_wp2_with (go_at_call 80; refine (rwithin_any _ _ _ _).mono ?_; rintro e w' ⟨rfl, rfl⟩; (first | rw [E1.out] | rw [E2.out] | rw [E6.out] | rw [E7.out] | rw [E8.out] | rw [E9.out] | rw [E10.out] | rw [E4.out] | rw [E3a.out] | rw [E3b.out] | rw [E3c.out] | rw [E3d.out]))
    refine wp_loop_rounds 5 ?_
    rw [rounds_succ]; go_wp2_with (go_at_call 80; refine (rwithin_any _ _ _ _).mono ?_; rintro e w' ⟨rfl, rfl⟩; (first | rw [E1.out] | rw [E2.out] | rw [E6.out] | rw [E7.out] | rw [E8.out] | rw [E9.out] | rw [E10.out] | rw [E4.out] | rw [E3a.out] | rw [E3b.out] | rw [E3c.out] | rw [E3d.out]))
    rw [rounds_succ]; go_wp2_with (go_at_call 80; refine (rwithin_any _ _ _ _).mono ?_; rintro e w' ⟨rfl, rfl⟩; (first | rw [E1.out] | rw [E2.out] | rw [E6.out] | rw [E7.out] | rw [E8.out] | rw [E9.out] | rw [E10.out] | rw [E4.out] | rw [E3a.out] | rw [E3b.out] | rw [E3c.out] | rw [E3d.out]))
    rw [rounds_succ]; go_wp2_with (go_at_call 80; refine (rwithin_any _ _ _ _).mono ?_; rintro e w' ⟨rfl, rfl⟩; (first | rw [E1.out] | rw [E2.out] | rw [E6.out] | rw [E7.out] | rw [E8.out] | rw [E9.out] | rw [E10.out] | rw [E4.out] | rw [E3a.out] | rw [E3b.out] | rw [E3c.out] | rw [E3d.out]))
    rw [rounds_succ]; go_wp2_with (go_at_call 80; refine (rwithin_any _ _ _ _).mono ?_; rintro e w' ⟨rfl, rfl⟩; (first | rw [E1.out] | rw [E2.out] | rw [E6.out] | rw [E7.out] | rw [E8.out] | rw [E9.out] | rw [E10.out] | rw [E4.out] | rw [E3a.out] | rw [E3b.out] | rw [E3c.out] | rw [E3d.out]))
    rw [rounds_succ]; go_wp2_with (go_at_call 80; refine (rwithin_any _ _ _ _).mono ?_; rintro e w' ⟨rfl, rfl⟩; (first | rw [E1.out] | rw [E2.out] | rw [E6.out] | rw [E7.out] | rw [E8.out] | rw [E9.out] | rw [E10.out] | rw [E4.out] | rw [E3a.out] | rw [E3b.out] | rw [E3c.out] | rw [E3d.out]))
    go_ret
    exact ⟨int_eq2 HE.out.symm, (Chg.refl [] w).alloc _⟩
end Go.Proofs.Ytopcnaakdldkpaa
