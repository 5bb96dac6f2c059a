/-
  What the proof of TopTransfers leans on, part 28 of 48: At13. No statement of its own.
-/
import Derived.Test.YtmlfangeanmmeaaGreatDoorTm27
namespace Go.Proofs.YtmlfangeanmmeaaGreatDoor
set_option maxRecDepth 8000
open Go.RowKit
set_option linter.unusedVariables false
section
variable {w0 w:World} {R R':Asr} {g m gl gk gc2:Nat} {c:Cfg} {x:AtR} {L:PL} {C C2:Nat→List Int} {a:Acc} {th sn z v rv V ad o bf vl:Int} {zs vs os old:List Int}
set_option maxHeartbeats 8000000 in
theorem Z5e (h:Hold w0 w (atA g c x*(rdA gk ad o rv 0 bf vl false*(memA m C*R)))) (hx:x.read=ptrV gk) (hl:x.loads=0) (hC:COk C) (ho:-9223372036854775808≤o∧o≤9223372036854775807) (ha:opA C 1 2 o (valC C 2 o) true=a) (hg:0≤a.got∧a.got < 18446744073709551616) (hb:a.got % 64=0∧a.got / 64≤rv) :
    Calls Tryz.prog 87 #[ptrV g,ptrV m] w (APostX (ι:=Unit) w0 (fun _=>atA g c { x with loads:=1 }*(rdA gk ad o rv 1 a.got vl false*(memA m C*R))) a 5):=by
  have HX:=hid hx
  have HS0:=hid (And.intro hC ha)
  have HL:=hid hl
  clear hx hC ha hl
  have H1:=hid (nb h)
  clear h
  go_enter Tryz.func87,Tryz.ntmps87
  go_upto_region 1 with fail
  have h1:=H1.out
  generalize hW:w.alloc _=W at h1 ⊢
  generalize w.heap.size=gr at h1 ⊢
  clear hW H1
  have h2:Hold w0 W (atA g c x*(rdA gk ad o rv 0 bf vl false*(memA m C*(blkA 50 gr (acD acc0)*R)))):=h1.pk4 [1,2,3,0]
  clear h1
  have hsq:∀ {w':World} {R':Asr},Hold w0 w' (atA g c x*R')→w'.cell? ⟨g,6,none⟩=some (ptrV gk)∧w'.cell? ⟨g,7,none⟩=some (.int .i64 0):=fun h=>by
    have q1:=h.Zmi
    have q2:=h.Zmj
    rw [HX.out] at q1
    rw [HL.out] at q2
    exact ⟨q1,q2⟩
  go_cut [6,7] (fun s6 s7 wx=>∃ gc,s6 = .pointer (some ⟨gc,0,none⟩)∧s7 = .int .i64 5∧Hold w0 wx (blkA 50 gc (acD a)*(atA g c x*(rdA gk ad o rv 1 a.got vl false*(memA m C*(blkA 50 gr (acD acc0)*R))))))
  case first =>
    replace h2:=h2.drew
    refine Z01 [] (by kernel_rfl) ?_
    generalize hW:W.drew=W1 at h2 ⊢
    clear hW
    refine Z05 (fun w'=>w'.cell? ⟨g,6,none⟩=some (ptrV gk)∧w'.cell? ⟨g,7,none⟩=some (.int .i64 0)) (fun _ _=>trivial) _ _ _ _ ?_
    refine' wbk [true,true,true,true,true,true,false,true,true,true,true,true,true] 123 (hsq h2) (fun wq hq=>?_) ?_;rotate_left
    · simp only [Z00]
      obtain ⟨q1,q2⟩:=hq
      repeat (go_big_quiet_step (fail))
      exact wpQuiet_nil rfl
    refine Z0n [false,false,false,false,false,false,true] [false,false,false,false,false,false,false,false,false,false,false,false,false,true] (fuel:=3) (by rfl) (by rfl) (by rfl) (by rfl) (by kernel_rfl) (fun QB hQB hQX=>?_) (fun QB hQB hQX=>?_)
    · simp only [Z00]
      first
        | have HS:=hid (Z34 w0 W3 _ gk m C ad o rv bf vl false a (h4.pk4 [2,3,1,0]) HS0.out.1 ho HS0.out.2 hg hb)
        | have HS:=hid (Z34 w0 W1 _ gk m C ad o rv bf vl false a (h2.pk3 [1,2,0]) HS0.out.1 ho HS0.out.2 hg hb)
      go_wp2_with fail
      refine HS.out.mono ?_
      rintro e w3 ⟨rfl,h3'⟩
      first
        | have h3:Hold w0 w3 (atA g c x*(blkA 50 gc (acD acc0)*(rdA gk ad o rv 1 a.got vl false*(memA m C*(blkA 50 gr (acD acc0)*R))))):=h3'.pk4 [2,3,0,1]
        | have h3:Hold w0 w3 (atA g c x*(rdA gk ad o rv 1 a.got vl false*(memA m C*(blkA 50 gr (acD acc0)*R)))):=h3'.pk3 [2,0,1]
      clear HS h3'
      first | clear h2 | skip
      go_wp2_with fail
      refine hQB.out _ _ (by first | exact hsq (h3.pk2 [1,0]) | exact hsq h3) ?_
      clear hQB hQX QB
      refine wbr [false,false,false,false,false,false,false,false,false,false,false,false,false,true] (fuel:=2) (fun QB hQB hQX=>?_)
      simp only [Z00]
      first
        | have H4:=hid (nb h3)
        | have H4:=hid (nb h2)
      go_wp2_with fail
      refine hQB.out _ _ (hsq H4.out.drop) ?_
      clear hQB hQX QB
      have h4:=H4.out
      clear H4
      first
        | (generalize hW:w3.alloc _=W3 at h4 ⊢;clear hW;generalize w3.heap.size=gc at h4 ⊢;clear h3)
        | (generalize hW:W1.alloc _=W3 at h4 ⊢;clear hW;generalize W1.heap.size=gc at h4 ⊢;clear h2)
      refine wbr [false,false,false,false,false,false,false,false,false,false,false,false,false,false,true] (fuel:=1) (fun QB hQB hQX=>?_)
      simp only [Z00]
      first
        | have hf:=h3.pk2 [1,0]
        | have hf:=h4
      obtain ⟨⟨x0,x1,x2,x3,x4,x5⟩,z0,z1,z2,z3,z4,z5⟩:=Z09 hf.blk
      have H6:=hid (hf.Zma (.int .i64 a.kind) (.int .i64 a.cell) (.int .i64 a.index) (.int .u64 a.got) (.int .u64 a.put) (.bool a.done))
      clear hf
      first | clear h3 | skip
      first | clear h4 | skip
      go_wp2_with fail
      refine hQB.out _ _ (hsq H6.out.drop) ?_
      clear hQB hQX QB x0 x1 x2 x3 x4 x5 z0 z1 z2 z3 z4 z5
      have h6:=H6.out
      generalize hW:World.setCell _ _ _=W6 at h6 ⊢
      clear hW H6
      refine' wbk [false,false,false,false,false,false,false,false,false,false,false,false,false,false,false,true] 123 (hsq h6.drop) (fun wq hq=>?_) ?_;rotate_left
      · simp only [Z00]
        repeat (go_big_quiet_step (fail))
        exact wpQuiet_nil rfl
      refine Z02 (by kernel_rfl) ?_ _
      go_wp2_with fail
      go_meet
      exact ⟨gc,rfl,rfl,h6⟩
    · simp only [Z00]
      first
        | have H4:=hid (nb h3)
        | have H4:=hid (nb h2)
      go_wp2_with fail
      refine hQB.out _ _ (hsq H4.out.drop) ?_
      clear hQB hQX QB
      have h4:=H4.out
      clear H4
      first
        | (generalize hW:w3.alloc _=W3 at h4 ⊢;clear hW;generalize w3.heap.size=gc at h4 ⊢;clear h3)
        | (generalize hW:W1.alloc _=W3 at h4 ⊢;clear hW;generalize W1.heap.size=gc at h4 ⊢;clear h2)
      refine wbr [false,false,false,false,false,false,true] (fuel:=2) (fun QB hQB hQX=>?_)
      simp only [Z00]
      first
        | have HS:=hid (Z34 w0 W3 _ gk m C ad o rv bf vl false a (h4.pk4 [2,3,1,0]) HS0.out.1 ho HS0.out.2 hg hb)
        | have HS:=hid (Z34 w0 W1 _ gk m C ad o rv bf vl false a (h2.pk3 [1,2,0]) HS0.out.1 ho HS0.out.2 hg hb)
      go_wp2_with fail
      refine HS.out.mono ?_
      rintro e w3 ⟨rfl,h3'⟩
      first
        | have h3:Hold w0 w3 (atA g c x*(blkA 50 gc (acD acc0)*(rdA gk ad o rv 1 a.got vl false*(memA m C*(blkA 50 gr (acD acc0)*R))))):=h3'.pk4 [2,3,0,1]
        | have h3:Hold w0 w3 (atA g c x*(rdA gk ad o rv 1 a.got vl false*(memA m C*(blkA 50 gr (acD acc0)*R)))):=h3'.pk3 [2,0,1]
      clear HS h3'
      first | clear h2 | skip
      go_wp2_with fail
      refine hQB.out _ _ (by first | exact hsq (h3.pk2 [1,0]) | exact hsq h3) ?_
      clear hQB hQX QB
      refine wbr [false,false,false,false,false,false,false,false,false,false,false,false,false,false,true] (fuel:=1) (fun QB hQB hQX=>?_)
      simp only [Z00]
      first
        | have hf:=h3.pk2 [1,0]
        | have hf:=h4
      obtain ⟨⟨x0,x1,x2,x3,x4,x5⟩,z0,z1,z2,z3,z4,z5⟩:=Z09 hf.blk
      have H6:=hid (hf.Zma (.int .i64 a.kind) (.int .i64 a.cell) (.int .i64 a.index) (.int .u64 a.got) (.int .u64 a.put) (.bool a.done))
      clear hf
      first | clear h3 | skip
      first | clear h4 | skip
      go_wp2_with fail
      refine hQB.out _ _ (hsq H6.out.drop) ?_
      clear hQB hQX QB x0 x1 x2 x3 x4 x5 z0 z1 z2 z3 z4 z5
      have h6:=H6.out
      generalize hW:World.setCell _ _ _=W6 at h6 ⊢
      clear hW H6
      refine' wbk [false,false,false,false,false,false,false,false,false,false,false,false,false,false,false,true] 123 (hsq h6.drop) (fun wq hq=>?_) ?_;rotate_left
      · simp only [Z00]
        repeat (go_big_quiet_step (fail))
        exact wpQuiet_nil rfl
      refine Z02 (by kernel_rfl) ?_ _
      go_wp2_with fail
      go_meet
      exact ⟨gc,rfl,rfl,h6⟩
  case rest =>
  clear h2 hsq
  rename World=>w7
  obtain ⟨gc,rfl,rfl,h6⟩:=hcut
  have h7:Hold w0 w7 (atA g c x*(rdA gk ad o rv 1 a.got vl false*(memA m C*(blkA 50 gr (acD acc0)*(blkA 50 gc (acD a)*R))))):=h6.pk5 [1,2,3,4,0]
  have p1:=h7.Zmj
  rw [HL.out] at p1
  have z1:=h7.atZ 7
  have H8:=hid (h7.Zmk 1)
  clear h6 h7
  go_upto_region 3 with fail
  have h8:=H8.out
  generalize hW:World.setCell _ _ _=W8 at h8 ⊢
  clear hW H8 p1 z1
  have q:=h8.Zmi
  rw [show ({ x with loads:=1 }:AtR).read=x.read from rfl,HX.out] at q
  have HD:=hid (Z35 w0 W8 _ gk ad o rv _ _ _ _ h8.swap)
  have h10:Hold w0 W8 (blkA 50 gr (acD acc0)*(blkA 50 gc (acD a)*(atA g c { x with loads:=1 }*(rdA gk ad o rv 1 a.got vl false*(memA m C*R))))):=h8.pk5 [3,4,0,1,2]
  clear h8
  go_upto_region 4 with (refine HD.out.mono ?_;rintro e w' ⟨rfl,rfl⟩)
  clear HD q
  go_wp2_with (first | (refine Z04 rfl 50 _ rfl gc _ _ rfl Tryz.isAgg50 _ Tryz.sizeOf50 h10.drop.blk rfl ?_) | (refine Z03 rfl 50 _ _ rfl gr _ _ (acD a) rfl rfl _ Tryz.sizeOf50 h10 rfl rfl rfl ?_;intro y9 h99))
  have HF:Hid (APostX w0 (fun _=>atA g c { x with loads:=1 }*(rdA gk ad o rv 1 a.got vl false*(memA m C*R))) a 5 (.returned (.tuple #[a.val,.int .i64 5])) y9):=hid ⟨(),rfl,h99.drop.drop⟩
  exact bodyPost_ret (Z06 Tryz.results87 _ rfl Tryz.isAgg50 _ Tryz.sizeOf50 h99.blk rfl) rfl HF.out
set_option maxHeartbeats 8000000 in
theorem Z5d (h:Hold w0 w (atA g c x*(rdA gk ad o rv 1 bf vl false*(memA m C*R)))) (hx:x.read=ptrV gk) (hl:x.loads=1) (hC:COk C) (ho:-9223372036854775808≤ad∧ad≤9223372036854775807) (ha:opA C 1 1 ad (valC C 1 ad) true=a) :
    Calls Tryz.prog 87 #[ptrV g,ptrV m] w (APostX (ι:=Unit) w0 (fun _=>atA g c { x with loads:=2 }*(rdA gk ad o rv 2 bf a.got false*(memA m C*R))) a 6):=by
  have HX:=hid hx
  have HS0:=hid (And.intro hC ha)
  have HL:=hid hl
  clear hx hC ha hl
  have H1:=hid (nb h)
  clear h
  go_enter Tryz.func87,Tryz.ntmps87
  go_upto_region 1 with fail
  have h1:=H1.out
  generalize hW:w.alloc _=W at h1 ⊢
  generalize w.heap.size=gr at h1 ⊢
  clear hW H1
  have h2:Hold w0 W (atA g c x*(rdA gk ad o rv 1 bf vl false*(memA m C*(blkA 50 gr (acD acc0)*R)))):=h1.pk4 [1,2,3,0]
  clear h1
  have hsq:∀ {w':World} {R':Asr},Hold w0 w' (atA g c x*R')→w'.cell? ⟨g,6,none⟩=some (ptrV gk)∧w'.cell? ⟨g,7,none⟩=some (.int .i64 1):=fun h=>by
    have q1:=h.Zmi
    have q2:=h.Zmj
    rw [HX.out] at q1
    rw [HL.out] at q2
    exact ⟨q1,q2⟩
  go_cut [6,7] (fun s6 s7 wx=>∃ gc,s6 = .pointer (some ⟨gc,0,none⟩)∧s7 = .int .i64 6∧Hold w0 wx (blkA 50 gc (acD a)*(atA g c x*(rdA gk ad o rv 2 bf a.got false*(memA m C*(blkA 50 gr (acD acc0)*R))))))
  case first =>
    replace h2:=h2.drew
    refine Z01 [] (by kernel_rfl) ?_
    generalize hW:W.drew=W1 at h2 ⊢
    clear hW
    refine Z05 (fun w'=>w'.cell? ⟨g,6,none⟩=some (ptrV gk)∧w'.cell? ⟨g,7,none⟩=some (.int .i64 1)) (fun _ _=>trivial) _ _ _ _ ?_
    refine' wbk [true,true,true,true,true,true,false,true,true,true,true,true,true] 123 (hsq h2) (fun wq hq=>?_) ?_;rotate_left
    · simp only [Z00]
      obtain ⟨q1,q2⟩:=hq
      repeat (go_big_quiet_step (fail))
      exact wpQuiet_nil rfl
    refine Z0n [false,false,false,false,false,false,true] [false,false,false,false,false,false,false,false,false,false,false,false,false,true] (fuel:=3) (by rfl) (by rfl) (by rfl) (by rfl) (by kernel_rfl) (fun QB hQB hQX=>?_) (fun QB hQB hQX=>?_)
    · simp only [Z00]
      first
        | have HS:=hid (Z6b w0 W3 _ gk m C ad o rv bf vl false a (h4.pk4 [2,3,1,0]) HS0.out.1 ho HS0.out.2)
        | have HS:=hid (Z6b w0 W1 _ gk m C ad o rv bf vl false a (h2.pk3 [1,2,0]) HS0.out.1 ho HS0.out.2)
      go_wp2_with fail
      refine HS.out.mono ?_
      rintro e w3 ⟨rfl,h3'⟩
      first
        | have h3:Hold w0 w3 (atA g c x*(blkA 50 gc (acD acc0)*(rdA gk ad o rv 2 bf a.got false*(memA m C*(blkA 50 gr (acD acc0)*R))))):=h3'.pk4 [2,3,0,1]
        | have h3:Hold w0 w3 (atA g c x*(rdA gk ad o rv 2 bf a.got false*(memA m C*(blkA 50 gr (acD acc0)*R)))):=h3'.pk3 [2,0,1]
      clear HS h3'
      first | clear h2 | skip
      go_wp2_with fail
      refine hQB.out _ _ (by first | exact hsq (h3.pk2 [1,0]) | exact hsq h3) ?_
      clear hQB hQX QB
      refine wbr [false,false,false,false,false,false,false,false,false,false,false,false,false,true] (fuel:=2) (fun QB hQB hQX=>?_)
      simp only [Z00]
      first
        | have H4:=hid (nb h3)
        | have H4:=hid (nb h2)
      go_wp2_with fail
      refine hQB.out _ _ (hsq H4.out.drop) ?_
      clear hQB hQX QB
      have h4:=H4.out
      clear H4
      first
        | (generalize hW:w3.alloc _=W3 at h4 ⊢;clear hW;generalize w3.heap.size=gc at h4 ⊢;clear h3)
        | (generalize hW:W1.alloc _=W3 at h4 ⊢;clear hW;generalize W1.heap.size=gc at h4 ⊢;clear h2)
      refine wbr [false,false,false,false,false,false,false,false,false,false,false,false,false,false,true] (fuel:=1) (fun QB hQB hQX=>?_)
      simp only [Z00]
      first
        | have hf:=h3.pk2 [1,0]
        | have hf:=h4
      obtain ⟨⟨x0,x1,x2,x3,x4,x5⟩,z0,z1,z2,z3,z4,z5⟩:=Z09 hf.blk
      have H6:=hid (hf.Zma (.int .i64 a.kind) (.int .i64 a.cell) (.int .i64 a.index) (.int .u64 a.got) (.int .u64 a.put) (.bool a.done))
      clear hf
      first | clear h3 | skip
      first | clear h4 | skip
      go_wp2_with fail
      refine hQB.out _ _ (hsq H6.out.drop) ?_
      clear hQB hQX QB x0 x1 x2 x3 x4 x5 z0 z1 z2 z3 z4 z5
      have h6:=H6.out
      generalize hW:World.setCell _ _ _=W6 at h6 ⊢
      clear hW H6
      refine' wbk [false,false,false,false,false,false,false,false,false,false,false,false,false,false,false,true] 123 (hsq h6.drop) (fun wq hq=>?_) ?_;rotate_left
      · simp only [Z00]
        repeat (go_big_quiet_step (fail))
        exact wpQuiet_nil rfl
      refine Z02 (by kernel_rfl) ?_ _
      go_wp2_with fail
      go_meet
      exact ⟨gc,rfl,rfl,h6⟩
    · simp only [Z00]
      first
        | have H4:=hid (nb h3)
        | have H4:=hid (nb h2)
      go_wp2_with fail
      refine hQB.out _ _ (hsq H4.out.drop) ?_
      clear hQB hQX QB
      have h4:=H4.out
      clear H4
      first
        | (generalize hW:w3.alloc _=W3 at h4 ⊢;clear hW;generalize w3.heap.size=gc at h4 ⊢;clear h3)
        | (generalize hW:W1.alloc _=W3 at h4 ⊢;clear hW;generalize W1.heap.size=gc at h4 ⊢;clear h2)
      refine wbr [false,false,false,false,false,false,true] (fuel:=2) (fun QB hQB hQX=>?_)
      simp only [Z00]
      first
        | have HS:=hid (Z6b w0 W3 _ gk m C ad o rv bf vl false a (h4.pk4 [2,3,1,0]) HS0.out.1 ho HS0.out.2)
        | have HS:=hid (Z6b w0 W1 _ gk m C ad o rv bf vl false a (h2.pk3 [1,2,0]) HS0.out.1 ho HS0.out.2)
      go_wp2_with fail
      refine HS.out.mono ?_
      rintro e w3 ⟨rfl,h3'⟩
      first
        | have h3:Hold w0 w3 (atA g c x*(blkA 50 gc (acD acc0)*(rdA gk ad o rv 2 bf a.got false*(memA m C*(blkA 50 gr (acD acc0)*R))))):=h3'.pk4 [2,3,0,1]
        | have h3:Hold w0 w3 (atA g c x*(rdA gk ad o rv 2 bf a.got false*(memA m C*(blkA 50 gr (acD acc0)*R)))):=h3'.pk3 [2,0,1]
      clear HS h3'
      first | clear h2 | skip
      go_wp2_with fail
      refine hQB.out _ _ (by first | exact hsq (h3.pk2 [1,0]) | exact hsq h3) ?_
      clear hQB hQX QB
      refine wbr [false,false,false,false,false,false,false,false,false,false,false,false,false,false,true] (fuel:=1) (fun QB hQB hQX=>?_)
      simp only [Z00]
      first
        | have hf:=h3.pk2 [1,0]
        | have hf:=h4
      obtain ⟨⟨x0,x1,x2,x3,x4,x5⟩,z0,z1,z2,z3,z4,z5⟩:=Z09 hf.blk
      have H6:=hid (hf.Zma (.int .i64 a.kind) (.int .i64 a.cell) (.int .i64 a.index) (.int .u64 a.got) (.int .u64 a.put) (.bool a.done))
      clear hf
      first | clear h3 | skip
      first | clear h4 | skip
      go_wp2_with fail
      refine hQB.out _ _ (hsq H6.out.drop) ?_
      clear hQB hQX QB x0 x1 x2 x3 x4 x5 z0 z1 z2 z3 z4 z5
      have h6:=H6.out
      generalize hW:World.setCell _ _ _=W6 at h6 ⊢
      clear hW H6
      refine' wbk [false,false,false,false,false,false,false,false,false,false,false,false,false,false,false,true] 123 (hsq h6.drop) (fun wq hq=>?_) ?_;rotate_left
      · simp only [Z00]
        repeat (go_big_quiet_step (fail))
        exact wpQuiet_nil rfl
      refine Z02 (by kernel_rfl) ?_ _
      go_wp2_with fail
      go_meet
      exact ⟨gc,rfl,rfl,h6⟩
  case rest =>
  clear h2 hsq
  rename World=>w7
  obtain ⟨gc,rfl,rfl,h6⟩:=hcut
  have h7:Hold w0 w7 (atA g c x*(rdA gk ad o rv 2 bf a.got false*(memA m C*(blkA 50 gr (acD acc0)*(blkA 50 gc (acD a)*R))))):=h6.pk5 [1,2,3,4,0]
  have p1:=h7.Zmj
  rw [HL.out] at p1
  have z1:=h7.atZ 7
  have H8:=hid (h7.Zmk 2)
  clear h6 h7
  go_upto_region 3 with fail
  have h8:=H8.out
  generalize hW:World.setCell _ _ _=W8 at h8 ⊢
  clear hW H8 p1 z1
  have q:=h8.Zmi
  rw [show ({ x with loads:=2 }:AtR).read=x.read from rfl,HX.out] at q
  have HD:=hid (Z35 w0 W8 _ gk ad o rv _ _ _ _ h8.swap)
  have h10:Hold w0 W8 (blkA 50 gr (acD acc0)*(blkA 50 gc (acD a)*(atA g c { x with loads:=2 }*(rdA gk ad o rv 2 bf a.got false*(memA m C*R))))):=h8.pk5 [3,4,0,1,2]
  clear h8
  go_upto_region 4 with (refine HD.out.mono ?_;rintro e w' ⟨rfl,rfl⟩)
  clear HD q
  go_wp2_with (first | (refine Z04 rfl 50 _ rfl gc _ _ rfl Tryz.isAgg50 _ Tryz.sizeOf50 h10.drop.blk rfl ?_) | (refine Z03 rfl 50 _ _ rfl gr _ _ (acD a) rfl rfl _ Tryz.sizeOf50 h10 rfl rfl rfl ?_;intro y9 h99))
  have HF:Hid (APostX w0 (fun _=>atA g c { x with loads:=2 }*(rdA gk ad o rv 2 bf a.got false*(memA m C*R))) a 6 (.returned (.tuple #[a.val,.int .i64 6])) y9):=hid ⟨(),rfl,h99.drop.drop⟩
  exact bodyPost_ret (Z06 Tryz.results87 _ rfl Tryz.isAgg50 _ Tryz.sizeOf50 h99.blk rfl) rfl HF.out
set_option maxHeartbeats 8000000 in
theorem Z65 (h:Hold w0 w (atA g c x*(rdA gk ad o rv 0 bf vl false*(memA m C*R)))) (hx:x.read=ptrV gk) (hl:x.loads=0) (hC:COk C) (ho:-9223372036854775808≤o∧o≤9223372036854775807) (ha:opA C 1 2 o (valC C 2 o) true=a) (hg:0≤a.got∧a.got < 18446744073709551616) (hb:a.got % 64 ≠ 0∨rv < a.got / 64) (hal:x.allocs = .slice none 0 0) (hpu:x.pushed=0) :
    Calls Tryz.prog 87 #[ptrV g,ptrV m] w (APostX (ι:=Unit) w0 (fun _=>atA g c { x with loads:=1,code:=9,at_:=14 }*(rdA gk ad o rv 3 a.got vl true*(memA m C*R))) a 5):=by
  have HX:=hid hx
  have HS0:=hid (And.intro hC ha)
  have HL:=hid hl
  have HA:=hid (And.intro hal hpu)
  clear hal hpu
  clear hx hC ha hl
  have H1:=hid (nb h)
  clear h
  go_enter Tryz.func87,Tryz.ntmps87
  go_upto_region 1 with fail
  have h1:=H1.out
  generalize hW:w.alloc _=W at h1 ⊢
  generalize w.heap.size=gr at h1 ⊢
  clear hW H1
  have h2:Hold w0 W (atA g c x*(rdA gk ad o rv 0 bf vl false*(memA m C*(blkA 50 gr (acD acc0)*R)))):=h1.pk4 [1,2,3,0]
  clear h1
  have hsq:∀ {w':World} {R':Asr},Hold w0 w' (atA g c x*R')→w'.cell? ⟨g,6,none⟩=some (ptrV gk)∧w'.cell? ⟨g,7,none⟩=some (.int .i64 0):=fun h=>by
    have q1:=h.Zmi
    have q2:=h.Zmj
    rw [HX.out] at q1
    rw [HL.out] at q2
    exact ⟨q1,q2⟩
  go_cut [6,7] (fun s6 s7 wx=>∃ gc,s6 = .pointer (some ⟨gc,0,none⟩)∧s7 = .int .i64 5∧Hold w0 wx (blkA 50 gc (acD a)*(atA g c x*(rdA gk ad o rv 3 a.got vl true*(memA m C*(blkA 50 gr (acD acc0)*R))))))
  case first =>
    replace h2:=h2.drew
    refine Z01 [] (by kernel_rfl) ?_
    generalize hW:W.drew=W1 at h2 ⊢
    clear hW
    refine Z05 (fun w'=>w'.cell? ⟨g,6,none⟩=some (ptrV gk)∧w'.cell? ⟨g,7,none⟩=some (.int .i64 0)) (fun _ _=>trivial) _ _ _ _ ?_
    refine' wbk [true,true,true,true,true,true,false,true,true,true,true,true,true] 123 (hsq h2) (fun wq hq=>?_) ?_;rotate_left
    · simp only [Z00]
      obtain ⟨q1,q2⟩:=hq
      repeat (go_big_quiet_step (fail))
      exact wpQuiet_nil rfl
    refine Z0n [false,false,false,false,false,false,true] [false,false,false,false,false,false,false,false,false,false,false,false,false,true] (fuel:=3) (by rfl) (by rfl) (by rfl) (by rfl) (by kernel_rfl) (fun QB hQB hQX=>?_) (fun QB hQB hQX=>?_)
    · simp only [Z00]
      first
        | have HS:=hid (Z2d w0 W3 _ gk m C ad o rv bf vl false a (h4.pk4 [2,3,1,0]) HS0.out.1 ho HS0.out.2 hg hb)
        | have HS:=hid (Z2d w0 W1 _ gk m C ad o rv bf vl false a (h2.pk3 [1,2,0]) HS0.out.1 ho HS0.out.2 hg hb)
      go_wp2_with fail
      refine HS.out.mono ?_
      rintro e w3 ⟨rfl,h3'⟩
      first
        | have h3:Hold w0 w3 (atA g c x*(blkA 50 gc (acD acc0)*(rdA gk ad o rv 3 a.got vl true*(memA m C*(blkA 50 gr (acD acc0)*R))))):=h3'.pk4 [2,3,0,1]
        | have h3:Hold w0 w3 (atA g c x*(rdA gk ad o rv 3 a.got vl true*(memA m C*(blkA 50 gr (acD acc0)*R)))):=h3'.pk3 [2,0,1]
      clear HS h3'
      first | clear h2 | skip
      go_wp2_with fail
      refine hQB.out _ _ (by first | exact hsq (h3.pk2 [1,0]) | exact hsq h3) ?_
      clear hQB hQX QB
      refine wbr [false,false,false,false,false,false,false,false,false,false,false,false,false,true] (fuel:=2) (fun QB hQB hQX=>?_)
      simp only [Z00]
      first
        | have H4:=hid (nb h3)
        | have H4:=hid (nb h2)
      go_wp2_with fail
      refine hQB.out _ _ (hsq H4.out.drop) ?_
      clear hQB hQX QB
      have h4:=H4.out
      clear H4
      first
        | (generalize hW:w3.alloc _=W3 at h4 ⊢;clear hW;generalize w3.heap.size=gc at h4 ⊢;clear h3)
        | (generalize hW:W1.alloc _=W3 at h4 ⊢;clear hW;generalize W1.heap.size=gc at h4 ⊢;clear h2)
      refine wbr [false,false,false,false,false,false,false,false,false,false,false,false,false,false,true] (fuel:=1) (fun QB hQB hQX=>?_)
      simp only [Z00]
      first
        | have hf:=h3.pk2 [1,0]
        | have hf:=h4
      obtain ⟨⟨x0,x1,x2,x3,x4,x5⟩,z0,z1,z2,z3,z4,z5⟩:=Z09 hf.blk
      have H6:=hid (hf.Zma (.int .i64 a.kind) (.int .i64 a.cell) (.int .i64 a.index) (.int .u64 a.got) (.int .u64 a.put) (.bool a.done))
      clear hf
      first | clear h3 | skip
      first | clear h4 | skip
      go_wp2_with fail
      refine hQB.out _ _ (hsq H6.out.drop) ?_
      clear hQB hQX QB x0 x1 x2 x3 x4 x5 z0 z1 z2 z3 z4 z5
      have h6:=H6.out
      generalize hW:World.setCell _ _ _=W6 at h6 ⊢
      clear hW H6
      refine' wbk [false,false,false,false,false,false,false,false,false,false,false,false,false,false,false,true] 123 (hsq h6.drop) (fun wq hq=>?_) ?_;rotate_left
      · simp only [Z00]
        repeat (go_big_quiet_step (fail))
        exact wpQuiet_nil rfl
      refine Z02 (by kernel_rfl) ?_ _
      go_wp2_with fail
      go_meet
      exact ⟨gc,rfl,rfl,h6⟩
    · simp only [Z00]
      first
        | have H4:=hid (nb h3)
        | have H4:=hid (nb h2)
      go_wp2_with fail
      refine hQB.out _ _ (hsq H4.out.drop) ?_
      clear hQB hQX QB
      have h4:=H4.out
      clear H4
      first
        | (generalize hW:w3.alloc _=W3 at h4 ⊢;clear hW;generalize w3.heap.size=gc at h4 ⊢;clear h3)
        | (generalize hW:W1.alloc _=W3 at h4 ⊢;clear hW;generalize W1.heap.size=gc at h4 ⊢;clear h2)
      refine wbr [false,false,false,false,false,false,true] (fuel:=2) (fun QB hQB hQX=>?_)
      simp only [Z00]
      first
        | have HS:=hid (Z2d w0 W3 _ gk m C ad o rv bf vl false a (h4.pk4 [2,3,1,0]) HS0.out.1 ho HS0.out.2 hg hb)
        | have HS:=hid (Z2d w0 W1 _ gk m C ad o rv bf vl false a (h2.pk3 [1,2,0]) HS0.out.1 ho HS0.out.2 hg hb)
      go_wp2_with fail
      refine HS.out.mono ?_
      rintro e w3 ⟨rfl,h3'⟩
      first
        | have h3:Hold w0 w3 (atA g c x*(blkA 50 gc (acD acc0)*(rdA gk ad o rv 3 a.got vl true*(memA m C*(blkA 50 gr (acD acc0)*R))))):=h3'.pk4 [2,3,0,1]
        | have h3:Hold w0 w3 (atA g c x*(rdA gk ad o rv 3 a.got vl true*(memA m C*(blkA 50 gr (acD acc0)*R)))):=h3'.pk3 [2,0,1]
      clear HS h3'
      first | clear h2 | skip
      go_wp2_with fail
      refine hQB.out _ _ (by first | exact hsq (h3.pk2 [1,0]) | exact hsq h3) ?_
      clear hQB hQX QB
      refine wbr [false,false,false,false,false,false,false,false,false,false,false,false,false,false,true] (fuel:=1) (fun QB hQB hQX=>?_)
      simp only [Z00]
      first
        | have hf:=h3.pk2 [1,0]
        | have hf:=h4
      obtain ⟨⟨x0,x1,x2,x3,x4,x5⟩,z0,z1,z2,z3,z4,z5⟩:=Z09 hf.blk
      have H6:=hid (hf.Zma (.int .i64 a.kind) (.int .i64 a.cell) (.int .i64 a.index) (.int .u64 a.got) (.int .u64 a.put) (.bool a.done))
      clear hf
      first | clear h3 | skip
      first | clear h4 | skip
      go_wp2_with fail
      refine hQB.out _ _ (hsq H6.out.drop) ?_
      clear hQB hQX QB x0 x1 x2 x3 x4 x5 z0 z1 z2 z3 z4 z5
      have h6:=H6.out
      generalize hW:World.setCell _ _ _=W6 at h6 ⊢
      clear hW H6
      refine' wbk [false,false,false,false,false,false,false,false,false,false,false,false,false,false,false,true] 123 (hsq h6.drop) (fun wq hq=>?_) ?_;rotate_left
      · simp only [Z00]
        repeat (go_big_quiet_step (fail))
        exact wpQuiet_nil rfl
      refine Z02 (by kernel_rfl) ?_ _
      go_wp2_with fail
      go_meet
      exact ⟨gc,rfl,rfl,h6⟩
  case rest =>
  clear h2 hsq
  rename World=>w7
  obtain ⟨gc,rfl,rfl,h6⟩:=hcut
  have h7:Hold w0 w7 (atA g c x*(rdA gk ad o rv 3 a.got vl true*(memA m C*(blkA 50 gr (acD acc0)*(blkA 50 gc (acD a)*R))))):=h6.pk5 [1,2,3,4,0]
  have p1:=h7.Zmj
  rw [HL.out] at p1
  have z1:=h7.atZ 7
  have H8:=hid (h7.Zmk 1)
  clear h6 h7
  go_upto_region 3 with fail
  have h8:=H8.out
  generalize hW:World.setCell _ _ _=W8 at h8 ⊢
  clear hW H8 p1 z1
  have q:=h8.Zmi
  rw [show ({ x with loads:=1 }:AtR).read=x.read from rfl,HX.out] at q
  have HD:=hid (Z35 w0 W8 _ gk ad o rv _ _ _ _ h8.swap)
  have HCF:=hid (Z36 w0 W8 _ gk ad o rv _ _ _ _ h8.swap)
  have HU:=hid (Zfc 9 h8 HA.out.1 HA.out.2)
  clear h8
  go_upto_region 6 with (first | (refine HD.out.mono ?_;rintro e w' ⟨rfl,rfl⟩) | (refine HCF.out.mono ?_;rintro e w' ⟨rfl,rfl⟩))
  clear HD HCF q
  go_upto_region 7 with (refine HU.out.mono ?_;rintro e w9 ⟨rfl,h9⟩)
  clear HU
  have h10:Hold w0 w9 (blkA 50 gr (acD acc0)*(blkA 50 gc (acD a)*(atA g c { x with loads:=1,code:=9,at_:=14 }*(rdA gk ad o rv 3 a.got vl true*(memA m C*R))))):=h9.pk5 [3,4,0,1,2]
  clear h9
  go_wp2_with (first | (refine Z04 rfl 50 _ rfl gc _ _ rfl Tryz.isAgg50 _ Tryz.sizeOf50 h10.drop.blk rfl ?_) | (refine Z03 rfl 50 _ _ rfl gr _ _ (acD a) rfl rfl _ Tryz.sizeOf50 h10 rfl rfl rfl ?_;intro y9 h99))
  have HF:Hid (APostX w0 (fun _=>atA g c { x with loads:=1,code:=9,at_:=14 }*(rdA gk ad o rv 3 a.got vl true*(memA m C*R))) a 5 (.returned (.tuple #[a.val,.int .i64 5])) y9):=hid ⟨(),rfl,h99.drop.drop⟩
  exact bodyPost_ret (Z06 Tryz.results87 _ rfl Tryz.isAgg50 _ Tryz.sizeOf50 h99.blk rfl) rfl HF.out
set_option maxHeartbeats 8000000 in
theorem Z64 (h:Hold w0 w (atA g c x*(rdA gk ad o rv 2 bf vl false*(memA m C*R)))) (hx:x.read=ptrV gk) (hl:x.loads=2) (hC:COk C) (ho:-9223372036854775808≤o∧o≤9223372036854775807) (ha:opA C 1 2 o (valC C 2 o) true=a) (hb:a.got ≠ bf) (hal:x.allocs = .slice none 0 0) (hpu:x.pushed=0) :
    Calls Tryz.prog 87 #[ptrV g,ptrV m] w (APostX (ι:=Unit) w0 (fun _=>atA g c { x with loads:=3,code:=9,at_:=14 }*(rdA gk ad o rv 3 bf vl true*(memA m C*R))) a 7):=by
  have HX:=hid hx
  have HS0:=hid (And.intro hC ha)
  have HL:=hid hl
  have HA:=hid (And.intro hal hpu)
  clear hal hpu
  have HE:Hid ((a.got != bf)=true):=hid (bne_iff_ne.2 hb)
  clear hb
  clear hx hC ha hl
  have H1:=hid (nb h)
  clear h
  go_enter Tryz.func87,Tryz.ntmps87
  go_upto_region 1 with fail
  have h1:=H1.out
  generalize hW:w.alloc _=W at h1 ⊢
  generalize w.heap.size=gr at h1 ⊢
  clear hW H1
  have h2:Hold w0 W (atA g c x*(rdA gk ad o rv 2 bf vl false*(memA m C*(blkA 50 gr (acD acc0)*R)))):=h1.pk4 [1,2,3,0]
  clear h1
  have hsq:∀ {w':World} {R':Asr},Hold w0 w' (atA g c x*R')→w'.cell? ⟨g,6,none⟩=some (ptrV gk)∧w'.cell? ⟨g,7,none⟩=some (.int .i64 2):=fun h=>by
    have q1:=h.Zmi
    have q2:=h.Zmj
    rw [HX.out] at q1
    rw [HL.out] at q2
    exact ⟨q1,q2⟩
  go_cut [6,7] (fun s6 s7 wx=>∃ gc,s6 = .pointer (some ⟨gc,0,none⟩)∧s7 = .int .i64 7∧Hold w0 wx (blkA 50 gc (acD a)*(atA g c x*(rdA gk ad o rv 3 bf vl true*(memA m C*(blkA 50 gr (acD acc0)*R))))))
  case first =>
    replace h2:=h2.drew
    refine Z01 [] (by kernel_rfl) ?_
    generalize hW:W.drew=W1 at h2 ⊢
    clear hW
    refine Z05 (fun w'=>w'.cell? ⟨g,6,none⟩=some (ptrV gk)∧w'.cell? ⟨g,7,none⟩=some (.int .i64 2)) (fun _ _=>trivial) _ _ _ _ ?_
    refine' wbk [true,true,true,true,true,true,false,true,true,true,true,true,true] 123 (hsq h2) (fun wq hq=>?_) ?_;rotate_left
    · simp only [Z00]
      obtain ⟨q1,q2⟩:=hq
      repeat (go_big_quiet_step (fail))
      exact wpQuiet_nil rfl
    refine Z0n [false,false,false,false,false,false,true] [false,false,false,false,false,false,false,false,false,false,false,false,false,true] (fuel:=3) (by rfl) (by rfl) (by rfl) (by rfl) (by kernel_rfl) (fun QB hQB hQX=>?_) (fun QB hQB hQX=>?_)
    · simp only [Z00]
      first
        | have HS:=hid (Z1e w0 W3 _ gk m C ad o rv bf vl false a (h4.pk4 [2,3,1,0]) HS0.out.1 ho HS0.out.2)
        | have HS:=hid (Z1e w0 W1 _ gk m C ad o rv bf vl false a (h2.pk3 [1,2,0]) HS0.out.1 ho HS0.out.2)
      go_wp2_with fail
      refine HS.out.mono ?_
      rintro e w3 ⟨rfl,h3'⟩
      rw [HE.out] at h3'
      first
        | have h3:Hold w0 w3 (atA g c x*(blkA 50 gc (acD acc0)*(rdA gk ad o rv 3 bf vl true*(memA m C*(blkA 50 gr (acD acc0)*R))))):=h3'.pk4 [2,3,0,1]
        | have h3:Hold w0 w3 (atA g c x*(rdA gk ad o rv 3 bf vl true*(memA m C*(blkA 50 gr (acD acc0)*R)))):=h3'.pk3 [2,0,1]
      clear HS h3'
      first | clear h2 | skip
      go_wp2_with fail
      refine hQB.out _ _ (by first | exact hsq (h3.pk2 [1,0]) | exact hsq h3) ?_
      clear hQB hQX QB
      refine wbr [false,false,false,false,false,false,false,false,false,false,false,false,false,true] (fuel:=2) (fun QB hQB hQX=>?_)
      simp only [Z00]
      first
        | have H4:=hid (nb h3)
        | have H4:=hid (nb h2)
      go_wp2_with fail
      refine hQB.out _ _ (hsq H4.out.drop) ?_
      clear hQB hQX QB
      have h4:=H4.out
      clear H4
      first
        | (generalize hW:w3.alloc _=W3 at h4 ⊢;clear hW;generalize w3.heap.size=gc at h4 ⊢;clear h3)
        | (generalize hW:W1.alloc _=W3 at h4 ⊢;clear hW;generalize W1.heap.size=gc at h4 ⊢;clear h2)
      refine wbr [false,false,false,false,false,false,false,false,false,false,false,false,false,false,true] (fuel:=1) (fun QB hQB hQX=>?_)
      simp only [Z00]
      first
        | have hf:=h3.pk2 [1,0]
        | have hf:=h4
      obtain ⟨⟨x0,x1,x2,x3,x4,x5⟩,z0,z1,z2,z3,z4,z5⟩:=Z09 hf.blk
      have H6:=hid (hf.Zma (.int .i64 a.kind) (.int .i64 a.cell) (.int .i64 a.index) (.int .u64 a.got) (.int .u64 a.put) (.bool a.done))
      clear hf
      first | clear h3 | skip
      first | clear h4 | skip
      go_wp2_with fail
      refine hQB.out _ _ (hsq H6.out.drop) ?_
      clear hQB hQX QB x0 x1 x2 x3 x4 x5 z0 z1 z2 z3 z4 z5
      have h6:=H6.out
      generalize hW:World.setCell _ _ _=W6 at h6 ⊢
      clear hW H6
      refine' wbk [false,false,false,false,false,false,false,false,false,false,false,false,false,false,false,true] 123 (hsq h6.drop) (fun wq hq=>?_) ?_;rotate_left
      · simp only [Z00]
        repeat (go_big_quiet_step (fail))
        exact wpQuiet_nil rfl
      refine Z02 (by kernel_rfl) ?_ _
      go_wp2_with fail
      go_meet
      exact ⟨gc,rfl,rfl,h6⟩
    · simp only [Z00]
      first
        | have H4:=hid (nb h3)
        | have H4:=hid (nb h2)
      go_wp2_with fail
      refine hQB.out _ _ (hsq H4.out.drop) ?_
      clear hQB hQX QB
      have h4:=H4.out
      clear H4
      first
        | (generalize hW:w3.alloc _=W3 at h4 ⊢;clear hW;generalize w3.heap.size=gc at h4 ⊢;clear h3)
        | (generalize hW:W1.alloc _=W3 at h4 ⊢;clear hW;generalize W1.heap.size=gc at h4 ⊢;clear h2)
      refine wbr [false,false,false,false,false,false,true] (fuel:=2) (fun QB hQB hQX=>?_)
      simp only [Z00]
      first
        | have HS:=hid (Z1e w0 W3 _ gk m C ad o rv bf vl false a (h4.pk4 [2,3,1,0]) HS0.out.1 ho HS0.out.2)
        | have HS:=hid (Z1e w0 W1 _ gk m C ad o rv bf vl false a (h2.pk3 [1,2,0]) HS0.out.1 ho HS0.out.2)
      go_wp2_with fail
      refine HS.out.mono ?_
      rintro e w3 ⟨rfl,h3'⟩
      rw [HE.out] at h3'
      first
        | have h3:Hold w0 w3 (atA g c x*(blkA 50 gc (acD acc0)*(rdA gk ad o rv 3 bf vl true*(memA m C*(blkA 50 gr (acD acc0)*R))))):=h3'.pk4 [2,3,0,1]
        | have h3:Hold w0 w3 (atA g c x*(rdA gk ad o rv 3 bf vl true*(memA m C*(blkA 50 gr (acD acc0)*R)))):=h3'.pk3 [2,0,1]
      clear HS h3'
      first | clear h2 | skip
      go_wp2_with fail
      refine hQB.out _ _ (by first | exact hsq (h3.pk2 [1,0]) | exact hsq h3) ?_
      clear hQB hQX QB
      refine wbr [false,false,false,false,false,false,false,false,false,false,false,false,false,false,true] (fuel:=1) (fun QB hQB hQX=>?_)
      simp only [Z00]
      first
        | have hf:=h3.pk2 [1,0]
        | have hf:=h4
      obtain ⟨⟨x0,x1,x2,x3,x4,x5⟩,z0,z1,z2,z3,z4,z5⟩:=Z09 hf.blk
      have H6:=hid (hf.Zma (.int .i64 a.kind) (.int .i64 a.cell) (.int .i64 a.index) (.int .u64 a.got) (.int .u64 a.put) (.bool a.done))
      clear hf
      first | clear h3 | skip
      first | clear h4 | skip
      go_wp2_with fail
      refine hQB.out _ _ (hsq H6.out.drop) ?_
      clear hQB hQX QB x0 x1 x2 x3 x4 x5 z0 z1 z2 z3 z4 z5
      have h6:=H6.out
      generalize hW:World.setCell _ _ _=W6 at h6 ⊢
      clear hW H6
      refine' wbk [false,false,false,false,false,false,false,false,false,false,false,false,false,false,false,true] 123 (hsq h6.drop) (fun wq hq=>?_) ?_;rotate_left
      · simp only [Z00]
        repeat (go_big_quiet_step (fail))
        exact wpQuiet_nil rfl
      refine Z02 (by kernel_rfl) ?_ _
      go_wp2_with fail
      go_meet
      exact ⟨gc,rfl,rfl,h6⟩
  case rest =>
  clear h2 hsq
  rename World=>w7
  obtain ⟨gc,rfl,rfl,h6⟩:=hcut
  have h7:Hold w0 w7 (atA g c x*(rdA gk ad o rv 3 bf vl true*(memA m C*(blkA 50 gr (acD acc0)*(blkA 50 gc (acD a)*R))))):=h6.pk5 [1,2,3,4,0]
  have p1:=h7.Zmj
  rw [HL.out] at p1
  have z1:=h7.atZ 7
  have H8:=hid (h7.Zmk 3)
  clear h6 h7
  go_upto_region 3 with fail
  have h8:=H8.out
  generalize hW:World.setCell _ _ _=W8 at h8 ⊢
  clear hW H8 p1 z1
  have q:=h8.Zmi
  rw [show ({ x with loads:=3 }:AtR).read=x.read from rfl,HX.out] at q
  have HD:=hid (Z35 w0 W8 _ gk ad o rv _ _ _ _ h8.swap)
  have HCF:=hid (Z36 w0 W8 _ gk ad o rv _ _ _ _ h8.swap)
  have HU:=hid (Zfc 9 h8 HA.out.1 HA.out.2)
  clear h8
  go_upto_region 6 with (first | (refine HD.out.mono ?_;rintro e w' ⟨rfl,rfl⟩) | (refine HCF.out.mono ?_;rintro e w' ⟨rfl,rfl⟩))
  clear HD HCF q
  go_upto_region 7 with (refine HU.out.mono ?_;rintro e w9 ⟨rfl,h9⟩)
  clear HU
  have h10:Hold w0 w9 (blkA 50 gr (acD acc0)*(blkA 50 gc (acD a)*(atA g c { x with loads:=3,code:=9,at_:=14 }*(rdA gk ad o rv 3 bf vl true*(memA m C*R))))):=h9.pk5 [3,4,0,1,2]
  clear h9
  go_wp2_with (first | (refine Z04 rfl 50 _ rfl gc _ _ rfl Tryz.isAgg50 _ Tryz.sizeOf50 h10.drop.blk rfl ?_) | (refine Z03 rfl 50 _ _ rfl gr _ _ (acD a) rfl rfl _ Tryz.sizeOf50 h10 rfl rfl rfl ?_;intro y9 h99))
  have HF:Hid (APostX w0 (fun _=>atA g c { x with loads:=3,code:=9,at_:=14 }*(rdA gk ad o rv 3 bf vl true*(memA m C*R))) a 7 (.returned (.tuple #[a.val,.int .i64 7])) y9):=hid ⟨(),rfl,h99.drop.drop⟩
  exact bodyPost_ret (Z06 Tryz.results87 _ rfl Tryz.isAgg50 _ Tryz.sizeOf50 h99.blk rfl) rfl HF.out
end
end Go.Proofs.YtmlfangeanmmeaaGreatDoor
