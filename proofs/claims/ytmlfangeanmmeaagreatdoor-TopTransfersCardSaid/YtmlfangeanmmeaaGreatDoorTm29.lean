/-
  What the proof of TopTransfers leans on, part 29 of 48: At14. No statement of its own.
-/
import Derived.Test.YtmlfangeanmmeaaGreatDoorTm28
namespace Go.Proofs.YtmlfangeanmmeaaGreatDoor
set_option maxRecDepth 8000
open Go.RowKit
set_option linter.unusedVariables false
section
variable {w0 w:World} {R R':Asr} {g m gl gk gc2 gst gb:Nat} {c:Cfg} {x:AtR} {L:PL} {C C2:Nat→List Int} {a:Acc} {th z v rv V ad o bf vl:Int} {zs vs os old sn xs:List Int} {cap n cp:Nat} {A1:Option Addr}
set_option maxHeartbeats 8000000 in
theorem Z70 (h:Hold w0 w (atA g c x*(rdA gk ad o rv 2 bf vl false*(memA m C*(queA 3 (.slice A1 n cp) (iL sn)*(stA gst cap xs*(blkA 108 gb #[ptrV g]*R))))))) (hx:x.read=ptrV gk) (hl:x.loads=2) (hC:COk C) (ho:-9223372036854775808≤o∧o≤9223372036854775807) (ha:opA C 1 2 o (valC C 2 o) true=a) (hb:a.got=bf) (hsn:x.seen = .slice A1 n cp) (hst:x.set=gst) (hu:x.use_=Z1z gb) (had:x.addr=ad) (ha0:0≤ad) (ha1:ad < c.words) (hc:Z0p c=0) (hor:ad % c.orecs=o) (hadd:Z53 cap xs o=true) (hxl:xs.length≤cap) (hcap:cap≤1000000) (hn:n≤1000) (hm:ad ∈ sn) :
    Calls Tryz.prog 87 #[ptrV g,ptrV m] w (APostX (ι:=Unit) w0 (fun _=>atA g c { x with loads:=3,at_:=0,value:=vl }*(rdA gk ad o rv 3 bf vl false*(memA m C*(queA 3 (.slice A1 n cp) (iL sn)*(stA gst cap (addL cap xs o)*(blkA 108 gb #[ptrV g]*R)))))) a 7):=by
  have HX:=hid hx
  have HS0:=hid (And.intro hC ha)
  have HL:=hid hl
  have HE:Hid ((a.got != bf)=false):=hid (by rw [hb];exact bne_self_eq_false _)
  have HY:=hid (And.intro hsn (And.intro hst (And.intro hu (And.intro had (And.intro hc hor)))))
  have HK:=hid (And.intro hadd (And.intro hxl (And.intro hcap hm)))
  have HAW:=hid ha1
  clear hx hC ha hl hb hsn hst hu had hc hor hadd hxl hcap hm
  have H1:=hid (nb h)
  clear h
  go_enter Tryz.func87,Tryz.ntmps87
  go_upto_region 1 with fail
  have h1:=H1.out
  generalize hW:w.alloc _=W at h1 ⊢
  generalize w.heap.size=gr at h1 ⊢
  clear hW H1
  have h2:Hold w0 W (atA g c x*(rdA gk ad o rv 2 bf vl false*(memA m C*(blkA 50 gr (acD acc0)*(queA 3 (.slice A1 n cp) (iL sn)*(stA gst cap xs*(blkA 108 gb #[ptrV g]*R))))))):=h1.pk4 [1,2,3,0]
  clear h1
  have hsq:∀ {w':World} {R':Asr},Hold w0 w' (atA g c x*R')→w'.cell? ⟨g,6,none⟩=some (ptrV gk)∧w'.cell? ⟨g,7,none⟩=some (.int .i64 2):=fun h=>by
    have q1:=h.Zmi
    have q2:=h.Zmj
    rw [HX.out] at q1
    rw [HL.out] at q2
    exact ⟨q1,q2⟩
  go_cut [6,7] (fun s6 s7 wx=>∃ gc,s6 = .pointer (some ⟨gc,0,none⟩)∧s7 = .int .i64 7∧Hold w0 wx (blkA 50 gc (acD a)*(atA g c x*(rdA gk ad o rv 3 bf vl false*(memA m C*(blkA 50 gr (acD acc0)*(queA 3 (.slice A1 n cp) (iL sn)*(stA gst cap xs*(blkA 108 gb #[ptrV g]*R)))))))))
  case first =>
    replace h2:=h2.drew
    refine Z01 [] (by kernel_rfl) ?_
    generalize hW:W.drew=W1 at h2 ⊢
    clear hW
    refine Z05 (fun w'=>w'.cell? ⟨g,6,none⟩=some (ptrV gk)∧w'.cell? ⟨g,7,none⟩=some (.int .i64 2)) (fun _ _=>trivial) _ _ _ _ ?_
    refine' wbk [true,true,true,true,true,true,false,true,true,true,true,true,true] 123 (hsq h2) (fun wq hq=>?_) ?_;rotate_left
    · simp only [Z00]
      obtain ⟨q1,q2⟩:=hq
      repeat (go_big_quiet_step (fail))
      exact wpQuiet_nil rfl
    refine Z0n [false,false,false,false,false,false,true] [false,false,false,false,false,false,false,false,false,false,false,false,false,true] (fuel:=3) (by rfl) (by rfl) (by rfl) (by rfl) (by kernel_rfl) (fun QB hQB hQX=>?_) (fun QB hQB hQX=>?_)
    · simp only [Z00]
      first
        | have HS:=hid (Z1e w0 W3 _ gk m C ad o rv bf vl false a (h4.pk4 [2,3,1,0]) HS0.out.1 ho HS0.out.2)
        | have HS:=hid (Z1e w0 W1 _ gk m C ad o rv bf vl false a (h2.pk3 [1,2,0]) HS0.out.1 ho HS0.out.2)
      go_wp2_with fail
      refine HS.out.mono ?_
      rintro e w3 ⟨rfl,h3'⟩
      rw [HE.out] at h3'
      first
        | have h3:Hold w0 w3 (atA g c x*(blkA 50 gc (acD acc0)*(rdA gk ad o rv 3 bf vl false*(memA m C*(blkA 50 gr (acD acc0)*(queA 3 (.slice A1 n cp) (iL sn)*(stA gst cap xs*(blkA 108 gb #[ptrV g]*R)))))))):=h3'.pk4 [2,3,0,1]
        | have h3:Hold w0 w3 (atA g c x*(rdA gk ad o rv 3 bf vl false*(memA m C*(blkA 50 gr (acD acc0)*(queA 3 (.slice A1 n cp) (iL sn)*(stA gst cap xs*(blkA 108 gb #[ptrV g]*R))))))):=h3'.pk3 [2,0,1]
      clear HS h3'
      first | clear h2 | skip
      go_wp2_with fail
      refine hQB.out _ _ (by first | exact hsq (h3.pk2 [1,0]) | exact hsq h3) ?_
      clear hQB hQX QB
      refine wbr [false,false,false,false,false,false,false,false,false,false,false,false,false,true] (fuel:=2) (fun QB hQB hQX=>?_)
      simp only [Z00]
      first
        | have H4:=hid (nb h3)
        | have H4:=hid (nb h2)
      go_wp2_with fail
      refine hQB.out _ _ (hsq H4.out.drop) ?_
      clear hQB hQX QB
      have h4:=H4.out
      clear H4
      first
        | (generalize hW:w3.alloc _=W3 at h4 ⊢;clear hW;generalize w3.heap.size=gc at h4 ⊢;clear h3)
        | (generalize hW:W1.alloc _=W3 at h4 ⊢;clear hW;generalize W1.heap.size=gc at h4 ⊢;clear h2)
      refine wbr [false,false,false,false,false,false,false,false,false,false,false,false,false,false,true] (fuel:=1) (fun QB hQB hQX=>?_)
      simp only [Z00]
      first
        | have hf:=h3.pk2 [1,0]
        | have hf:=h4
      obtain ⟨⟨x0,x1,x2,x3,x4,x5⟩,z0,z1,z2,z3,z4,z5⟩:=Z09 hf.blk
      have H6:=hid (hf.Zma (.int .i64 a.kind) (.int .i64 a.cell) (.int .i64 a.index) (.int .u64 a.got) (.int .u64 a.put) (.bool a.done))
      clear hf
      first | clear h3 | skip
      first | clear h4 | skip
      go_wp2_with fail
      refine hQB.out _ _ (hsq H6.out.drop) ?_
      clear hQB hQX QB x0 x1 x2 x3 x4 x5 z0 z1 z2 z3 z4 z5
      have h6:=H6.out
      generalize hW:World.setCell _ _ _=W6 at h6 ⊢
      clear hW H6
      refine' wbk [false,false,false,false,false,false,false,false,false,false,false,false,false,false,false,true] 123 (hsq h6.drop) (fun wq hq=>?_) ?_;rotate_left
      · simp only [Z00]
        repeat (go_big_quiet_step (fail))
        exact wpQuiet_nil rfl
      refine Z02 (by kernel_rfl) ?_ _
      go_wp2_with fail
      go_meet
      exact ⟨gc,rfl,rfl,h6⟩
    · simp only [Z00]
      first
        | have H4:=hid (nb h3)
        | have H4:=hid (nb h2)
      go_wp2_with fail
      refine hQB.out _ _ (hsq H4.out.drop) ?_
      clear hQB hQX QB
      have h4:=H4.out
      clear H4
      first
        | (generalize hW:w3.alloc _=W3 at h4 ⊢;clear hW;generalize w3.heap.size=gc at h4 ⊢;clear h3)
        | (generalize hW:W1.alloc _=W3 at h4 ⊢;clear hW;generalize W1.heap.size=gc at h4 ⊢;clear h2)
      refine wbr [false,false,false,false,false,false,true] (fuel:=2) (fun QB hQB hQX=>?_)
      simp only [Z00]
      first
        | have HS:=hid (Z1e w0 W3 _ gk m C ad o rv bf vl false a (h4.pk4 [2,3,1,0]) HS0.out.1 ho HS0.out.2)
        | have HS:=hid (Z1e w0 W1 _ gk m C ad o rv bf vl false a (h2.pk3 [1,2,0]) HS0.out.1 ho HS0.out.2)
      go_wp2_with fail
      refine HS.out.mono ?_
      rintro e w3 ⟨rfl,h3'⟩
      rw [HE.out] at h3'
      first
        | have h3:Hold w0 w3 (atA g c x*(blkA 50 gc (acD acc0)*(rdA gk ad o rv 3 bf vl false*(memA m C*(blkA 50 gr (acD acc0)*(queA 3 (.slice A1 n cp) (iL sn)*(stA gst cap xs*(blkA 108 gb #[ptrV g]*R)))))))):=h3'.pk4 [2,3,0,1]
        | have h3:Hold w0 w3 (atA g c x*(rdA gk ad o rv 3 bf vl false*(memA m C*(blkA 50 gr (acD acc0)*(queA 3 (.slice A1 n cp) (iL sn)*(stA gst cap xs*(blkA 108 gb #[ptrV g]*R))))))):=h3'.pk3 [2,0,1]
      clear HS h3'
      first | clear h2 | skip
      go_wp2_with fail
      refine hQB.out _ _ (by first | exact hsq (h3.pk2 [1,0]) | exact hsq h3) ?_
      clear hQB hQX QB
      refine wbr [false,false,false,false,false,false,false,false,false,false,false,false,false,false,true] (fuel:=1) (fun QB hQB hQX=>?_)
      simp only [Z00]
      first
        | have hf:=h3.pk2 [1,0]
        | have hf:=h4
      obtain ⟨⟨x0,x1,x2,x3,x4,x5⟩,z0,z1,z2,z3,z4,z5⟩:=Z09 hf.blk
      have H6:=hid (hf.Zma (.int .i64 a.kind) (.int .i64 a.cell) (.int .i64 a.index) (.int .u64 a.got) (.int .u64 a.put) (.bool a.done))
      clear hf
      first | clear h3 | skip
      first | clear h4 | skip
      go_wp2_with fail
      refine hQB.out _ _ (hsq H6.out.drop) ?_
      clear hQB hQX QB x0 x1 x2 x3 x4 x5 z0 z1 z2 z3 z4 z5
      have h6:=H6.out
      generalize hW:World.setCell _ _ _=W6 at h6 ⊢
      clear hW H6
      refine' wbk [false,false,false,false,false,false,false,false,false,false,false,false,false,false,false,true] 123 (hsq h6.drop) (fun wq hq=>?_) ?_;rotate_left
      · simp only [Z00]
        repeat (go_big_quiet_step (fail))
        exact wpQuiet_nil rfl
      refine Z02 (by kernel_rfl) ?_ _
      go_wp2_with fail
      go_meet
      exact ⟨gc,rfl,rfl,h6⟩
  case rest =>
  clear h2 hsq
  rename World=>w7
  obtain ⟨gc,rfl,rfl,h6⟩:=hcut
  have h7:Hold w0 w7 (atA g c x*(rdA gk ad o rv 3 bf vl false*(memA m C*(blkA 50 gr (acD acc0)*(blkA 50 gc (acD a)*(queA 3 (.slice A1 n cp) (iL sn)*(stA gst cap xs*(blkA 108 gb #[ptrV g]*R)))))))):=h6.pk5 [1,2,3,4,0]
  have p1:=h7.Zmj
  rw [HL.out] at p1
  have z1:=h7.atZ 7
  have H8:=hid (h7.Zmk 3)
  clear h6 h7
  go_upto_region 3 with fail
  have h8:=H8.out
  generalize hW:World.setCell _ _ _=W8 at h8 ⊢
  clear hW H8 p1 z1
  have q:=h8.Zmi
  rw [show ({ x with loads:=3 }:AtR).read=x.read from rfl,HX.out] at q
  have HD:=hid (Z35 w0 W8 _ gk ad o rv _ _ _ _ h8.swap)
  have HCF:=hid (Z36 w0 W8 _ gk ad o rv _ _ _ _ h8.swap)
  go_upto_region 8 with (first | (refine HD.out.mono ?_;rintro e w' ⟨rfl,rfl⟩) | (refine HCF.out.mono ?_;rintro e w' ⟨rfl,rfl⟩))
  clear HD HCF q
  replace h8:=(h8.pk7 [0,5,6,1,2,3,4]).drew
  have e1:decide (ad < c.words)=true:=decide_eq_true HAW.out
  refine Z01 [] (by kernel_rfl) ?_
  generalize hW:W8.drew=W9 at h8 ⊢
  clear hW
  have hS0:W9.cell? ⟨g,34,none⟩=some (.int .i64 ad)∧W9.cell? ⟨g,15,none⟩=some (.int .i64 c.words)∧W9.cell? ⟨g,2,none⟩=some (.slice A1 n cp):=by
    have t1:=h8.at_addr
    have t2:=h8.at_words
    have t3:=h8.at_seen
    rw [show ({ x with loads:=3 }:AtR).addr=x.addr from rfl,HY.out.2.2.2.1] at t1
    rw [show ({ x with loads:=3 }:AtR).seen=x.seen from rfl,HY.out.1] at t3
    exact ⟨t1,t2,t3⟩
  refine Z05 (fun w'=>w'.cell? ⟨g,34,none⟩=some (.int .i64 ad)∧w'.cell? ⟨g,15,none⟩=some (.int .i64 c.words)∧w'.cell? ⟨g,2,none⟩=some (.slice A1 n cp)) (fun _ _=>trivial) _ _ _ _ ?_
  refine' wbk [true,true,true,true,true,true,true,true,true,true,true,true,true,true,true,true,true,true,true,true] 123 hS0 (fun wq hq=>?_) ?_;rotate_left
  · simp only [Z00]
    obtain ⟨q1,q2,q3⟩:=hq
    repeat (go_big_quiet_step (fail))
    exact wpQuiet_nil rfl
  refine wbr [false,false,false,false,false,false,false,false,false,false,false,false,false,false,false,false,false,false,false,false,true] (fuel:=2) (fun QB hQB hQX=>?_)
  simp only [Z00]
  go_wp2_with fail
  obtain ⟨-,-,-,bA,hr,-⟩:=queReads h8.drop.get.choose_spec
  refine (contains_any W9 A1 n cp bA sn ad hr (by omega)).mono ?_
  rintro e w' ⟨rfl,rfl⟩
  rw [decide_eq_true HK.out.2.2.2]
  clear hr
  go_wp2_with fail
  refine hQB.out _ _ hS0 ?_
  clear hQB hQX QB
  refine' wbk [false,false,false,false,false,false,false,false,false,false,false,false,false,false,false,false,false,false,false,false,false,true,true] 123 hS0 (fun wq hq=>?_) ?_;rotate_left
  · simp only [Z00]
    repeat (go_big_quiet_step (fail))
    exact wpQuiet_nil rfl
  refine Z02 (by kernel_rfl) ?_ _
  clear hS0 e1
  go_upto_region 10 with fail
  replace h8:=h8.drew
  refine Z01 [] (by kernel_rfl) ?_
  generalize hW:W9.drew=W10 at h8 ⊢
  clear hW
  have hs3:∀ {w':World} {R':Asr},Hold w0 w' (atA g c { x with loads:=3 }*R')→w'.cell? ⟨g,34,none⟩=some (.int .i64 ad)∧w'.cell? ⟨g,0,none⟩=some (ptrV gst):=fun h=>by
    have t1:=h.at_addr
    have t3:=h.at_set
    rw [show ({ x with loads:=3 }:AtR).addr=x.addr from rfl,HY.out.2.2.2.1] at t1
    rw [show ({ x with loads:=3 }:AtR).set=x.set from rfl,HY.out.2.1] at t3
    exact ⟨t1,t3⟩
  refine Z05 (fun w'=>w'.cell? ⟨g,34,none⟩=some (.int .i64 ad)∧w'.cell? ⟨g,0,none⟩=some (ptrV gst)) (fun _ _=>trivial) _ _ _ _ ?_
  refine' wbk [true,true,true,true,true,true,true,true,false,true,true,true,true] 123 (hs3 h8) (fun wq hq=>?_) ?_;rotate_left
  · simp only [Z00]
    obtain ⟨q1,q3⟩:=hq
    repeat (go_big_quiet_step (fail))
    exact wpQuiet_nil rfl
  refine wbr [false,false,false,false,false,false,false,false,true] (fuel:=3) (fun QB hQB hQX=>?_)
  simp only [Z00]
  go_wp2_with (refine Z0s rfl 32 _ rfl g 15 155 40 _ c.cells rfl Tryz.isAgg32 13 Tryz.sizeOf32 h8 rfl (by decide) ?_)
  go_wp2_with fail
  refine hQB.out _ _ (hs3 h8) ?_
  clear hQB hQX QB
  refine wbr [false,false,false,false,false,false,false,false,false,false,false,false,false,true] (fuel:=2) (fun QB hQB hQX=>?_)
  simp only [Z00]
  go_wp2_with fail
  have HOR:=hid (orec_any W10 c ad HY.out.2.2.2.2.1 ha0 HAW.out)
  refine HOR.out.mono ?_
  rintro e w11 ⟨rfl,hc1⟩
  have h11:=h8.chg0 hc1
  rw [HY.out.2.2.2.2.2]
  clear HOR hc1 h8
  go_wp2_with fail
  refine hQB.out _ _ (hs3 h11) ?_
  clear hQB hQX QB
  refine wbr [false,false,false,false,false,false,false,false,false,false,false,false,false,false,true] (fuel:=1) (fun QB hQB hQX=>?_)
  simp only [Z00]
  go_wp2_with fail
  have hsa:=Zi5 o (h11.pk3 [2,0,1]) HK.out.2.1 HK.out.2.2.1
  rw [HK.out.1] at hsa
  refine hsa.mono ?_
  rintro e w12 ⟨rfl,h12'⟩
  have h12:=h12'.swap
  clear hsa h12' h11
  go_wp2_with fail
  refine hQB.out _ _ (hs3 h12) ?_
  clear hQB hQX QB
  refine' wbk [false,false,false,false,false,false,false,false,false,false,false,false,false,false,false,true] 123 (hs3 h12) (fun wq hq=>?_) ?_;rotate_left
  · simp only [Z00]
    repeat (go_big_quiet_step (fail))
    exact wpQuiet_nil rfl
  refine Z02 (by kernel_rfl) ?_ _
  clear hs3
  have p1:=h12.Zmg
  have z1:=h12.atZ 31
  have H13:=hid (h12.Zmf 0)
  clear h12
  go_upto_region 14 with fail
  have h13:=H13.out
  generalize hW:World.setCell _ _ _=W13 at h13 ⊢
  clear hW H13 p1 z1
  replace h13:=h13.drew
  refine Z01 [] (by kernel_rfl) ?_
  generalize hW:W13.drew=W14 at h13 ⊢
  clear hW
  have hS4:W14.cell? ⟨g,33,none⟩=some (Z1z gb)∧W14.cell? ⟨g,6,none⟩=some (ptrV gk):=by
    have t1:=h13.at_use_
    have t3:=h13.Zmi
    rw [show ({ x with loads:=3,at_:=0 }:AtR).use_=x.use_ from rfl,HY.out.2.2.1] at t1
    rw [show ({ x with loads:=3,at_:=0 }:AtR).read=x.read from rfl,HX.out] at t3
    exact ⟨t1,t3⟩
  have hs5:∀ {w':World} {R':Asr},Hold w0 w' (atA g c { x with loads:=3,at_:=0,value:=vl }*R')→w'.cell? ⟨g,33,none⟩=some (Z1z gb)∧w'.cell? ⟨g,6,none⟩=some (ptrV gk):=fun h=>by
    have t1:=h.at_use_
    have t3:=h.Zmi
    rw [show ({ x with loads:=3,at_:=0,value:=vl }:AtR).use_=x.use_ from rfl,HY.out.2.2.1] at t1
    rw [show ({ x with loads:=3,at_:=0,value:=vl }:AtR).read=x.read from rfl,HX.out] at t3
    exact ⟨t1,t3⟩
  refine Z05 (fun w'=>w'.cell? ⟨g,33,none⟩=some (Z1z gb)∧w'.cell? ⟨g,6,none⟩=some (ptrV gk)) (fun _ _=>trivial) _ _ _ _ ?_
  refine' wbk [true,true,true,true,true,true,true,true,true] 123 hS4 (fun wq hq=>?_) ?_;rotate_left
  · simp only [Z00]
    obtain ⟨q1,q2⟩:=hq
    repeat (go_big_quiet_step (fail))
    exact wpQuiet_nil rfl
  refine wbr [false,false,false,false,false,false,false,false,false,true] (fuel:=1) (fun QB hQB hQX=>?_)
  simp only [Z00]
  go_wp2_with fail
  have h14:Hold w0 W14 (atA g c { x with loads:=3,at_:=0 }*(blkA 108 gb #[ptrV g]*(rdA gk ad o rv 3 bf vl false*(memA m C*(queA 3 (.slice A1 n cp) (iL sn)*(stA gst cap (addL cap xs o)*(blkA 50 gr (acD acc0)*(blkA 50 gc (acD a)*R)))))))):=h13.pk8 [0,7,3,4,2,1,5,6]
  clear h13
  have hrv:=Zc5 w0 W14 _ gk ad o rv _ _ _ _ (h14.pk3 [2,0,1])
  rw [show Zd3 3 vl false=vl from if_pos ⟨rfl,rfl⟩] at hrv
  refine hrv.mono ?_
  rintro e w' ⟨rfl,rfl⟩
  clear hrv
  go_wp2_with fail
  refine hQB.out _ _ hS4 ?_
  clear hQB hQX QB
  refine wbr [false,false,false,false,false,false,false,false,false,false,true] (fuel:=0) (fun QB hQB hQX=>?_)
  simp only [Z00]
  go_wp2_with fail
  refine (Zbr (v:=vl) h14).mono ?_
  rintro e w15 ⟨rfl,h15⟩
  clear h14 hS4
  go_wp2_with fail
  refine hQB.out _ _ (hs5 h15) ?_
  clear hQB hQX QB
  refine Z02 (by kernel_rfl) ?_ _
  have h16:Hold w0 w15 (blkA 50 gr (acD acc0)*(blkA 50 gc (acD a)*(atA g c { x with loads:=3,at_:=0,value:=vl }*(rdA gk ad o rv 3 bf vl false*(memA m C*(queA 3 (.slice A1 n cp) (iL sn)*(stA gst cap (addL cap xs o)*(blkA 108 gb #[ptrV g]*R)))))))):=h15.pk8 [6,7,0,2,3,4,5,1]
  clear h15
  go_upto_region 15 with fail
  go_wp2_with (first | (refine Z04 rfl 50 _ rfl gc _ _ rfl Tryz.isAgg50 _ Tryz.sizeOf50 h16.drop.blk rfl ?_) | (refine Z03 rfl 50 _ _ rfl gr _ _ (acD a) rfl rfl _ Tryz.sizeOf50 h16 rfl rfl rfl ?_;intro y9 h99))
  have HF:Hid (APostX w0 (fun _=>atA g c { x with loads:=3,at_:=0,value:=vl }*(rdA gk ad o rv 3 bf vl false*(memA m C*(queA 3 (.slice A1 n cp) (iL sn)*(stA gst cap (addL cap xs o)*(blkA 108 gb #[ptrV g]*R)))))) a 7 (.returned (.tuple #[a.val,.int .i64 7])) y9):=hid ⟨(),rfl,h99.drop.drop⟩
  exact bodyPost_ret (Z06 Tryz.results87 _ rfl Tryz.isAgg50 _ Tryz.sizeOf50 h99.blk rfl) rfl HF.out
set_option maxHeartbeats 8000000 in
theorem Z71 (h:Hold w0 w (atA g c x*(rdA gk ad o rv 2 bf vl false*(memA m C*(queA 3 (.slice A1 n cp) (iL sn)*(stA gst cap xs*(blkA 108 gb #[ptrV g]*R))))))) (hx:x.read=ptrV gk) (hl:x.loads=2) (hC:COk C) (ho:-9223372036854775808≤o∧o≤9223372036854775807) (ha:opA C 1 2 o (valC C 2 o) true=a) (hb:a.got=bf) (hsn:x.seen = .slice A1 n cp) (hst:x.set=gst) (hu:x.use_=Z1z gb) (had:x.addr=ad) (ha0:0≤ad) (ha1:ad < c.words) (hc:Z0p c=0) (hor:ad % c.orecs=o) (hadd:Z53 cap xs o=true) (hxl:xs.length≤cap) (hcap:cap≤1000000) (hn:n≤1000) (hm:ad ∉ sn) :
    Calls Tryz.prog 87 #[ptrV g,ptrV m] w (APostX (ι:=Option Addr × Nat) w0 (fun q=>atA g c { x with loads:=3,at_:=0,value:=vl,seen:=.slice q.1 (n + 1) q.2 }*(rdA gk ad o rv 3 bf vl false*(memA m C*(queA 3 (.slice q.1 (n + 1) q.2) (iL (sn++[ad]))*(stA gst cap (addL cap xs o)*(blkA 108 gb #[ptrV g]*R)))))) a 7):=by
  have HX:=hid hx
  have HS0:=hid (And.intro hC ha)
  have HL:=hid hl
  have HE:Hid ((a.got != bf)=false):=hid (by rw [hb];exact bne_self_eq_false _)
  have HY:=hid (And.intro hsn (And.intro hst (And.intro hu (And.intro had (And.intro hc hor)))))
  have HK:=hid (And.intro hadd (And.intro hxl (And.intro hcap hm)))
  have HAW:=hid ha1
  clear hx hC ha hl hb hsn hst hu had hc hor hadd hxl hcap hm
  have H1:=hid (nb h)
  clear h
  go_enter Tryz.func87,Tryz.ntmps87
  go_upto_region 1 with fail
  have h1:=H1.out
  generalize hW:w.alloc _=W at h1 ⊢
  generalize w.heap.size=gr at h1 ⊢
  clear hW H1
  have h2:Hold w0 W (atA g c x*(rdA gk ad o rv 2 bf vl false*(memA m C*(blkA 50 gr (acD acc0)*(queA 3 (.slice A1 n cp) (iL sn)*(stA gst cap xs*(blkA 108 gb #[ptrV g]*R))))))):=h1.pk4 [1,2,3,0]
  clear h1
  have hsq:∀ {w':World} {R':Asr},Hold w0 w' (atA g c x*R')→w'.cell? ⟨g,6,none⟩=some (ptrV gk)∧w'.cell? ⟨g,7,none⟩=some (.int .i64 2):=fun h=>by
    have q1:=h.Zmi
    have q2:=h.Zmj
    rw [HX.out] at q1
    rw [HL.out] at q2
    exact ⟨q1,q2⟩
  go_cut [6,7] (fun s6 s7 wx=>∃ gc,s6 = .pointer (some ⟨gc,0,none⟩)∧s7 = .int .i64 7∧Hold w0 wx (blkA 50 gc (acD a)*(atA g c x*(rdA gk ad o rv 3 bf vl false*(memA m C*(blkA 50 gr (acD acc0)*(queA 3 (.slice A1 n cp) (iL sn)*(stA gst cap xs*(blkA 108 gb #[ptrV g]*R)))))))))
  case first =>
    replace h2:=h2.drew
    refine Z01 [] (by kernel_rfl) ?_
    generalize hW:W.drew=W1 at h2 ⊢
    clear hW
    refine Z05 (fun w'=>w'.cell? ⟨g,6,none⟩=some (ptrV gk)∧w'.cell? ⟨g,7,none⟩=some (.int .i64 2)) (fun _ _=>trivial) _ _ _ _ ?_
    refine' wbk [true,true,true,true,true,true,false,true,true,true,true,true,true] 123 (hsq h2) (fun wq hq=>?_) ?_;rotate_left
    · simp only [Z00]
      obtain ⟨q1,q2⟩:=hq
      repeat (go_big_quiet_step (fail))
      exact wpQuiet_nil rfl
    refine Z0n [false,false,false,false,false,false,true] [false,false,false,false,false,false,false,false,false,false,false,false,false,true] (fuel:=3) (by rfl) (by rfl) (by rfl) (by rfl) (by kernel_rfl) (fun QB hQB hQX=>?_) (fun QB hQB hQX=>?_)
    · simp only [Z00]
      first
        | have HS:=hid (Z1e w0 W3 _ gk m C ad o rv bf vl false a (h4.pk4 [2,3,1,0]) HS0.out.1 ho HS0.out.2)
        | have HS:=hid (Z1e w0 W1 _ gk m C ad o rv bf vl false a (h2.pk3 [1,2,0]) HS0.out.1 ho HS0.out.2)
      go_wp2_with fail
      refine HS.out.mono ?_
      rintro e w3 ⟨rfl,h3'⟩
      rw [HE.out] at h3'
      first
        | have h3:Hold w0 w3 (atA g c x*(blkA 50 gc (acD acc0)*(rdA gk ad o rv 3 bf vl false*(memA m C*(blkA 50 gr (acD acc0)*(queA 3 (.slice A1 n cp) (iL sn)*(stA gst cap xs*(blkA 108 gb #[ptrV g]*R)))))))):=h3'.pk4 [2,3,0,1]
        | have h3:Hold w0 w3 (atA g c x*(rdA gk ad o rv 3 bf vl false*(memA m C*(blkA 50 gr (acD acc0)*(queA 3 (.slice A1 n cp) (iL sn)*(stA gst cap xs*(blkA 108 gb #[ptrV g]*R))))))):=h3'.pk3 [2,0,1]
      clear HS h3'
      first | clear h2 | skip
      go_wp2_with fail
      refine hQB.out _ _ (by first | exact hsq (h3.pk2 [1,0]) | exact hsq h3) ?_
      clear hQB hQX QB
      refine wbr [false,false,false,false,false,false,false,false,false,false,false,false,false,true] (fuel:=2) (fun QB hQB hQX=>?_)
      simp only [Z00]
      first
        | have H4:=hid (nb h3)
        | have H4:=hid (nb h2)
      go_wp2_with fail
      refine hQB.out _ _ (hsq H4.out.drop) ?_
      clear hQB hQX QB
      have h4:=H4.out
      clear H4
      first
        | (generalize hW:w3.alloc _=W3 at h4 ⊢;clear hW;generalize w3.heap.size=gc at h4 ⊢;clear h3)
        | (generalize hW:W1.alloc _=W3 at h4 ⊢;clear hW;generalize W1.heap.size=gc at h4 ⊢;clear h2)
      refine wbr [false,false,false,false,false,false,false,false,false,false,false,false,false,false,true] (fuel:=1) (fun QB hQB hQX=>?_)
      simp only [Z00]
      first
        | have hf:=h3.pk2 [1,0]
        | have hf:=h4
      obtain ⟨⟨x0,x1,x2,x3,x4,x5⟩,z0,z1,z2,z3,z4,z5⟩:=Z09 hf.blk
      have H6:=hid (hf.Zma (.int .i64 a.kind) (.int .i64 a.cell) (.int .i64 a.index) (.int .u64 a.got) (.int .u64 a.put) (.bool a.done))
      clear hf
      first | clear h3 | skip
      first | clear h4 | skip
      go_wp2_with fail
      refine hQB.out _ _ (hsq H6.out.drop) ?_
      clear hQB hQX QB x0 x1 x2 x3 x4 x5 z0 z1 z2 z3 z4 z5
      have h6:=H6.out
      generalize hW:World.setCell _ _ _=W6 at h6 ⊢
      clear hW H6
      refine' wbk [false,false,false,false,false,false,false,false,false,false,false,false,false,false,false,true] 123 (hsq h6.drop) (fun wq hq=>?_) ?_;rotate_left
      · simp only [Z00]
        repeat (go_big_quiet_step (fail))
        exact wpQuiet_nil rfl
      refine Z02 (by kernel_rfl) ?_ _
      go_wp2_with fail
      go_meet
      exact ⟨gc,rfl,rfl,h6⟩
    · simp only [Z00]
      first
        | have H4:=hid (nb h3)
        | have H4:=hid (nb h2)
      go_wp2_with fail
      refine hQB.out _ _ (hsq H4.out.drop) ?_
      clear hQB hQX QB
      have h4:=H4.out
      clear H4
      first
        | (generalize hW:w3.alloc _=W3 at h4 ⊢;clear hW;generalize w3.heap.size=gc at h4 ⊢;clear h3)
        | (generalize hW:W1.alloc _=W3 at h4 ⊢;clear hW;generalize W1.heap.size=gc at h4 ⊢;clear h2)
      refine wbr [false,false,false,false,false,false,true] (fuel:=2) (fun QB hQB hQX=>?_)
      simp only [Z00]
      first
        | have HS:=hid (Z1e w0 W3 _ gk m C ad o rv bf vl false a (h4.pk4 [2,3,1,0]) HS0.out.1 ho HS0.out.2)
        | have HS:=hid (Z1e w0 W1 _ gk m C ad o rv bf vl false a (h2.pk3 [1,2,0]) HS0.out.1 ho HS0.out.2)
      go_wp2_with fail
      refine HS.out.mono ?_
      rintro e w3 ⟨rfl,h3'⟩
      rw [HE.out] at h3'
      first
        | have h3:Hold w0 w3 (atA g c x*(blkA 50 gc (acD acc0)*(rdA gk ad o rv 3 bf vl false*(memA m C*(blkA 50 gr (acD acc0)*(queA 3 (.slice A1 n cp) (iL sn)*(stA gst cap xs*(blkA 108 gb #[ptrV g]*R)))))))):=h3'.pk4 [2,3,0,1]
        | have h3:Hold w0 w3 (atA g c x*(rdA gk ad o rv 3 bf vl false*(memA m C*(blkA 50 gr (acD acc0)*(queA 3 (.slice A1 n cp) (iL sn)*(stA gst cap xs*(blkA 108 gb #[ptrV g]*R))))))):=h3'.pk3 [2,0,1]
      clear HS h3'
      first | clear h2 | skip
      go_wp2_with fail
      refine hQB.out _ _ (by first | exact hsq (h3.pk2 [1,0]) | exact hsq h3) ?_
      clear hQB hQX QB
      refine wbr [false,false,false,false,false,false,false,false,false,false,false,false,false,false,true] (fuel:=1) (fun QB hQB hQX=>?_)
      simp only [Z00]
      first
        | have hf:=h3.pk2 [1,0]
        | have hf:=h4
      obtain ⟨⟨x0,x1,x2,x3,x4,x5⟩,z0,z1,z2,z3,z4,z5⟩:=Z09 hf.blk
      have H6:=hid (hf.Zma (.int .i64 a.kind) (.int .i64 a.cell) (.int .i64 a.index) (.int .u64 a.got) (.int .u64 a.put) (.bool a.done))
      clear hf
      first | clear h3 | skip
      first | clear h4 | skip
      go_wp2_with fail
      refine hQB.out _ _ (hsq H6.out.drop) ?_
      clear hQB hQX QB x0 x1 x2 x3 x4 x5 z0 z1 z2 z3 z4 z5
      have h6:=H6.out
      generalize hW:World.setCell _ _ _=W6 at h6 ⊢
      clear hW H6
      refine' wbk [false,false,false,false,false,false,false,false,false,false,false,false,false,false,false,true] 123 (hsq h6.drop) (fun wq hq=>?_) ?_;rotate_left
      · simp only [Z00]
        repeat (go_big_quiet_step (fail))
        exact wpQuiet_nil rfl
      refine Z02 (by kernel_rfl) ?_ _
      go_wp2_with fail
      go_meet
      exact ⟨gc,rfl,rfl,h6⟩
  case rest =>
  clear h2 hsq
  rename World=>w7
  obtain ⟨gc,rfl,rfl,h6⟩:=hcut
  have h7:Hold w0 w7 (atA g c x*(rdA gk ad o rv 3 bf vl false*(memA m C*(blkA 50 gr (acD acc0)*(blkA 50 gc (acD a)*(queA 3 (.slice A1 n cp) (iL sn)*(stA gst cap xs*(blkA 108 gb #[ptrV g]*R)))))))):=h6.pk5 [1,2,3,4,0]
  have p1:=h7.Zmj
  rw [HL.out] at p1
  have z1:=h7.atZ 7
  have H8:=hid (h7.Zmk 3)
  clear h6 h7
  go_upto_region 3 with fail
  have h8:=H8.out
  generalize hW:World.setCell _ _ _=W8 at h8 ⊢
  clear hW H8 p1 z1
  have q:=h8.Zmi
  rw [show ({ x with loads:=3 }:AtR).read=x.read from rfl,HX.out] at q
  have HD:=hid (Z35 w0 W8 _ gk ad o rv _ _ _ _ h8.swap)
  have HCF:=hid (Z36 w0 W8 _ gk ad o rv _ _ _ _ h8.swap)
  go_upto_region 8 with (first | (refine HD.out.mono ?_;rintro e w' ⟨rfl,rfl⟩) | (refine HCF.out.mono ?_;rintro e w' ⟨rfl,rfl⟩))
  clear HD HCF q
  replace h8:=(h8.pk7 [0,5,6,1,2,3,4]).drew
  have e1:decide (ad < c.words)=true:=decide_eq_true HAW.out
  refine Z01 [] (by kernel_rfl) ?_
  generalize hW:W8.drew=W9 at h8 ⊢
  clear hW
  have hS0:W9.cell? ⟨g,34,none⟩=some (.int .i64 ad)∧W9.cell? ⟨g,15,none⟩=some (.int .i64 c.words)∧W9.cell? ⟨g,2,none⟩=some (.slice A1 n cp):=by
    have t1:=h8.at_addr
    have t2:=h8.at_words
    have t3:=h8.at_seen
    rw [show ({ x with loads:=3 }:AtR).addr=x.addr from rfl,HY.out.2.2.2.1] at t1
    rw [show ({ x with loads:=3 }:AtR).seen=x.seen from rfl,HY.out.1] at t3
    exact ⟨t1,t2,t3⟩
  refine Z05 (fun w'=>w'.cell? ⟨g,34,none⟩=some (.int .i64 ad)∧w'.cell? ⟨g,15,none⟩=some (.int .i64 c.words)∧w'.cell? ⟨g,2,none⟩=some (.slice A1 n cp)) (fun _ _=>trivial) _ _ _ _ ?_
  refine' wbk [true,true,true,true,true,true,true,true,true,true,true,true,true,true,true,true,true,true,true,true] 123 hS0 (fun wq hq=>?_) ?_;rotate_left
  · simp only [Z00]
    obtain ⟨q1,q2,q3⟩:=hq
    repeat (go_big_quiet_step (fail))
    exact wpQuiet_nil rfl
  refine wbr [false,false,false,false,false,false,false,false,false,false,false,false,false,false,false,false,false,false,false,false,true] (fuel:=2) (fun QB hQB hQX=>?_)
  simp only [Z00]
  go_wp2_with fail
  obtain ⟨-,-,-,bA,hr,-⟩:=queReads h8.drop.get.choose_spec
  refine (contains_any W9 A1 n cp bA sn ad hr (by omega)).mono ?_
  rintro e w' ⟨rfl,rfl⟩
  rw [decide_eq_false HK.out.2.2.2]
  clear hr
  go_wp2_with fail
  refine hQB.out _ _ hS0 ?_
  clear hQB hQX QB
  refine' wbk [false,false,false,false,false,false,false,false,false,false,false,false,false,false,false,false,false,false,false,false,false,true,true] 123 hS0 (fun wq hq=>?_) ?_;rotate_left
  · simp only [Z00]
    repeat (go_big_quiet_step (fail))
    exact wpQuiet_nil rfl
  refine Z02 (by kernel_rfl) ?_ _
  clear hS0 e1
  go_upto_region 9 with fail
  refine Z01 [15] (by kernel_rfl) ?_
  have h9:=h8.drew
  clear h8
  generalize hW:W9.drew=Wb at h9 ⊢
  clear hW
  have hs2:∀ {w':World} {R':Asr},Hold w0 w' (atA g c { x with loads:=3 }*R')→w'.cell? ⟨g,34,none⟩=some (.int .i64 ad)∧w'.cell? ⟨g,2,none⟩=some (.slice A1 n cp):=fun h=>by
    have t1:=h.at_addr
    have t3:=h.at_seen
    rw [show ({ x with loads:=3 }:AtR).addr=x.addr from rfl,HY.out.2.2.2.1] at t1
    rw [show ({ x with loads:=3 }:AtR).seen=x.seen from rfl,HY.out.1] at t3
    exact ⟨t1,t3⟩
  refine Z05 (fun w'=>w'.cell? ⟨g,34,none⟩=some (.int .i64 ad)∧w'.cell? ⟨g,2,none⟩=some (.slice A1 n cp)) (fun _ _=>trivial) _ _ _ _ ?_
  refine' wbk [true,true,true,true,true,true,true,true,true,true] 123 (hs2 h9) (fun wq hq=>?_) ?_;rotate_left
  · simp only [Z00]
    obtain ⟨q1,q3⟩:=hq
    repeat (go_big_quiet_step (fail))
    exact wpQuiet_nil rfl
  refine wbr [false,false,false,false,false,false,false,false,false,false,true] (fuel:=5) (fun QB hQB hQX=>?_)
  simp only [Z00]
  go_wp2_with fail
  refine hQB.out _ _ (hs2 (h9.alloc _)) ?_
  clear hQB hQX QB
  refine wbr [false,false,false,false,false,false,false,false,false,false,false,true] (fuel:=4) (fun QB hQB hQX=>?_)
  simp only [Z00]
  obtain ⟨iI,hiI,iz0,iz1,iz2⟩:=info_parts Z2f
  have hln:(iL sn).length=n:=by have:=(queReads h9.drop.get.choose_spec).1;exact this.symm
  have HLN:=hid hln
  obtain ⟨xq,hxq⟩:∃ xq,xq=iL sn:=⟨_,rfl⟩
  have HXQ:=hid hxq
  rw [← hxq] at h9
  clear hln hxq
  go_wp2_with (at_builtin;refine Z16 rfl _ _ 23 rfl iI (.int .i64 0) 8 Tryz.underlying23 hiI iz0 iz1 iz2 rfl (.int .i64 ad) _ rfl h9.swap rfl rfl (by rw [HXQ.out,HLN.out];omega) (by decide) ?_)
  intro v9 y4 h5
  obtain ⟨A2,c2,hv9⟩:=h5.Zmc
  rw [List.length_append,HXQ.out,HLN.out,show n + [Value.int .i64 ad].length=n + 1 from rfl] at hv9
  subst hv9
  have h10:=h5.swap
  rw [HXQ.out,show iL sn++[Value.int .i64 ad]=iL (sn++[ad]) by simp [iL]] at h10
  clear h5 h9
  go_wp2_with fail
  refine hQB.out _ _ (hs2 h10) ?_
  clear hQB hQX QB
  refine' wbt [false,false,false,false,false,false,false,false,false,false,false,false,true,true,true] 123 (hs2 h10) (fun wq _=>?_) ?_;rotate_left
  · simp only [Z00]
    repeat (go_big_quiet_step (fail))
    exact wpQuiet_nil rfl
  refine wbb [false,false,false,false,false,false,false,false,false,false,false,false,false,false,false,true] (fuel:=0) (fun QB hQB hQX=>?_)
  simp only [Z00]
  have p1:=h10.at_seen
  have z1:=h10.atZ 2
  have H11:=hid (h10.at_seen_set (.slice A2 (n + 1) c2))
  clear h10
  go_wp2_with fail
  refine hQB.out _ _ ?_
  clear hQB hQX QB p1 z1
  refine Z07 (by kernel_rfl) ?_
  refine Z02 (by kernel_rfl) ?_ _
  have h8:=H11.out
  generalize hW:World.setCell _ _ _=W9 at h8 ⊢
  clear hW H11 hs2
  go_upto_region 10 with fail
  replace h8:=h8.drew
  refine Z01 [] (by kernel_rfl) ?_
  generalize hW:W9.drew=W10 at h8 ⊢
  clear hW
  have hs3:∀ {w':World} {R':Asr},Hold w0 w' (atA g c { x with loads:=3,seen:=.slice A2 (n + 1) c2 }*R')→w'.cell? ⟨g,34,none⟩=some (.int .i64 ad)∧w'.cell? ⟨g,0,none⟩=some (ptrV gst):=fun h=>by
    have t1:=h.at_addr
    have t3:=h.at_set
    rw [show ({ x with loads:=3,seen:=.slice A2 (n + 1) c2 }:AtR).addr=x.addr from rfl,HY.out.2.2.2.1] at t1
    rw [show ({ x with loads:=3,seen:=.slice A2 (n + 1) c2 }:AtR).set=x.set from rfl,HY.out.2.1] at t3
    exact ⟨t1,t3⟩
  refine Z05 (fun w'=>w'.cell? ⟨g,34,none⟩=some (.int .i64 ad)∧w'.cell? ⟨g,0,none⟩=some (ptrV gst)) (fun _ _=>trivial) _ _ _ _ ?_
  refine' wbk [true,true,true,true,true,true,true,true,false,true,true,true,true] 123 (hs3 h8) (fun wq hq=>?_) ?_;rotate_left
  · simp only [Z00]
    obtain ⟨q1,q3⟩:=hq
    repeat (go_big_quiet_step (fail))
    exact wpQuiet_nil rfl
  refine wbr [false,false,false,false,false,false,false,false,true] (fuel:=3) (fun QB hQB hQX=>?_)
  simp only [Z00]
  go_wp2_with (refine Z0s rfl 32 _ rfl g 15 155 40 _ c.cells rfl Tryz.isAgg32 13 Tryz.sizeOf32 h8 rfl (by decide) ?_)
  go_wp2_with fail
  refine hQB.out _ _ (hs3 h8) ?_
  clear hQB hQX QB
  refine wbr [false,false,false,false,false,false,false,false,false,false,false,false,false,true] (fuel:=2) (fun QB hQB hQX=>?_)
  simp only [Z00]
  go_wp2_with fail
  have HOR:=hid (orec_any W10 c ad HY.out.2.2.2.2.1 ha0 HAW.out)
  refine HOR.out.mono ?_
  rintro e w11 ⟨rfl,hc1⟩
  have h11:=h8.chg0 hc1
  rw [HY.out.2.2.2.2.2]
  clear HOR hc1 h8
  go_wp2_with fail
  refine hQB.out _ _ (hs3 h11) ?_
  clear hQB hQX QB
  refine wbr [false,false,false,false,false,false,false,false,false,false,false,false,false,false,true] (fuel:=1) (fun QB hQB hQX=>?_)
  simp only [Z00]
  go_wp2_with fail
  have hsa:=Zi5 o (h11.pk3 [2,0,1]) HK.out.2.1 HK.out.2.2.1
  rw [HK.out.1] at hsa
  refine hsa.mono ?_
  rintro e w12 ⟨rfl,h12'⟩
  have h12:=h12'.swap
  clear hsa h12' h11
  go_wp2_with fail
  refine hQB.out _ _ (hs3 h12) ?_
  clear hQB hQX QB
  refine' wbk [false,false,false,false,false,false,false,false,false,false,false,false,false,false,false,true] 123 (hs3 h12) (fun wq hq=>?_) ?_;rotate_left
  · simp only [Z00]
    repeat (go_big_quiet_step (fail))
    exact wpQuiet_nil rfl
  refine Z02 (by kernel_rfl) ?_ _
  clear hs3
  have p1:=h12.Zmg
  have z1:=h12.atZ 31
  have H13:=hid (h12.Zmf 0)
  clear h12
  go_upto_region 14 with fail
  have h13:=H13.out
  generalize hW:World.setCell _ _ _=W13 at h13 ⊢
  clear hW H13 p1 z1
  replace h13:=h13.drew
  refine Z01 [] (by kernel_rfl) ?_
  generalize hW:W13.drew=W14 at h13 ⊢
  clear hW
  have hS4:W14.cell? ⟨g,33,none⟩=some (Z1z gb)∧W14.cell? ⟨g,6,none⟩=some (ptrV gk):=by
    have t1:=h13.at_use_
    have t3:=h13.Zmi
    rw [show ({ x with loads:=3,at_:=0,seen:=.slice A2 (n + 1) c2 }:AtR).use_=x.use_ from rfl,HY.out.2.2.1] at t1
    rw [show ({ x with loads:=3,at_:=0,seen:=.slice A2 (n + 1) c2 }:AtR).read=x.read from rfl,HX.out] at t3
    exact ⟨t1,t3⟩
  have hs5:∀ {w':World} {R':Asr},Hold w0 w' (atA g c { x with loads:=3,at_:=0,value:=vl,seen:=.slice A2 (n + 1) c2 }*R')→w'.cell? ⟨g,33,none⟩=some (Z1z gb)∧w'.cell? ⟨g,6,none⟩=some (ptrV gk):=fun h=>by
    have t1:=h.at_use_
    have t3:=h.Zmi
    rw [show ({ x with loads:=3,at_:=0,value:=vl,seen:=.slice A2 (n + 1) c2 }:AtR).use_=x.use_ from rfl,HY.out.2.2.1] at t1
    rw [show ({ x with loads:=3,at_:=0,value:=vl,seen:=.slice A2 (n + 1) c2 }:AtR).read=x.read from rfl,HX.out] at t3
    exact ⟨t1,t3⟩
  refine Z05 (fun w'=>w'.cell? ⟨g,33,none⟩=some (Z1z gb)∧w'.cell? ⟨g,6,none⟩=some (ptrV gk)) (fun _ _=>trivial) _ _ _ _ ?_
  refine' wbk [true,true,true,true,true,true,true,true,true] 123 hS4 (fun wq hq=>?_) ?_;rotate_left
  · simp only [Z00]
    obtain ⟨q1,q2⟩:=hq
    repeat (go_big_quiet_step (fail))
    exact wpQuiet_nil rfl
  refine wbr [false,false,false,false,false,false,false,false,false,true] (fuel:=1) (fun QB hQB hQX=>?_)
  simp only [Z00]
  go_wp2_with fail
  have h14:Hold w0 W14 (atA g c { x with loads:=3,at_:=0,seen:=.slice A2 (n + 1) c2 }*(blkA 108 gb #[ptrV g]*(rdA gk ad o rv 3 bf vl false*(memA m C*(queA 3 (.slice A2 (n + 1) c2) (iL (sn++[ad]))*(stA gst cap (addL cap xs o)*(blkA 50 gr (acD acc0)*(blkA 50 gc (acD a)*R)))))))):=h13.pk8 [0,7,3,4,2,1,5,6]
  clear h13
  have hrv:=Zc5 w0 W14 _ gk ad o rv _ _ _ _ (h14.pk3 [2,0,1])
  rw [show Zd3 3 vl false=vl from if_pos ⟨rfl,rfl⟩] at hrv
  refine hrv.mono ?_
  rintro e w' ⟨rfl,rfl⟩
  clear hrv
  go_wp2_with fail
  refine hQB.out _ _ hS4 ?_
  clear hQB hQX QB
  refine wbr [false,false,false,false,false,false,false,false,false,false,true] (fuel:=0) (fun QB hQB hQX=>?_)
  simp only [Z00]
  go_wp2_with fail
  refine (Zbr (v:=vl) h14).mono ?_
  rintro e w15 ⟨rfl,h15⟩
  clear h14 hS4
  go_wp2_with fail
  refine hQB.out _ _ (hs5 h15) ?_
  clear hQB hQX QB
  refine Z02 (by kernel_rfl) ?_ _
  have h16:Hold w0 w15 (blkA 50 gr (acD acc0)*(blkA 50 gc (acD a)*(atA g c { x with loads:=3,at_:=0,value:=vl,seen:=.slice A2 (n + 1) c2 }*(rdA gk ad o rv 3 bf vl false*(memA m C*(queA 3 (.slice A2 (n + 1) c2) (iL (sn++[ad]))*(stA gst cap (addL cap xs o)*(blkA 108 gb #[ptrV g]*R)))))))):=h15.pk8 [6,7,0,2,3,4,5,1]
  clear h15
  go_upto_region 15 with fail
  go_wp2_with (first | (refine Z04 rfl 50 _ rfl gc _ _ rfl Tryz.isAgg50 _ Tryz.sizeOf50 h16.drop.blk rfl ?_) | (refine Z03 rfl 50 _ _ rfl gr _ _ (acD a) rfl rfl _ Tryz.sizeOf50 h16 rfl rfl rfl ?_;intro y9 h99))
  have HF:Hid (APostX w0 (fun (q:Option Addr × Nat)=>atA g c { x with loads:=3,at_:=0,value:=vl,seen:=.slice q.1 (n + 1) q.2 }*(rdA gk ad o rv 3 bf vl false*(memA m C*(queA 3 (.slice q.1 (n + 1) q.2) (iL (sn++[ad]))*(stA gst cap (addL cap xs o)*(blkA 108 gb #[ptrV g]*R)))))) a 7 (.returned (.tuple #[a.val,.int .i64 7])) y9):=hid ⟨(A2,c2),rfl,h99.drop.drop⟩
  exact bodyPost_ret (Z06 Tryz.results87 _ rfl Tryz.isAgg50 _ Tryz.sizeOf50 h99.blk rfl) rfl HF.out
end
end Go.Proofs.YtmlfangeanmmeaaGreatDoor
