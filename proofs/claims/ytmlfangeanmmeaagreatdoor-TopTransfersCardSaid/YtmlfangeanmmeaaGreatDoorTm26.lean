/-
  What the proof of TopTransfers leans on, part 26 of 48: At9. No statement of its own.
-/
import Derived.Test.YtmlfangeanmmeaaGreatDoorTm25
namespace Go.Proofs.YtmlfangeanmmeaaGreatDoor
set_option maxRecDepth 8000
open Go.RowKit
set_option linter.unusedVariables false
section
variable {w0 w:World} {R R':Asr} {g m gl gk gt:Nat} {c:Cfg} {x:AtR} {L:PL} {C C2:Nat→List Int} {a:Acc} {th sn o nv tk:Int} {os old old2:List Int}
set_option maxHeartbeats 8000000 in
theorem Z67 (h:Hold w0 w (atA g c x*(lkA gk th os old false sn*(memA m C*R)))) (hx:x.lock=ptrV gk) (hC:COk C) (ho:os[old.length]?=some o) (hxo:-9223372036854775808≤o∧o≤9223372036854775807) (hg:0≤a.got∧a.got < 18446744073709551616) (ha:opA C 1 2 o (valC C 2 o) true=a) (hkd:a.kind=1) :
    Calls Tryz.prog 89 #[ptrV g,ptrV m] w (APostX (ι:=Unit) w0 (fun _=>atA g c x*(lkA gk th os old (decide (a.got % 64=0)) a.got*(memA m C*R))) a 11):=by
  have HX:=hid hx
  have HS0:=hid (And.intro hC (And.intro ho (And.intro ha hkd)))
  have hnl:old.length ≠ os.length:=by have:=(List.getElem?_eq_some_iff.1 ho).1;omega
  clear hx hC ho ha hkd
  have H1:=hid (nb h)
  clear h
  go_enter Tryz.func89,Tryz.ntmps89
  go_upto_region 1 with fail
  have h1:=H1.out
  generalize hW:w.alloc _=W at h1 ⊢
  generalize w.heap.size=gr at h1 ⊢
  clear hW H1
  have h2:Hold w0 W (atA g c x*(lkA gk th os old false sn*(memA m C*(blkA 50 gr (acD acc0)*R)))):=h1.pk4 [1,2,3,0]
  clear h1
  have q:=h2.at_lock
  rw [HX.out] at q
  have HS:=hid (Zk6 (h2.pk3 [1,2,0]) HS0.out.1 HS0.out.2.1 hxo hg HS0.out.2.2.1)
  clear h2
  go_wp2_with fail
  refine HS.out.mono ?_
  rintro e w3 ⟨rfl,h3⟩
  clear HS q
  have H7:=hid (nb h3)
  clear h3
  go_upto_region 2 with (refine Z03 rfl 50 _ _ rfl w3.heap.size _ _ (acD a) rfl rfl _ Tryz.sizeOf50 H7.out rfl rfl rfl ?_;intro y2 h4)
  clear H7
  generalize w3.heap.size=gc at h4 ⊢
  have h5:Hold w0 y2 (atA g c x*(lkA gk th os old (decide (a.got % 64=0)) a.got*(memA m C*(blkA 50 gr (acD acc0)*(blkA 50 gc (acD a)*R))))):=h4.pk5 [3,1,2,4,0]
  clear h4
  have q:=h5.at_lock
  rw [HX.out] at q
  have qk:y2.cell? ⟨gc,0,none⟩=some (.int .i64 1):=by
    have:=(h5.pk5 [4]).blk.some_ (i:=0) (u:=.int .i64 a.kind) rfl
    rwa [HS0.out.2.2.2] at this
  have hd:=Z6o h5.swap
  rw [show ((old.length:Int) == (os.length:Int))=false from beq_eq_false_iff_ne.2 (by omega)] at hd
  have HD:=hid hd
  clear h5 hd
  go_wp2_with fail
  refine HD.out.mono ?_
  rintro e w5 ⟨rfl,h6⟩
  clear HD q qk
  have h10:Hold w0 w5 (blkA 50 gr (acD acc0)*(blkA 50 gc (acD a)*(atA g c x*(lkA gk th os old (decide (a.got % 64=0)) a.got*(memA m C*R))))):=h6.pk5 [3,4,1,0,2]
  clear h6
  go_upto_region 6 with fail
  go_wp2_with (first | (refine Z04 rfl 50 _ rfl gc _ _ rfl Tryz.isAgg50 _ Tryz.sizeOf50 h10.drop.blk rfl ?_) | (refine Z03 rfl 50 _ _ rfl gr _ _ (acD a) rfl rfl _ Tryz.sizeOf50 h10 rfl rfl rfl ?_;intro y9 h99))
  have HF:Hid (APostX w0 (fun _=>atA g c x*(lkA gk th os old (decide (a.got % 64=0)) a.got*(memA m C*R))) a 11 (.returned (.tuple #[a.val,.int .i64 11])) y9):=hid ⟨(),rfl,h99.drop.drop⟩
  exact bodyPost_ret (Z06 Tryz.results89 _ rfl Tryz.isAgg50 _ Tryz.sizeOf50 h99.blk rfl) rfl HF.out
set_option maxHeartbeats 8000000 in
theorem Z66 (h:Hold w0 w (atA g c x*(lkA gk th os old true sn*(memA m C*R)))) (hx:x.lock=ptrV gk) (hC:COk C) (ho:os[old.length]?=some o) (hxo:-9223372036854775808≤o∧o≤9223372036854775807) (hs:0≤sn∧sn < 9223372036854775808) (hth:0≤th∧th≤15) (hv:nv=sn + th + 1) (ha:opA C 3 2 o nv (valC C 2 o == sn)=a) (hl:old.length≤1000) (hC2:opC C 2 o nv (valC C 2 o == sn)=C2) (hold:oldN a.done old sn=old2) (hkd:a.kind=3) (hnl:old2.length ≠ os.length) :
    Calls Tryz.prog 89 #[ptrV g,ptrV m] w (APostX (ι:=Unit) w0 (fun _=>atA g c x*(lkA gk th os old2 false sn*(memA m C2*R))) a 12):=by
  have HX:=hid hx
  have HS0:=hid (And.intro hC (And.intro ho (And.intro ha (And.intro hkd (And.intro hv (And.intro hC2 hold))))))
  have HNL:=hid hnl
  clear hx hC ho ha hkd hv hC2 hold hnl
  have H1:=hid (nb h)
  clear h
  go_enter Tryz.func89,Tryz.ntmps89
  go_upto_region 1 with fail
  have h1:=H1.out
  generalize hW:w.alloc _=W at h1 ⊢
  generalize w.heap.size=gr at h1 ⊢
  clear hW H1
  have h2:Hold w0 W (atA g c x*(lkA gk th os old true sn*(memA m C*(blkA 50 gr (acD acc0)*R)))):=h1.pk4 [1,2,3,0]
  clear h1
  have q:=h2.at_lock
  rw [HX.out] at q
  have HS:=hid (Zer (h2.pk3 [1,2,0]) HS0.out.1 HS0.out.2.1 hxo hs hth HS0.out.2.2.2.2.1 HS0.out.2.2.1 hl HS0.out.2.2.2.2.2.1 HS0.out.2.2.2.2.2.2)
  clear h2
  go_wp2_with fail
  refine HS.out.mono ?_
  rintro e w3 ⟨rfl,h3⟩
  clear HS q
  have H7:=hid (nb h3)
  clear h3
  go_upto_region 2 with (refine Z03 rfl 50 _ _ rfl w3.heap.size _ _ (acD a) rfl rfl _ Tryz.sizeOf50 H7.out rfl rfl rfl ?_;intro y2 h4)
  clear H7
  generalize w3.heap.size=gc at h4 ⊢
  have h5:Hold w0 y2 (atA g c x*(lkA gk th os old2 false sn*(memA m C2*(blkA 50 gr (acD acc0)*(blkA 50 gc (acD a)*R))))):=h4.pk5 [3,1,2,4,0]
  clear h4
  have q:=h5.at_lock
  rw [HX.out] at q
  have qk:y2.cell? ⟨gc,0,none⟩=some (.int .i64 3):=by
    have:=(h5.pk5 [4]).blk.some_ (i:=0) (u:=.int .i64 a.kind) rfl
    rwa [HS0.out.2.2.2.1] at this
  have hd:=Z6o h5.swap
  rw [show ((old2.length:Int) == (os.length:Int))=false from beq_eq_false_iff_ne.2 (by have:=HNL.out;omega)] at hd
  have HD:=hid hd
  clear h5 hd
  go_wp2_with fail
  refine HD.out.mono ?_
  rintro e w5 ⟨rfl,h6⟩
  clear HD q qk
  have h10:Hold w0 w5 (blkA 50 gr (acD acc0)*(blkA 50 gc (acD a)*(atA g c x*(lkA gk th os old2 false sn*(memA m C2*R))))):=h6.pk5 [3,4,1,0,2]
  clear h6
  go_upto_region 6 with fail
  go_wp2_with (first | (refine Z04 rfl 50 _ rfl gc _ _ rfl Tryz.isAgg50 _ Tryz.sizeOf50 h10.drop.blk rfl ?_) | (refine Z03 rfl 50 _ _ rfl gr _ _ (acD a) rfl rfl _ Tryz.sizeOf50 h10 rfl rfl rfl ?_;intro y9 h99))
  have HF:Hid (APostX w0 (fun _=>atA g c x*(lkA gk th os old2 false sn*(memA m C2*R))) a 12 (.returned (.tuple #[a.val,.int .i64 12])) y9):=hid ⟨(),rfl,h99.drop.drop⟩
  exact bodyPost_ret (Z06 Tryz.results89 _ rfl Tryz.isAgg50 _ Tryz.sizeOf50 h99.blk rfl) rfl HF.out
set_option maxHeartbeats 8000000 in
theorem Z68 (h:Hold w0 w (atA g c x*(lkA gk th os old true sn*(memA m C*R)))) (hx:x.lock=ptrV gk) (hC:COk C) (ho:os[old.length]?=some o) (hxo:-9223372036854775808≤o∧o≤9223372036854775807) (hs:0≤sn∧sn < 9223372036854775808) (hth:0≤th∧th≤15) (hv:nv=sn + th + 1) (ha:opA C 3 2 o nv (valC C 2 o == sn)=a) (hl:old.length≤1000) (hC2:opC C 2 o nv (valC C 2 o == sn)=C2) (hold:oldN a.done old sn=old2) (hkd:a.kind=3) (hnl:old2.length=os.length) :
    Calls Tryz.prog 89 #[ptrV g,ptrV m] w (APostX (ι:=Nat) w0 (fun gt=>atA g c { x with at_:=6,turn:=ptrV gt }*(tuA gt false 0 false*(lkA gk th os old2 false sn*(memA m C2*R)))) a 12):=by
  have HX:=hid hx
  have HS0:=hid (And.intro hC (And.intro ho (And.intro ha (And.intro hkd (And.intro hv (And.intro hC2 hold))))))
  have HNL:=hid hnl
  clear hx hC ho ha hkd hv hC2 hold hnl
  have H1:=hid (nb h)
  clear h
  go_enter Tryz.func89,Tryz.ntmps89
  go_upto_region 1 with fail
  have h1:=H1.out
  generalize hW:w.alloc _=W at h1 ⊢
  generalize w.heap.size=gr at h1 ⊢
  clear hW H1
  have h2:Hold w0 W (atA g c x*(lkA gk th os old true sn*(memA m C*(blkA 50 gr (acD acc0)*R)))):=h1.pk4 [1,2,3,0]
  clear h1
  have q:=h2.at_lock
  rw [HX.out] at q
  have HS:=hid (Zer (h2.pk3 [1,2,0]) HS0.out.1 HS0.out.2.1 hxo hs hth HS0.out.2.2.2.2.1 HS0.out.2.2.1 hl HS0.out.2.2.2.2.2.1 HS0.out.2.2.2.2.2.2)
  clear h2
  go_wp2_with fail
  refine HS.out.mono ?_
  rintro e w3 ⟨rfl,h3⟩
  clear HS q
  have H7:=hid (nb h3)
  clear h3
  go_upto_region 2 with (refine Z03 rfl 50 _ _ rfl w3.heap.size _ _ (acD a) rfl rfl _ Tryz.sizeOf50 H7.out rfl rfl rfl ?_;intro y2 h4)
  clear H7
  generalize w3.heap.size=gc at h4 ⊢
  have h5:Hold w0 y2 (atA g c x*(lkA gk th os old2 false sn*(memA m C2*(blkA 50 gr (acD acc0)*(blkA 50 gc (acD a)*R))))):=h4.pk5 [3,1,2,4,0]
  clear h4
  have q:=h5.at_lock
  rw [HX.out] at q
  have qk:y2.cell? ⟨gc,0,none⟩=some (.int .i64 3):=by
    have:=(h5.pk5 [4]).blk.some_ (i:=0) (u:=.int .i64 a.kind) rfl
    rwa [HS0.out.2.2.2.1] at this
  have hd:=Z6o h5.swap
  rw [show ((old2.length:Int) == (os.length:Int))=true from beq_iff_eq.2 (by have:=HNL.out;omega)] at hd
  have HD:=hid hd
  clear h5 hd
  go_wp2_with fail
  refine HD.out.mono ?_
  rintro e w5 ⟨rfl,h6⟩
  clear HD q qk
  go_wp2_with fail
  refine (Zbz w0 w5 _ h6).mono ?_
  rintro e w6 ⟨gt,rfl,h7⟩
  clear h6
  have h8:Hold w0 w6 (atA g c x*(tuA gt false 0 false*(lkA gk th os old2 false sn*(memA m C2*(blkA 50 gr (acD acc0)*(blkA 50 gc (acD a)*R)))))):=h7.pk4 [2,0,1,3]
  clear h7
  have p1:=h8.Zmg
  have z1:=h8.atZ 31
  have h9:=h8.Zmf 6
  have p2:=h8.at_turn
  have z2:=h8.atZ 10
  have H10:=hid ((h9.at_turn_set (ptrV gt)).pk6 [4,5,0,1,2,3])
  clear h8 h9
  go_upto_region 6 with fail
  have h10:=H10.out
  generalize hW:World.setCell _ _ _=W8 at h10 ⊢
  clear hW H10 p1 z1 p2 z2
  go_wp2_with (first | (refine Z04 rfl 50 _ rfl gc _ _ rfl Tryz.isAgg50 _ Tryz.sizeOf50 h10.drop.blk rfl ?_) | (refine Z03 rfl 50 _ _ rfl gr _ _ (acD a) rfl rfl _ Tryz.sizeOf50 h10 rfl rfl rfl ?_;intro y9 h99))
  have HF:Hid (APostX w0 (fun gt=>atA g c { x with at_:=6,turn:=ptrV gt }*(tuA gt false 0 false*(lkA gk th os old2 false sn*(memA m C2*R)))) a 12 (.returned (.tuple #[a.val,.int .i64 12])) y9):=hid ⟨gt,rfl,h99.drop.drop⟩
  exact bodyPost_ret (Z06 Tryz.results89 _ rfl Tryz.isAgg50 _ Tryz.sizeOf50 h99.blk rfl) rfl HF.out
set_option maxHeartbeats 8000000 in
theorem Z61 (h:Hold w0 w (atA g c x*(tuA gt false tk false*(memA m C*R)))) (hx:x.turn=ptrV gt) (hC:COk C) (ha:(⟨4,4,0,valC C 4 0,IntKind.u64.wrap (valC C 4 0 + 1),true⟩:Acc)=a) (hC2:opC C 4 0 (IntKind.u64.wrap (valC C 4 0 + 1)) true=C2) :
    Calls Tryz.prog 90 #[ptrV g,ptrV m] w (APostX (ι:=Unit) w0 (fun _=>atA g c x*(tuA gt true a.got false*(memA m C2*R))) a 13):=by
  have HX:=hid hx
  have HS0:=hid (And.intro hC (And.intro ha hC2))
  clear hx hC ha hC2
  have H1:=hid (nb h)
  clear h
  go_enter Tryz.func90,Tryz.ntmps90
  go_upto_region 1 with fail
  have h1:=H1.out
  generalize hW:w.alloc _=W at h1 ⊢
  generalize w.heap.size=gr at h1 ⊢
  clear hW H1
  have h2:Hold w0 W (atA g c x*(tuA gt false tk false*(memA m C*(blkA 50 gr (acD acc0)*R)))):=h1.pk4 [1,2,3,0]
  clear h1
  have q:=h2.at_turn
  rw [HX.out] at q
  have HS:=hid (Z77 w0 W _ gt m C tk (h2.pk3 [1,2,0]) HS0.out.1)
  clear h2
  go_wp2_with fail
  refine HS.out.mono ?_
  rintro e w3 ⟨rfl,h3⟩
  rw [HS0.out.2.2,show valC C 4 0=a.got by rw [← HS0.out.2.1]] at h3
  rw [HS0.out.2.1]
  clear HS q
  have H7:=hid (nb h3)
  clear h3
  go_upto_region 2 with (refine Z03 rfl 50 _ _ rfl w3.heap.size _ _ (acD a) rfl rfl _ Tryz.sizeOf50 H7.out rfl rfl rfl ?_;intro y2 h4)
  clear H7
  generalize w3.heap.size=gc at h4 ⊢
  have h5:Hold w0 y2 (atA g c x*(tuA gt true a.got false*(memA m C2*(blkA 50 gr (acD acc0)*(blkA 50 gc (acD a)*R))))):=h4.pk5 [3,1,2,4,0]
  clear h4
  have q:=h5.at_turn
  rw [HX.out] at q
  have qk:y2.cell? ⟨gc,0,none⟩=some (.int .i64 4):=by
    have:=(h5.pk5 [4]).blk.some_ (i:=0) (u:=.int .i64 a.kind) rfl
    rwa [show a.kind=4 by rw [← HS0.out.2.1]] at this
  have HD:=hid (Z4j w0 y2 _ gt _ _ _ h5.swap)
  go_wp2_with fail
  refine HD.out.mono ?_
  rintro e w' ⟨rfl,rfl⟩
  clear HD q qk
  have h10:Hold w0 y2 (blkA 50 gr (acD acc0)*(blkA 50 gc (acD a)*(atA g c x*(tuA gt true a.got false*(memA m C2*R))))):=h5.pk5 [3,4,0,1,2]
  clear h5
  go_upto_region 9 with fail
  go_wp2_with (first | (refine Z04 rfl 50 _ rfl gc _ _ rfl Tryz.isAgg50 _ Tryz.sizeOf50 h10.drop.blk rfl ?_) | (refine Z03 rfl 50 _ _ rfl gr _ _ (acD a) rfl rfl _ Tryz.sizeOf50 h10 rfl rfl rfl ?_;intro y9 h99))
  have HF:Hid (APostX w0 (fun _=>atA g c x*(tuA gt true a.got false*(memA m C2*R))) a 13 (.returned (.tuple #[a.val,.int .i64 13])) y9):=hid ⟨(),rfl,h99.drop.drop⟩
  exact bodyPost_ret (Z06 Tryz.results90 _ rfl Tryz.isAgg50 _ Tryz.sizeOf50 h99.blk rfl) rfl HF.out
set_option maxHeartbeats 8000000 in
theorem Z60 (h:Hold w0 w (atA g c x*(tuA gt true tk false*(memA m C*R)))) (hx:x.turn=ptrV gt) (hC:COk C) (ha:(⟨1,5,0,valC C 5 0,valC C 5 0,true⟩:Acc)=a) (hne:valC C 5 0 ≠ tk) :
    Calls Tryz.prog 90 #[ptrV g,ptrV m] w (APostX (ι:=Unit) w0 (fun _=>atA g c x*(tuA gt true tk false*(memA m C*R))) a 14):=by
  have HX:=hid hx
  have HS0:=hid (And.intro hC ha)
  have e0:(valC C 5 0 == tk)=false:=beq_eq_false_iff_ne.2 hne
  have E0:=hid e0
  clear hx hC ha hne e0
  have H1:=hid (nb h)
  clear h
  go_enter Tryz.func90,Tryz.ntmps90
  go_upto_region 1 with fail
  have h1:=H1.out
  generalize hW:w.alloc _=W at h1 ⊢
  generalize w.heap.size=gr at h1 ⊢
  clear hW H1
  have h2:Hold w0 W (atA g c x*(tuA gt true tk false*(memA m C*(blkA 50 gr (acD acc0)*R)))):=h1.pk4 [1,2,3,0]
  clear h1
  have q:=h2.at_turn
  rw [HX.out] at q
  have HS:=hid (Z2j w0 W _ gt m C tk (h2.pk3 [1,2,0]) HS0.out.1)
  clear h2
  go_wp2_with fail
  refine HS.out.mono ?_
  rintro e w3 ⟨rfl,h3⟩
  rw [E0.out] at h3
  rw [HS0.out.2]
  clear HS q
  have H7:=hid (nb h3)
  clear h3
  go_upto_region 2 with (refine Z03 rfl 50 _ _ rfl w3.heap.size _ _ (acD a) rfl rfl _ Tryz.sizeOf50 H7.out rfl rfl rfl ?_;intro y2 h4)
  clear H7
  generalize w3.heap.size=gc at h4 ⊢
  have h5:Hold w0 y2 (atA g c x*(tuA gt true tk false*(memA m C*(blkA 50 gr (acD acc0)*(blkA 50 gc (acD a)*R))))):=h4.pk5 [3,1,2,4,0]
  clear h4
  have q:=h5.at_turn
  rw [HX.out] at q
  have qk:y2.cell? ⟨gc,0,none⟩=some (.int .i64 1):=by
    have:=(h5.pk5 [4]).blk.some_ (i:=0) (u:=.int .i64 a.kind) rfl
    rwa [show a.kind=1 by rw [← HS0.out.2]] at this
  have HD:=hid (Z4j w0 y2 _ gt _ _ _ h5.swap)
  go_wp2_with fail
  refine HD.out.mono ?_
  rintro e w' ⟨rfl,rfl⟩
  clear HD q qk
  have h10:Hold w0 y2 (blkA 50 gr (acD acc0)*(blkA 50 gc (acD a)*(atA g c x*(tuA gt true tk false*(memA m C*R))))):=h5.pk5 [3,4,0,1,2]
  clear h5
  go_upto_region 9 with fail
  go_wp2_with (first | (refine Z04 rfl 50 _ rfl gc _ _ rfl Tryz.isAgg50 _ Tryz.sizeOf50 h10.drop.blk rfl ?_) | (refine Z03 rfl 50 _ _ rfl gr _ _ (acD a) rfl rfl _ Tryz.sizeOf50 h10 rfl rfl rfl ?_;intro y9 h99))
  have HF:Hid (APostX w0 (fun _=>atA g c x*(tuA gt true tk false*(memA m C*R))) a 14 (.returned (.tuple #[a.val,.int .i64 14])) y9):=hid ⟨(),rfl,h99.drop.drop⟩
  exact bodyPost_ret (Z06 Tryz.results90 _ rfl Tryz.isAgg50 _ Tryz.sizeOf50 h99.blk rfl) rfl HF.out
set_option maxHeartbeats 8000000 in
theorem Z63 {gs cap ge:Nat} {S:List Int} {ck:Int} (h:Hold w0 w (atA g c x*(tuA gt true tk false*(memA m C*(stA gs cap S*(enA ge th 3 ck*R)))))) (hx:x.turn=ptrV gt) (hC:COk C) (ha:(⟨1,5,0,valC C 5 0,valC C 5 0,true⟩:Acc)=a) (heq:valC C 5 0=tk) (hxs:x.set=gs) (hxe:x.enter=ptrV ge) (hck:0≤ck∧ck≤1099511627776) (hl:S.length≤1000) (hS:S ≠ []) :
    Calls Tryz.prog 90 #[ptrV g,ptrV m] w (APostX (ι:=Nat) w0 (fun gk=>atA g c { x with check:=ptrV gk,at_:=7 }*(chkA gk S ck false*(tuA gt true tk true*(memA m C*(stA gs cap S*(enA ge th 3 ck*R)))))) a 14):=by
  have HX:=hid hx
  have HS0:=hid (And.intro hC ha)
  have e0:(valC C 5 0 == tk)=true:=beq_iff_eq.2 heq
  have E0:=hid e0
  have HY:=hid (And.intro hxs (And.intro hxe hS))
  clear hx hC ha heq e0 hxs hxe hS
  have H1:=hid (nb h)
  clear h
  go_enter Tryz.func90,Tryz.ntmps90
  go_upto_region 1 with fail
  have h1:=H1.out
  generalize hW:w.alloc _=W at h1 ⊢
  generalize w.heap.size=gr at h1 ⊢
  clear hW H1
  have h2:Hold w0 W (atA g c x*(tuA gt true tk false*(memA m C*(blkA 50 gr (acD acc0)*(stA gs cap S*(enA ge th 3 ck*R)))))):=h1.pk4 [1,2,3,0]
  clear h1
  have q:=h2.at_turn
  rw [HX.out] at q
  have HS:=hid (Z2j w0 W _ gt m C tk (h2.pk3 [1,2,0]) HS0.out.1)
  clear h2
  go_wp2_with fail
  refine HS.out.mono ?_
  rintro e w3 ⟨rfl,h3⟩
  rw [E0.out] at h3
  rw [HS0.out.2]
  clear HS q
  have H7:=hid (nb h3)
  clear h3
  go_upto_region 2 with (refine Z03 rfl 50 _ _ rfl w3.heap.size _ _ (acD a) rfl rfl _ Tryz.sizeOf50 H7.out rfl rfl rfl ?_;intro y2 h4)
  clear H7
  generalize w3.heap.size=gc at h4 ⊢
  have h5:Hold w0 y2 (atA g c x*(tuA gt true tk true*(memA m C*(blkA 50 gr (acD acc0)*(blkA 50 gc (acD a)*(stA gs cap S*(enA ge th 3 ck*R))))))):=h4.pk5 [3,1,2,4,0]
  clear h4
  have q:=h5.at_turn
  rw [HX.out] at q
  have qk:y2.cell? ⟨gc,0,none⟩=some (.int .i64 1):=by
    have:=(h5.pk5 [4]).blk.some_ (i:=0) (u:=.int .i64 a.kind) rfl
    rwa [show a.kind=1 by rw [← HS0.out.2]] at this
  have HD:=hid (Z4j w0 y2 _ gt _ _ _ h5.swap)
  go_wp2_with fail
  refine HD.out.mono ?_
  rintro e w' ⟨rfl,rfl⟩
  clear HD q qk
  have h6:Hold w0 y2 (stA gs cap S*(atA g c x*(enA ge th 3 ck*(tuA gt true tk true*(memA m C*(blkA 50 gr (acD acc0)*(blkA 50 gc (acD a)*R))))))):=h5.pk7 [5,0,6,1,2,3,4]
  clear h5
  have q:=h6.drop.at_set
  rw [HY.out.1] at q
  have HL:=hid (Ze2 h6 (by omega))
  clear h6
  obtain ⟨n,hn⟩:∃ n,n=S.length:=⟨_,rfl⟩
  rw [← hn] at HL
  have HN:=hid hn
  rw [← hn] at hl
  clear hn
  go_wp2_with fail
  refine HL.out.mono ?_
  rintro e w6 ⟨A1,c1,rfl,h7⟩
  clear HL q
  have h8:Hold w0 w6 (atA g c x*(enA ge th 3 ck*(queA 3 (.slice A1 n c1) (iL S)*(stA gs cap S*(tuA gt true tk true*(memA m C*(blkA 50 gr (acD acc0)*(blkA 50 gc (acD a)*R)))))))):=h7.pk4 [2,3,0,1]
  clear h7
  have HSn:=Z5k h8 HY.out.2.1 ⟨hck.1,by omega⟩
  rw [show Z3j 3 ck=ck from rfl] at HSn
  have HSn:=hid HSn
  go_wp2_with fail
  refine HSn.out.mono ?_
  rintro e w' ⟨rfl,rfl⟩
  clear HSn
  obtain ⟨-,-,-,bA,hr,-⟩:=queReads h8.drop.drop.get.choose_spec
  have HCN:=hid (Zf9 w0 w6 _ A1 n c1 bA S ck h8 hr (by omega))
  clear h8 hr
  go_wp2_with fail
  refine HCN.out.mono ?_
  rintro e w7 ⟨gk,rfl,h9⟩
  clear HCN
  have h10:Hold w0 w7 (atA g c x*(chkA gk S ck false*(tuA gt true tk true*(memA m C*(stA gs cap S*(enA ge th 3 ck*(blkA 50 gr (acD acc0)*(blkA 50 gc (acD a)*R)))))))):=h9.pk8 [1,0,5,6,4,2,7]
  clear h9
  have p1:=h10.Zml
  have z1:=h10.atZ 11
  have h11:=h10.at_check_set (ptrV gk)
  have p2:=h10.Zmg
  have z2:=h10.atZ 31
  have H12:=hid (h11.Zmf 7)
  clear h10 h11
  go_upto_region 7 with fail
  have h12:=H12.out
  generalize hW:World.setCell _ _ _=W8 at h12 ⊢
  clear hW H12 p1 z1 p2 z2
  have q:=h12.Zml
  have hcd:=Z4x w0 W8 _ gk S ck false h12.swap
  rw [show (false || S.isEmpty)=false by cases S with | nil=>exact absurd rfl HY.out.2.2 | cons a l=>rfl] at hcd
  have HCD:=hid hcd
  clear hcd
  have h13:Hold w0 W8 (blkA 50 gr (acD acc0)*(blkA 50 gc (acD a)*(atA g c { x with check:=ptrV gk,at_:=7 }*(chkA gk S ck false*(tuA gt true tk true*(memA m C*(stA gs cap S*(enA ge th 3 ck*R)))))))):=h12.pk8 [6,7,0,1,2,3,4,5]
  clear h12
  go_wp2_with fail
  refine HCD.out.mono ?_
  rintro e w' ⟨rfl,rfl⟩
  clear HCD q
  go_upto_region 9 with fail
  go_wp2_with (first | (refine Z04 rfl 50 _ rfl gc _ _ rfl Tryz.isAgg50 _ Tryz.sizeOf50 h13.drop.blk rfl ?_) | (refine Z03 rfl 50 _ _ rfl gr _ _ (acD a) rfl rfl _ Tryz.sizeOf50 h13 rfl rfl rfl ?_;intro y9 h99))
  have HF:Hid (APostX w0 (fun gk=>atA g c { x with check:=ptrV gk,at_:=7 }*(chkA gk S ck false*(tuA gt true tk true*(memA m C*(stA gs cap S*(enA ge th 3 ck*R)))))) a 14 (.returned (.tuple #[a.val,.int .i64 14])) y9):=hid ⟨gk,rfl,h99.drop.drop⟩
  exact bodyPost_ret (Z06 Tryz.results90 _ rfl Tryz.isAgg50 _ Tryz.sizeOf50 h99.blk rfl) rfl HF.out
set_option maxHeartbeats 8000000 in
theorem Z62 {gs cap ge:Nat} {S:List Int} {ck:Int} (h:Hold w0 w (atA g c x*(tuA gt true tk false*(memA m C*(stA gs cap S*(enA ge th 3 ck*R)))))) (hx:x.turn=ptrV gt) (hC:COk C) (ha:(⟨1,5,0,valC C 5 0,valC C 5 0,true⟩:Acc)=a) (heq:valC C 5 0=tk) (hxs:x.set=gs) (hxe:x.enter=ptrV ge) (hck:0≤ck∧ck≤1099511627776) (hl:S.length≤1000) (hS:S=[]) :
    Calls Tryz.prog 90 #[ptrV g,ptrV m] w (APostX (ι:=Nat) w0 (fun gk=>atA g c { x with check:=ptrV gk,at_:=8 }*(chkA gk S ck false*(tuA gt true tk true*(memA m C*(stA gs cap S*(enA ge th 3 ck*R)))))) a 14):=by
  have HX:=hid hx
  have HS0:=hid (And.intro hC ha)
  have e0:(valC C 5 0 == tk)=true:=beq_iff_eq.2 heq
  have E0:=hid e0
  have HY:=hid (And.intro hxs (And.intro hxe hS))
  clear hx hC ha heq e0 hxs hxe hS
  have H1:=hid (nb h)
  clear h
  go_enter Tryz.func90,Tryz.ntmps90
  go_upto_region 1 with fail
  have h1:=H1.out
  generalize hW:w.alloc _=W at h1 ⊢
  generalize w.heap.size=gr at h1 ⊢
  clear hW H1
  have h2:Hold w0 W (atA g c x*(tuA gt true tk false*(memA m C*(blkA 50 gr (acD acc0)*(stA gs cap S*(enA ge th 3 ck*R)))))):=h1.pk4 [1,2,3,0]
  clear h1
  have q:=h2.at_turn
  rw [HX.out] at q
  have HS:=hid (Z2j w0 W _ gt m C tk (h2.pk3 [1,2,0]) HS0.out.1)
  clear h2
  go_wp2_with fail
  refine HS.out.mono ?_
  rintro e w3 ⟨rfl,h3⟩
  rw [E0.out] at h3
  rw [HS0.out.2]
  clear HS q
  have H7:=hid (nb h3)
  clear h3
  go_upto_region 2 with (refine Z03 rfl 50 _ _ rfl w3.heap.size _ _ (acD a) rfl rfl _ Tryz.sizeOf50 H7.out rfl rfl rfl ?_;intro y2 h4)
  clear H7
  generalize w3.heap.size=gc at h4 ⊢
  have h5:Hold w0 y2 (atA g c x*(tuA gt true tk true*(memA m C*(blkA 50 gr (acD acc0)*(blkA 50 gc (acD a)*(stA gs cap S*(enA ge th 3 ck*R))))))):=h4.pk5 [3,1,2,4,0]
  clear h4
  have q:=h5.at_turn
  rw [HX.out] at q
  have qk:y2.cell? ⟨gc,0,none⟩=some (.int .i64 1):=by
    have:=(h5.pk5 [4]).blk.some_ (i:=0) (u:=.int .i64 a.kind) rfl
    rwa [show a.kind=1 by rw [← HS0.out.2]] at this
  have HD:=hid (Z4j w0 y2 _ gt _ _ _ h5.swap)
  go_wp2_with fail
  refine HD.out.mono ?_
  rintro e w' ⟨rfl,rfl⟩
  clear HD q qk
  have h6:Hold w0 y2 (stA gs cap S*(atA g c x*(enA ge th 3 ck*(tuA gt true tk true*(memA m C*(blkA 50 gr (acD acc0)*(blkA 50 gc (acD a)*R))))))):=h5.pk7 [5,0,6,1,2,3,4]
  clear h5
  have q:=h6.drop.at_set
  rw [HY.out.1] at q
  have HL:=hid (Ze2 h6 (by omega))
  clear h6
  obtain ⟨n,hn⟩:∃ n,n=S.length:=⟨_,rfl⟩
  rw [← hn] at HL
  have HN:=hid hn
  rw [← hn] at hl
  clear hn
  go_wp2_with fail
  refine HL.out.mono ?_
  rintro e w6 ⟨A1,c1,rfl,h7⟩
  clear HL q
  have h8:Hold w0 w6 (atA g c x*(enA ge th 3 ck*(queA 3 (.slice A1 n c1) (iL S)*(stA gs cap S*(tuA gt true tk true*(memA m C*(blkA 50 gr (acD acc0)*(blkA 50 gc (acD a)*R)))))))):=h7.pk4 [2,3,0,1]
  clear h7
  have HSn:=Z5k h8 HY.out.2.1 ⟨hck.1,by omega⟩
  rw [show Z3j 3 ck=ck from rfl] at HSn
  have HSn:=hid HSn
  go_wp2_with fail
  refine HSn.out.mono ?_
  rintro e w' ⟨rfl,rfl⟩
  clear HSn
  obtain ⟨-,-,-,bA,hr,-⟩:=queReads h8.drop.drop.get.choose_spec
  have HCN:=hid (Zf9 w0 w6 _ A1 n c1 bA S ck h8 hr (by omega))
  clear h8 hr
  go_wp2_with fail
  refine HCN.out.mono ?_
  rintro e w7 ⟨gk,rfl,h9⟩
  clear HCN
  have h10:Hold w0 w7 (atA g c x*(chkA gk S ck false*(tuA gt true tk true*(memA m C*(stA gs cap S*(enA ge th 3 ck*(blkA 50 gr (acD acc0)*(blkA 50 gc (acD a)*R)))))))):=h9.pk8 [1,0,5,6,4,2,7]
  clear h9
  have p1:=h10.Zml
  have z1:=h10.atZ 11
  have h11:=h10.at_check_set (ptrV gk)
  have p2:=h10.Zmg
  have z2:=h10.atZ 31
  have H12:=hid (h11.Zmf 7)
  clear h10 h11
  go_upto_region 7 with fail
  have h12:=H12.out
  generalize hW:World.setCell _ _ _=W8 at h12 ⊢
  clear hW H12 p1 z1 p2 z2
  have q:=h12.Zml
  have hcd:=Z4x w0 W8 _ gk S ck false h12.swap
  rw [show (false || S.isEmpty)=true by rw [HY.out.2.2];rfl] at hcd
  have HCD:=hid hcd
  clear hcd
  have p2:=h12.Zmg
  have z2:=h12.atZ 31
  have H13:=hid ((h12.Zmf 8).pk8 [6,7,0,1,2,3,4,5])
  clear h12
  go_wp2_with fail
  refine HCD.out.mono ?_
  rintro e w' ⟨rfl,rfl⟩
  clear HCD q
  go_upto_region 9 with fail
  have h13:=H13.out
  generalize hW:World.setCell _ _ _=W9 at h13 ⊢
  clear hW H13 p2 z2
  go_wp2_with (first | (refine Z04 rfl 50 _ rfl gc _ _ rfl Tryz.isAgg50 _ Tryz.sizeOf50 h13.drop.blk rfl ?_) | (refine Z03 rfl 50 _ _ rfl gr _ _ (acD a) rfl rfl _ Tryz.sizeOf50 h13 rfl rfl rfl ?_;intro y9 h99))
  have HF:Hid (APostX w0 (fun gk=>atA g c { x with check:=ptrV gk,at_:=8 }*(chkA gk S ck false*(tuA gt true tk true*(memA m C*(stA gs cap S*(enA ge th 3 ck*R)))))) a 14 (.returned (.tuple #[a.val,.int .i64 14])) y9):=hid ⟨gk,rfl,h99.drop.drop⟩
  exact bodyPost_ret (Z06 Tryz.results90 _ rfl Tryz.isAgg50 _ Tryz.sizeOf50 h99.blk rfl) rfl HF.out
end
end Go.Proofs.YtmlfangeanmmeaaGreatDoor
