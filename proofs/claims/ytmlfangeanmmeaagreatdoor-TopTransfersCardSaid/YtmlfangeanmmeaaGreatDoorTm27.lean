/-
  What the proof of TopTransfers leans on, part 27 of 48: At10, At11, At12, Mp. No statement of its own.
-/
import Derived.Test.YtmlfangeanmmeaaGreatDoorTm25
import Derived.Test.YtmlfangeanmmeaaGreatDoorTm26
namespace Go.Proofs.YtmlfangeanmmeaaGreatDoor
set_option maxRecDepth 8000
open Go.RowKit
set_option linter.unusedVariables false
section
variable {w0 w:World} {R R':Asr} {g m gl gk gc2:Nat} {c:Cfg} {x:AtR} {L:PL} {C C2:Nat→List Int} {a:Acc} {th sn z v rv:Int} {zs vs os old:List Int}
set_option maxHeartbeats 8000000 in
theorem Z5f (h:Hold w0 w (atA g c x*(chkA gc2 (z :: zs) rv false*(memA m C*R)))) (hx:x.check=ptrV gc2) (hC:COk C) (hz:-9223372036854775808≤z∧z≤9223372036854775807) (ha:opA C 1 2 z (valC C 2 z) true=a) (hg:0≤a.got∧a.got < 18446744073709551616) (hv:a.got / 64≤rv) (hzs:zs ≠ []) :
    Calls Tryz.prog 91 #[ptrV g,ptrV m] w (APostX (ι:=Unit) w0 (fun _=>atA g c x*(chkA gc2 zs rv false*(memA m C*R))) a 15):=by
  have HX:=hid hx
  have HS0:=hid (And.intro hC ha)
  have e0:decide (rv < a.got / 64)=false:=decide_eq_false (by omega)
  have E0:=hid e0
  have HZ:=hid hzs
  clear hzs
  clear hx hC ha e0 hv
  have H1:=hid (nb h)
  clear h
  go_enter Tryz.func91,Tryz.ntmps91
  go_upto_region 1 with fail
  have h1:=H1.out
  generalize hW:w.alloc _=W at h1 ⊢
  generalize w.heap.size=gr at h1 ⊢
  clear hW H1
  have h2:Hold w0 W (atA g c x*(chkA gc2 (z :: zs) rv false*(memA m C*(blkA 50 gr (acD acc0)*R)))):=h1.pk4 [1,2,3,0]
  clear h1
  have q:=h2.Zml
  rw [HX.out] at q
  have HS:=hid (Z6e w0 W _ gc2 m C z zs rv (h2.pk3 [1,2,0]) HS0.out.1 hz (by rw [HS0.out.2];exact hg))
  clear h2
  go_wp2_with fail
  refine HS.out.mono ?_
  rintro e w3 ⟨rfl,h3⟩
  rw [HS0.out.2,E0.out] at h3
  rw [HS0.out.2]
  clear HS q
  have H7:=hid (nb h3)
  clear h3
  go_upto_region 2 with (refine Z03 rfl 50 _ _ rfl w3.heap.size _ _ (acD a) rfl rfl _ Tryz.sizeOf50 H7.out rfl rfl rfl ?_;intro y2 h4)
  clear H7
  generalize w3.heap.size=gc at h4 ⊢
  have h5:Hold w0 y2 (atA g c x*(chkA gc2 zs rv false*(memA m C*(blkA 50 gr (acD acc0)*(blkA 50 gc (acD a)*R))))):=h4.pk5 [3,1,2,4,0]
  clear h4
  have q:=h5.Zml
  rw [HX.out] at q
  have HD:=hid (Z3x w0 y2 _ gc2 _ _ _ h5.swap)
  have hd:=Z4x w0 y2 _ gc2 _ _ _ h5.swap
  rw [show (false || zs.isEmpty)=false by cases zs with | nil=>exact absurd rfl HZ.out | cons a l=>rfl] at hd
  have HD2:=hid hd
  clear hd
  have h10:Hold w0 y2 (blkA 50 gr (acD acc0)*(blkA 50 gc (acD a)*(atA g c x*(chkA gc2 zs rv false*(memA m C*R))))):=h5.pk5 [3,4,0,1,2]
  clear h5
  go_upto_region 7 with (first | (refine HD.out.mono ?_;rintro e w' ⟨rfl,rfl⟩) | (refine HD2.out.mono ?_;rintro e w' ⟨rfl,rfl⟩))
  clear HD HD2 q
  go_wp2_with (first | (refine Z04 rfl 50 _ rfl gc _ _ rfl Tryz.isAgg50 _ Tryz.sizeOf50 h10.drop.blk rfl ?_) | (refine Z03 rfl 50 _ _ rfl gr _ _ (acD a) rfl rfl _ Tryz.sizeOf50 h10 rfl rfl rfl ?_;intro y9 h99))
  have HF:Hid (APostX w0 (fun _=>atA g c x*(chkA gc2 zs rv false*(memA m C*R))) a 15 (.returned (.tuple #[a.val,.int .i64 15])) y9):=hid ⟨(),rfl,h99.drop.drop⟩
  exact bodyPost_ret (Z06 Tryz.results91 _ rfl Tryz.isAgg50 _ Tryz.sizeOf50 h99.blk rfl) rfl HF.out
set_option maxHeartbeats 8000000 in
theorem Z5g (h:Hold w0 w (atA g c x*(chkA gc2 (z :: zs) rv false*(memA m C*R)))) (hx:x.check=ptrV gc2) (hC:COk C) (hz:-9223372036854775808≤z∧z≤9223372036854775807) (ha:opA C 1 2 z (valC C 2 z) true=a) (hg:0≤a.got∧a.got < 18446744073709551616) (hv:a.got / 64≤rv) (hzs:zs=[]) :
    Calls Tryz.prog 91 #[ptrV g,ptrV m] w (APostX (ι:=Unit) w0 (fun _=>atA g c { x with at_:=8 }*(chkA gc2 zs rv false*(memA m C*R))) a 15):=by
  have HX:=hid hx
  have HS0:=hid (And.intro hC ha)
  have e0:decide (rv < a.got / 64)=false:=decide_eq_false (by omega)
  have E0:=hid e0
  have HZ:=hid hzs
  clear hzs
  clear hx hC ha e0 hv
  have H1:=hid (nb h)
  clear h
  go_enter Tryz.func91,Tryz.ntmps91
  go_upto_region 1 with fail
  have h1:=H1.out
  generalize hW:w.alloc _=W at h1 ⊢
  generalize w.heap.size=gr at h1 ⊢
  clear hW H1
  have h2:Hold w0 W (atA g c x*(chkA gc2 (z :: zs) rv false*(memA m C*(blkA 50 gr (acD acc0)*R)))):=h1.pk4 [1,2,3,0]
  clear h1
  have q:=h2.Zml
  rw [HX.out] at q
  have HS:=hid (Z6e w0 W _ gc2 m C z zs rv (h2.pk3 [1,2,0]) HS0.out.1 hz (by rw [HS0.out.2];exact hg))
  clear h2
  go_wp2_with fail
  refine HS.out.mono ?_
  rintro e w3 ⟨rfl,h3⟩
  rw [HS0.out.2,E0.out] at h3
  rw [HS0.out.2]
  clear HS q
  have H7:=hid (nb h3)
  clear h3
  go_upto_region 2 with (refine Z03 rfl 50 _ _ rfl w3.heap.size _ _ (acD a) rfl rfl _ Tryz.sizeOf50 H7.out rfl rfl rfl ?_;intro y2 h4)
  clear H7
  generalize w3.heap.size=gc at h4 ⊢
  have h5:Hold w0 y2 (atA g c x*(chkA gc2 zs rv false*(memA m C*(blkA 50 gr (acD acc0)*(blkA 50 gc (acD a)*R))))):=h4.pk5 [3,1,2,4,0]
  clear h4
  have q:=h5.Zml
  rw [HX.out] at q
  have HD:=hid (Z3x w0 y2 _ gc2 _ _ _ h5.swap)
  have hd:=Z4x w0 y2 _ gc2 _ _ _ h5.swap
  rw [show (false || zs.isEmpty)=true by rw [HZ.out];rfl] at hd
  have HD2:=hid hd
  clear hd
  have p1:=h5.Zmg
  have z1:=h5.atZ 31
  have H6:=hid ((h5.Zmf 8).pk5 [3,4,0,1,2])
  clear h5
  go_upto_region 7 with (first | (refine HD.out.mono ?_;rintro e w' ⟨rfl,rfl⟩) | (refine HD2.out.mono ?_;rintro e w' ⟨rfl,rfl⟩))
  have h10:=H6.out
  generalize hW:World.setCell _ _ _=W9 at h10 ⊢
  clear hW H6 p1 z1 HD HD2 q
  go_wp2_with (first | (refine Z04 rfl 50 _ rfl gc _ _ rfl Tryz.isAgg50 _ Tryz.sizeOf50 h10.drop.blk rfl ?_) | (refine Z03 rfl 50 _ _ rfl gr _ _ (acD a) rfl rfl _ Tryz.sizeOf50 h10 rfl rfl rfl ?_;intro y9 h99))
  have HF:Hid (APostX w0 (fun _=>atA g c { x with at_:=8 }*(chkA gc2 zs rv false*(memA m C*R))) a 15 (.returned (.tuple #[a.val,.int .i64 15])) y9):=hid ⟨(),rfl,h99.drop.drop⟩
  exact bodyPost_ret (Z06 Tryz.results91 _ rfl Tryz.isAgg50 _ Tryz.sizeOf50 h99.blk rfl) rfl HF.out
set_option maxHeartbeats 8000000 in
theorem Z5i (h:Hold w0 w (atA g c x*(chkA gc2 (z :: zs) rv false*(memA m C*R)))) (hx:x.check=ptrV gc2) (hC:COk C) (hz:-9223372036854775808≤z∧z≤9223372036854775807) (ha:opA C 1 2 z (valC C 2 z) true=a) (hg:0≤a.got∧a.got < 18446744073709551616) (hv:rv < a.got / 64) (hxo:x.orecs = .slice none 0 0) :
    Calls Tryz.prog 91 #[ptrV g,ptrV m] w (APostX (ι:=Unit) w0 (fun _=>atA g c { x with code:=9,at_:=12 }*(chkA gc2 zs rv true*(memA m C*R))) a 15):=by
  have HX:=hid hx
  have HS0:=hid (And.intro hC ha)
  have e0:decide (rv < a.got / 64)=true:=decide_eq_true (by omega)
  have E0:=hid e0
  have HO:=hid hxo
  clear hxo
  clear hx hC ha e0 hv
  have H1:=hid (nb h)
  clear h
  go_enter Tryz.func91,Tryz.ntmps91
  go_upto_region 1 with fail
  have h1:=H1.out
  generalize hW:w.alloc _=W at h1 ⊢
  generalize w.heap.size=gr at h1 ⊢
  clear hW H1
  have h2:Hold w0 W (atA g c x*(chkA gc2 (z :: zs) rv false*(memA m C*(blkA 50 gr (acD acc0)*R)))):=h1.pk4 [1,2,3,0]
  clear h1
  have q:=h2.Zml
  rw [HX.out] at q
  have HS:=hid (Z6e w0 W _ gc2 m C z zs rv (h2.pk3 [1,2,0]) HS0.out.1 hz (by rw [HS0.out.2];exact hg))
  clear h2
  go_wp2_with fail
  refine HS.out.mono ?_
  rintro e w3 ⟨rfl,h3⟩
  rw [HS0.out.2,E0.out] at h3
  rw [HS0.out.2]
  clear HS q
  have H7:=hid (nb h3)
  clear h3
  go_upto_region 2 with (refine Z03 rfl 50 _ _ rfl w3.heap.size _ _ (acD a) rfl rfl _ Tryz.sizeOf50 H7.out rfl rfl rfl ?_;intro y2 h4)
  clear H7
  generalize w3.heap.size=gc at h4 ⊢
  have h5:Hold w0 y2 (atA g c x*(chkA gc2 zs rv true*(memA m C*(blkA 50 gr (acD acc0)*(blkA 50 gc (acD a)*R))))):=h4.pk5 [3,1,2,4,0]
  clear h4
  have q:=h5.Zml
  rw [HX.out] at q
  have HD:=hid (Z3x w0 y2 _ gc2 _ _ _ h5.swap)
  have p1:=h5.at_code
  have z1:=h5.atZ 30
  have H6:=hid (h5.at_code_set 9)
  clear h5
  go_upto_region 4 with (first | (refine HD.out.mono ?_;rintro e w' ⟨rfl,rfl⟩))
  have h6:=H6.out
  generalize hW:World.setCell _ _ _=W6 at h6 ⊢
  clear hW H6 p1 z1 HD q
  have HR:=hid (Z72 h6 HO.out)
  clear h6
  go_wp2_with fail
  refine HR.out.mono ?_
  rintro e w7 ⟨rfl,h7⟩
  clear HR
  have h10:Hold w0 w7 (blkA 50 gr (acD acc0)*(blkA 50 gc (acD a)*(atA g c { x with code:=9,at_:=12 }*(chkA gc2 zs rv true*(memA m C*R))))):=h7.pk5 [3,4,0,1,2]
  clear h7
  go_upto_region 7 with fail
  go_wp2_with (first | (refine Z04 rfl 50 _ rfl gc _ _ rfl Tryz.isAgg50 _ Tryz.sizeOf50 h10.drop.blk rfl ?_) | (refine Z03 rfl 50 _ _ rfl gr _ _ (acD a) rfl rfl _ Tryz.sizeOf50 h10 rfl rfl rfl ?_;intro y9 h99))
  have HF:Hid (APostX w0 (fun _=>atA g c { x with code:=9,at_:=12 }*(chkA gc2 zs rv true*(memA m C*R))) a 15 (.returned (.tuple #[a.val,.int .i64 15])) y9):=hid ⟨(),rfl,h99.drop.drop⟩
  exact bodyPost_ret (Z06 Tryz.results91 _ rfl Tryz.isAgg50 _ Tryz.sizeOf50 h99.blk rfl) rfl HF.out
set_option maxHeartbeats 8000000 in
theorem Z5h {A1:Option Addr} {n cp:Nat} (h:Hold w0 w (atA g c x*(chkA gc2 (z :: zs) rv false*(memA m C*(lkA gk th os old false sn*(queA 3 (.slice A1 n cp) (iL os)*R)))))) (hx:x.check=ptrV gc2) (hC:COk C) (hz:-9223372036854775808≤z∧z≤9223372036854775807) (ha:opA C 1 2 z (valC C 2 z) true=a) (hg:0≤a.got∧a.got < 18446744073709551616) (hv:rv < a.got / 64) (hxo:x.orecs = .slice A1 n cp) (hk:x.lock=ptrV gk) (hn:os.length=n) (h0:0 < n) (hn2:n≤1000) (hol:old.length=n) :
    Calls Tryz.prog 91 #[ptrV g,ptrV m] w (APostX (ι:=Nat) w0 (fun gr2=>atA g c { x with code:=9,at_:=10,release:=ptrV gr2 }*(reA gr2 os old*(lkA gk th os old false sn*(queA 3 (.slice A1 n cp) (iL os)*(chkA gc2 zs rv true*(memA m C*R)))))) a 15):=by
  have HX:=hid hx
  have HS0:=hid (And.intro hC ha)
  have e0:decide (rv < a.got / 64)=true:=decide_eq_true (by omega)
  have E0:=hid e0
  have HO:=hid (And.intro hxo (And.intro hk (And.intro hn hol)))
  clear hxo hk hn hol
  clear hx hC ha e0 hv
  have H1:=hid (nb h)
  clear h
  go_enter Tryz.func91,Tryz.ntmps91
  go_upto_region 1 with fail
  have h1:=H1.out
  generalize hW:w.alloc _=W at h1 ⊢
  generalize w.heap.size=gr at h1 ⊢
  clear hW H1
  have h2:Hold w0 W (atA g c x*(chkA gc2 (z :: zs) rv false*(memA m C*(blkA 50 gr (acD acc0)*(lkA gk th os old false sn*(queA 3 (.slice A1 n cp) (iL os)*R)))))):=h1.pk4 [1,2,3,0]
  clear h1
  have q:=h2.Zml
  rw [HX.out] at q
  have HS:=hid (Z6e w0 W _ gc2 m C z zs rv (h2.pk3 [1,2,0]) HS0.out.1 hz (by rw [HS0.out.2];exact hg))
  clear h2
  go_wp2_with fail
  refine HS.out.mono ?_
  rintro e w3 ⟨rfl,h3⟩
  rw [HS0.out.2,E0.out] at h3
  rw [HS0.out.2]
  clear HS q
  have H7:=hid (nb h3)
  clear h3
  go_upto_region 2 with (refine Z03 rfl 50 _ _ rfl w3.heap.size _ _ (acD a) rfl rfl _ Tryz.sizeOf50 H7.out rfl rfl rfl ?_;intro y2 h4)
  clear H7
  generalize w3.heap.size=gc at h4 ⊢
  have h5:Hold w0 y2 (atA g c x*(chkA gc2 zs rv true*(memA m C*(blkA 50 gr (acD acc0)*(blkA 50 gc (acD a)*(lkA gk th os old false sn*(queA 3 (.slice A1 n cp) (iL os)*R))))))):=h4.pk5 [3,1,2,4,0]
  clear h4
  have q:=h5.Zml
  rw [HX.out] at q
  have HD:=hid (Z3x w0 y2 _ gc2 _ _ _ h5.swap)
  have p1:=h5.at_code
  have z1:=h5.atZ 30
  have H6:=hid (h5.at_code_set 9)
  clear h5
  go_upto_region 4 with (first | (refine HD.out.mono ?_;rintro e w' ⟨rfl,rfl⟩))
  have h6:=H6.out
  generalize hW:World.setCell _ _ _=W6 at h6 ⊢
  clear hW H6 p1 z1 HD q
  have h6b:Hold w0 W6 (atA g c { x with code:=9 }*(lkA gk th os old false sn*(queA 3 (.slice A1 n cp) (iL os)*(chkA gc2 zs rv true*(memA m C*(blkA 50 gr (acD acc0)*(blkA 50 gc (acD a)*R))))))):=h6.pk7 [0,5,6,1,2,3,4]
  clear h6
  have HR:=hid (Zbs h6b HO.out.1 HO.out.2.1 HO.out.2.2.1 h0 hn2 HO.out.2.2.2)
  clear h6b
  go_wp2_with fail
  refine HR.out.mono ?_
  rintro e w7 ⟨gr2,rfl,h7⟩
  clear HR
  have h10:Hold w0 w7 (blkA 50 gr (acD acc0)*(blkA 50 gc (acD a)*(atA g c { x with code:=9,at_:=10,release:=ptrV gr2 }*(reA gr2 os old*(lkA gk th os old false sn*(queA 3 (.slice A1 n cp) (iL os)*(chkA gc2 zs rv true*(memA m C*R)))))))):=h7.pk8 [6,7,0,1,2,3,4,5]
  clear h7
  go_upto_region 7 with fail
  go_wp2_with (first | (refine Z04 rfl 50 _ rfl gc _ _ rfl Tryz.isAgg50 _ Tryz.sizeOf50 h10.drop.blk rfl ?_) | (refine Z03 rfl 50 _ _ rfl gr _ _ (acD a) rfl rfl _ Tryz.sizeOf50 h10 rfl rfl rfl ?_;intro y9 h99))
  have HF:Hid (APostX w0 (fun gr2=>atA g c { x with code:=9,at_:=10,release:=ptrV gr2 }*(reA gr2 os old*(lkA gk th os old false sn*(queA 3 (.slice A1 n cp) (iL os)*(chkA gc2 zs rv true*(memA m C*R)))))) a 15 (.returned (.tuple #[a.val,.int .i64 15])) y9):=hid ⟨gr2,rfl,h99.drop.drop⟩
  exact bodyPost_ret (Z06 Tryz.results91 _ rfl Tryz.isAgg50 _ Tryz.sizeOf50 h99.blk rfl) rfl HF.out
set_option maxHeartbeats 8000000 in
theorem Z29 (h:Hold w0 w (atA g c x*(reA gk (z :: zs) (v :: vs)*(memA m C*R)))) (hx:x.release=ptrV gk) (hC:COk C) (hz:-9223372036854775808≤z∧z≤9223372036854775807) (ha:opA C 2 2 z v true=a) (hC2:opC C 2 z v true=C2) (hzs:zs ≠ []) :
    Calls Tryz.prog 94 #[ptrV g,ptrV m] w (APostX (ι:=Unit) w0 (fun _=>atA g c x*(reA gk zs vs*(memA m C2*R))) a 18):=by
  have HX:=hid hx
  have HS0:=hid (And.intro hC (And.intro ha hC2))
  have HZ:=hid hzs
  clear hx hC ha hC2 hzs
  have H1:=hid (nb h)
  clear h
  go_enter Tryz.func94,Tryz.ntmps94
  go_upto_region 1 with fail
  have h1:=H1.out
  generalize hW:w.alloc _=W at h1 ⊢
  generalize w.heap.size=gr at h1 ⊢
  clear hW H1
  have h2:Hold w0 W (atA g c x*(reA gk (z :: zs) (v :: vs)*(memA m C*(blkA 50 gr (acD acc0)*R)))):=h1.pk4 [1,2,3,0]
  clear h1
  have q:=h2.at_release
  rw [HX.out] at q
  have HS:=hid (Zaq w0 W _ gk m C z v zs vs (h2.pk3 [1,2,0]) HS0.out.1 hz)
  clear h2
  go_wp2_with fail
  refine HS.out.mono ?_
  rintro e w3 ⟨rfl,h3⟩
  rw [HS0.out.2.2] at h3
  rw [HS0.out.2.1]
  clear HS q
  have H7:=hid (nb h3)
  clear h3
  go_upto_region 2 with (refine Z03 rfl 50 _ _ rfl w3.heap.size _ _ (acD a) rfl rfl _ Tryz.sizeOf50 H7.out rfl rfl rfl ?_;intro y2 h4)
  clear H7
  generalize w3.heap.size=gc at h4 ⊢
  have h5:Hold w0 y2 (atA g c x*(reA gk zs vs*(memA m C2*(blkA 50 gr (acD acc0)*(blkA 50 gc (acD a)*R))))):=h4.pk5 [3,1,2,4,0]
  clear h4
  have q:=h5.at_release
  rw [HX.out] at q
  have hd:=Z7z w0 y2 _ gk _ _ h5.swap
  rw [show zs.isEmpty=false by cases zs with | nil=>exact absurd rfl HZ.out | cons a l=>rfl] at hd
  have HD:=hid hd
  clear hd
  have h10:Hold w0 y2 (blkA 50 gr (acD acc0)*(blkA 50 gc (acD a)*(atA g c x*(reA gk zs vs*(memA m C2*R))))):=h5.pk5 [3,4,0,1,2]
  clear h5
  go_upto_region 6 with (first | (refine HD.out.mono ?_;rintro e w' ⟨rfl,rfl⟩))
  clear HD q
  go_wp2_with (first | (refine Z04 rfl 50 _ rfl gc _ _ rfl Tryz.isAgg50 _ Tryz.sizeOf50 h10.drop.blk rfl ?_) | (refine Z03 rfl 50 _ _ rfl gr _ _ (acD a) rfl rfl _ Tryz.sizeOf50 h10 rfl rfl rfl ?_;intro y9 h99))
  have HF:Hid (APostX w0 (fun _=>atA g c x*(reA gk zs vs*(memA m C2*R))) a 18 (.returned (.tuple #[a.val,.int .i64 18])) y9):=hid ⟨(),rfl,h99.drop.drop⟩
  exact bodyPost_ret (Z06 Tryz.results94 _ rfl Tryz.isAgg50 _ Tryz.sizeOf50 h99.blk rfl) rfl HF.out
set_option maxHeartbeats 8000000 in
theorem Z45 (h:Hold w0 w (atA g c x*(reA gk (z :: zs) (v :: vs)*(memA m C*(lgA gl L*R))))) (hx:x.release=ptrV gk) (hC:COk C) (hz:-9223372036854775808≤z∧z≤9223372036854775807) (ha:opA C 2 2 z v true=a) (hC2:opC C 2 z v true=C2) (hzs:zs=[]) (hxl:x.log=gl) (hck:0≤x.clock∧x.clock≤1099511627776) (hd:x.decided=true) (hcd:x.code=1) (hL:0 < L.addrs.length) :
    Calls Tryz.prog 94 #[ptrV g,ptrV m] w (APostX (ι:=Unit) w0 (fun _=>atA g c { x with at_:=11 }*(reA gk zs vs*(memA m C2*(lgA gl L*R)))) a 18):=by
  have HX:=hid hx
  have HS0:=hid (And.intro hC (And.intro ha hC2))
  have HZ:=hid hzs
  have HL:=hid hxl
  have HY:=hid (And.intro hd (And.intro hcd hL))
  clear hxl hd hcd hL
  clear hx hC ha hC2 hzs
  have H1:=hid (nb h)
  clear h
  go_enter Tryz.func94,Tryz.ntmps94
  go_upto_region 1 with fail
  have h1:=H1.out
  generalize hW:w.alloc _=W at h1 ⊢
  generalize w.heap.size=gr at h1 ⊢
  clear hW H1
  have h2:Hold w0 W (atA g c x*(reA gk (z :: zs) (v :: vs)*(memA m C*(blkA 50 gr (acD acc0)*(lgA gl L*R))))):=h1.pk4 [1,2,3,0]
  clear h1
  have q:=h2.at_release
  rw [HX.out] at q
  have HS:=hid (Zaq w0 W _ gk m C z v zs vs (h2.pk3 [1,2,0]) HS0.out.1 hz)
  clear h2
  go_wp2_with fail
  refine HS.out.mono ?_
  rintro e w3 ⟨rfl,h3⟩
  rw [HS0.out.2.2] at h3
  rw [HS0.out.2.1]
  clear HS q
  have H7:=hid (nb h3)
  clear h3
  go_upto_region 2 with (refine Z03 rfl 50 _ _ rfl w3.heap.size _ _ (acD a) rfl rfl _ Tryz.sizeOf50 H7.out rfl rfl rfl ?_;intro y2 h4)
  clear H7
  generalize w3.heap.size=gc at h4 ⊢
  have h5:Hold w0 y2 (atA g c x*(reA gk zs vs*(memA m C2*(blkA 50 gr (acD acc0)*(blkA 50 gc (acD a)*(lgA gl L*R)))))):=h4.pk5 [3,1,2,4,0]
  clear h4
  have q:=h5.at_release
  rw [HX.out] at q
  have hd:=Z7z w0 y2 _ gk _ _ h5.swap
  rw [show zs.isEmpty=true by rw [HZ.out];rfl] at hd
  have HD:=hid hd
  clear hd
  have p1:=h5.Zmg
  have z1:=h5.atZ 31
  have H6:=hid (h5.Zmf 12)
  clear h5
  go_upto_region 4 with (first | (refine HD.out.mono ?_;rintro e w' ⟨rfl,rfl⟩))
  have h6:=H6.out
  generalize hW:World.setCell _ _ _=W6 at h6 ⊢
  clear hW H6 p1 z1 HD q
  have hvs:=Z5a (h6.pk6 [0,5,1,2,3,4]) HL.out hck
  rw [show ({ x with at_:=12 }:AtR).clock=x.clock from rfl,if_pos HY.out] at hvs
  have HV:=hid hvs
  clear hvs
  have e1:decide (0≤x.clock + 1)=true:=decide_eq_true (by omega)
  have p1:=h6.Zmg
  have z1:=h6.atZ 31
  have H7:=hid ((h6.Zmf 11).pk5 [3,4,0,1,2])
  clear h6
  go_upto_region 6 with (first | (refine HV.out.mono ?_;rintro e w' ⟨rfl,rfl⟩))
  have h10:=H7.out
  generalize hW:World.setCell _ _ _=W7 at h10 ⊢
  clear hW H7 p1 z1 HV e1
  go_wp2_with (first | (refine Z04 rfl 50 _ rfl gc _ _ rfl Tryz.isAgg50 _ Tryz.sizeOf50 h10.drop.blk rfl ?_) | (refine Z03 rfl 50 _ _ rfl gr _ _ (acD a) rfl rfl _ Tryz.sizeOf50 h10 rfl rfl rfl ?_;intro y9 h99))
  have HF:Hid (APostX w0 (fun _=>atA g c { x with at_:=11 }*(reA gk zs vs*(memA m C2*(lgA gl L*R)))) a 18 (.returned (.tuple #[a.val,.int .i64 18])) y9):=hid ⟨(),rfl,h99.drop.drop⟩
  exact bodyPost_ret (Z06 Tryz.results94 _ rfl Tryz.isAgg50 _ Tryz.sizeOf50 h99.blk rfl) rfl HF.out
set_option maxHeartbeats 8000000 in
theorem Z4g (h:Hold w0 w (atA g c x*(reA gk (z :: zs) (v :: vs)*(memA m C*(lgA gl L*R))))) (hx:x.release=ptrV gk) (hC:COk C) (hz:-9223372036854775808≤z∧z≤9223372036854775807) (ha:opA C 2 2 z v true=a) (hC2:opC C 2 z v true=C2) (hzs:zs=[]) (hxl:x.log=gl) (hck:0≤x.clock∧x.clock≤1099511627776) (hno:¬ (x.decided=true∧x.code=1∧0 < L.addrs.length)) :
    Calls Tryz.prog 94 #[ptrV g,ptrV m] w (APostX (ι:=Unit) w0 (fun _=>atA g c { x with at_:=12 }*(reA gk zs vs*(memA m C2*(lgA gl L*R)))) a 18):=by
  have HX:=hid hx
  have HS0:=hid (And.intro hC (And.intro ha hC2))
  have HZ:=hid hzs
  have HL:=hid hxl
  have HY:=hid hno
  clear hxl hno
  clear hx hC ha hC2 hzs
  have H1:=hid (nb h)
  clear h
  go_enter Tryz.func94,Tryz.ntmps94
  go_upto_region 1 with fail
  have h1:=H1.out
  generalize hW:w.alloc _=W at h1 ⊢
  generalize w.heap.size=gr at h1 ⊢
  clear hW H1
  have h2:Hold w0 W (atA g c x*(reA gk (z :: zs) (v :: vs)*(memA m C*(blkA 50 gr (acD acc0)*(lgA gl L*R))))):=h1.pk4 [1,2,3,0]
  clear h1
  have q:=h2.at_release
  rw [HX.out] at q
  have HS:=hid (Zaq w0 W _ gk m C z v zs vs (h2.pk3 [1,2,0]) HS0.out.1 hz)
  clear h2
  go_wp2_with fail
  refine HS.out.mono ?_
  rintro e w3 ⟨rfl,h3⟩
  rw [HS0.out.2.2] at h3
  rw [HS0.out.2.1]
  clear HS q
  have H7:=hid (nb h3)
  clear h3
  go_upto_region 2 with (refine Z03 rfl 50 _ _ rfl w3.heap.size _ _ (acD a) rfl rfl _ Tryz.sizeOf50 H7.out rfl rfl rfl ?_;intro y2 h4)
  clear H7
  generalize w3.heap.size=gc at h4 ⊢
  have h5:Hold w0 y2 (atA g c x*(reA gk zs vs*(memA m C2*(blkA 50 gr (acD acc0)*(blkA 50 gc (acD a)*(lgA gl L*R)))))):=h4.pk5 [3,1,2,4,0]
  clear h4
  have q:=h5.at_release
  rw [HX.out] at q
  have hd:=Z7z w0 y2 _ gk _ _ h5.swap
  rw [show zs.isEmpty=true by rw [HZ.out];rfl] at hd
  have HD:=hid hd
  clear hd
  have p1:=h5.Zmg
  have z1:=h5.atZ 31
  have H6:=hid (h5.Zmf 12)
  clear h5
  go_upto_region 4 with (first | (refine HD.out.mono ?_;rintro e w' ⟨rfl,rfl⟩))
  have h6:=H6.out
  generalize hW:World.setCell _ _ _=W6 at h6 ⊢
  clear hW H6 p1 z1 HD q
  have hvs:=Z5a (h6.pk6 [0,5,1,2,3,4]) HL.out hck
  rw [if_neg HY.out] at hvs
  have HV:=hid hvs
  clear hvs
  have h10:Hold w0 W6 (blkA 50 gr (acD acc0)*(blkA 50 gc (acD a)*(atA g c { x with at_:=12 }*(reA gk zs vs*(memA m C2*(lgA gl L*R)))))):=h6.pk5 [3,4,0,1,2]
  clear h6
  go_upto_region 6 with (first | (refine HV.out.mono ?_;rintro e w' ⟨rfl,rfl⟩))
  clear HV
  go_wp2_with (first | (refine Z04 rfl 50 _ rfl gc _ _ rfl Tryz.isAgg50 _ Tryz.sizeOf50 h10.drop.blk rfl ?_) | (refine Z03 rfl 50 _ _ rfl gr _ _ (acD a) rfl rfl _ Tryz.sizeOf50 h10 rfl rfl rfl ?_;intro y9 h99))
  have HF:Hid (APostX w0 (fun _=>atA g c { x with at_:=12 }*(reA gk zs vs*(memA m C2*(lgA gl L*R)))) a 18 (.returned (.tuple #[a.val,.int .i64 18])) y9):=hid ⟨(),rfl,h99.drop.drop⟩
  exact bodyPost_ret (Z06 Tryz.results94 _ rfl Tryz.isAgg50 _ Tryz.sizeOf50 h99.blk rfl) rfl HF.out
end
section
variable {w0 w:World} {R R':Asr} {g m gl gk gc2:Nat} {c:Cfg} {x:AtR} {L:PL} {C C2:Nat→List Int} {a:Acc} {th sn z v rv:Int} {zs vs os old:List Int}
set_option maxHeartbeats 8000000 in
theorem Z4h (h:Hold w0 w (atA g c x*(lgA gl L*(memA m C*R)))) (hx:x.log=gl) (hC:COk C) (ha:opA C 1 3 0 (valC C 3 0) true=a) (hg:0≤a.got∧a.got≤1099511627776) (hcode:x.code=1) (H:Inv L) (hL:0 < L.addrs.length) (hcl:a.got < c.clock) (hcl2:c.clock≤1099511627776) :
    Calls Tryz.prog 92 #[ptrV g,ptrV m] w (APostX (ι:=Nat) w0 (fun gk=>atA g c { x with clock:=a.got,decided:=true,at_:=9,write:=ptrV gk }*(wrA gk L.addrs L.vals*(lgA gl L*(memA m C*R)))) a 16):=by
  have HX:=hid hx
  have HS0:=hid (And.intro hC ha)
  have HCO:=hid hcode
  have HI:=hid H
  have HL:=hid hL
  have hl32:L.addrs.length≤32:=by have:=H.le;have:=H.cap32;omega
  clear hx hC ha hcode H hL
  have H1:=hid (nb h)
  clear h
  go_enter Tryz.func92,Tryz.ntmps92
  go_upto_region 1 with fail
  have h1:=H1.out
  generalize hW:w.alloc _=W at h1 ⊢
  generalize w.heap.size=gr at h1 ⊢
  clear hW H1
  have h2:Hold w0 W (memA m C*(atA g c x*(lgA gl L*(blkA 50 gr (acD acc0)*R)))):=h1.pk4 [3,1,2,0]
  clear h1
  have HLd:=hid (Z1r w0 W _ m C 3 0 h2 (by omega) HS0.out.1.len)
  clear h2
  go_wp2_with fail
  refine HLd.out.mono ?_
  rintro e w3 ⟨rfl,h3⟩
  rw [HS0.out.2]
  generalize opE C 3 0=er
  clear HLd
  have H7:=hid (nb h3)
  clear h3
  go_upto_region 2 with (refine Z03 rfl 50 _ _ rfl w3.heap.size _ _ (acD a) rfl rfl _ Tryz.sizeOf50 H7.out rfl rfl rfl ?_;intro y2 h4)
  clear H7
  generalize w3.heap.size=gc at h4 ⊢
  have h5:Hold w0 y2 (atA g c x*(lgA gl L*(memA m C*(blkA 50 gr (acD acc0)*(blkA 50 gc (acD a)*R))))):=h4.pk5 [2,3,1,4,0]
  clear h4
  have q3:=(h5.pk5 [4]).blk.some_ (i:=3) (u:=.int .u64 a.got) rfl
  have p1:=h5.at_clock
  have z1:=h5.atZ 37
  have H6:=hid (h5.at_clock_set a.got)
  clear h5
  go_upto_region 3 with fail
  have h6:=H6.out
  generalize hW:World.setCell _ _ _=W6 at h6 ⊢
  clear hW H6 p1 z1 q3
  replace h6:=h6.drew
  refine Z01 [] (by kernel_rfl) ?_
  generalize hW:W6.drew=W7 at h6 ⊢
  clear hW
  have hsv:W7.cell? ⟨g,37,none⟩=some (.int .u64 a.got)∧W7.cell? ⟨g,26,none⟩=some (.int .i64 c.clock):=⟨h6.at_clock,h6.at_clockn⟩
  refine Z05 (fun w'=>w'.cell? ⟨g,37,none⟩=some (.int .u64 a.got)∧w'.cell? ⟨g,26,none⟩=some (.int .i64 c.clock)) (fun _ _=>trivial) _ _ _ _ ?_
  refine' wbk [true] 67 hsv (fun wq hq=>?_) ?_;rotate_left
  · simp only [Z00]
    obtain ⟨q1,q2⟩:=hq
    repeat (go_big_quiet_step (fail))
    exact wpQuiet_nil rfl
  refine wbr [false,true] (fuel:=13) (fun QB hQB hQX=>?_)
  simp only [Z00]
  go_wp2_with fail
  have hst:=Z28 h6 HX.out
  rw [show (({ x with clock:=a.got }:AtR).code == 1 && decide (0 < (L.addrs.length:Int)))=true by rw [show ({ x with clock:=a.got }:AtR).code=x.code from rfl,HCO.out,decide_eq_true (p:=0 < (L.addrs.length:Int)) (by have:=HL.out;omega)];rfl] at hst
  refine hst.mono ?_
  rintro e w' ⟨rfl,rfl⟩
  clear hst
  go_wp2_with fail
  refine hQB.out _ _ hsv ?_
  clear hQB hQX QB
  have ecl:decide (c.clock≤a.got)=false:=decide_eq_false (by omega)
  have ecm:c.clock % 18446744073709551616=c.clock:=Int.emod_eq_of_lt (by omega) (by omega)
  refine' wbk [false,false,true,true,true,true,true,true,true,true,true,true,true,true,true] 67 hsv (fun wq hq=>?_) ?_;rotate_left
  · simp only [Z00]
    obtain ⟨q1,q2⟩:=hq
    repeat (go_big_quiet_step (fail))
    exact wpQuiet_nil rfl
  refine Z02 (by kernel_rfl) ?_ _
  have p1:=h6.at_decided
  have z1:=h6.atZ 38
  have H8:=hid (h6.at_decided_set true)
  clear h6 hsv ecl ecm
  go_upto_region 8 with fail
  have h8:=H8.out
  generalize hW:World.setCell _ _ _=W8 at h8 ⊢
  clear hW H8 p1 z1
  have hst:=Z28 h8 HX.out
  rw [show (({ x with clock:=a.got,decided:=true }:AtR).code == 1 && decide (0 < (L.addrs.length:Int)))=true by rw [show ({ x with clock:=a.got,decided:=true }:AtR).code=x.code from rfl,HCO.out,decide_eq_true (p:=0 < (L.addrs.length:Int)) (by have:=HL.out;omega)];rfl] at hst
  have HST:=hid hst
  clear hst
  go_upto_region 9 with (refine HST.out.mono ?_;rintro e w' ⟨rfl,rfl⟩)
  clear HST
  replace h8:=h8.drew
  obtain ⟨n,hn⟩:∃ n,n=L.addrs.length:=⟨_,rfl⟩
  have HN:=hid hn
  rw [← hn] at hl32
  clear hn
  refine Z01 [] (by kernel_rfl) ?_
  generalize hW:W8.drew=W9 at h8 ⊢
  clear hW
  have hlg:∀ (w':World) (R':Asr),Hold w0 w' (atA g c { x with clock:=a.got,decided:=true }*R')→w'.cell? ⟨g,1,none⟩=some (ptrV gl):=fun w' R' h=>by
    have q1:=h.at_log
    rw [show ({ x with clock:=a.got,decided:=true }:AtR).log=x.log from rfl,HX.out] at q1
    exact q1
  have HLG:=hid hlg
  clear hlg
  refine Z05 (fun w'=>w'.cell? ⟨g,1,none⟩=some (ptrV gl)) (fun _ _=>trivial) _ _ _ _ ?_
  refine' wbk [true,true,true,true,true,true,true,false,true,true,true,true,true] 67 (by first | exact HLG2.out _ _ h13 | exact HLG.out _ _ (h11.pk3 [1]) | exact HLG.out _ _ (h10.pk3 [2]) | exact HLG.out _ _ (h9.pk3 [1]) | exact HLG.out _ _ h8) (fun wq hq=>?_) ?_;rotate_left
  · simp only [Z00]
    repeat (go_big_quiet_step (fail))
    exact wpQuiet_nil rfl
  refine wbr [false,false,false,false,false,false,false,true] (fuel:=9) (fun QB hQB hQX=>?_)
  simp only [Z00]
  go_wp2_with fail
  have hA1:=Z8a h8.swap HI.out
  rw [← HN.out] at hA1
  refine hA1.mono ?_
  rintro e v1 ⟨A1,c1,rfl,h9'⟩
  have h9:Hold w0 v1 (lgA gl L*(atA g c { x with clock:=a.got,decided:=true }*(queA 3 (.slice A1 n c1) (L.addrs.map (Value.int .i64))*(memA m C*(blkA 50 gr (acD acc0)*(blkA 50 gc (acD a)*R)))))):=h9'.pk3 [1,2,0]
  clear h8 h9' hA1
  go_wp2_with fail
  refine hQB.out _ _ (HLG.out _ _ (h9.pk3 [1])) ?_
  clear hQB hQX QB
  refine wbr [false,false,false,false,false,false,false,false,false,false,false,false,false,true] (fuel:=8) (fun QB hQB hQX=>?_)
  simp only [Z00]
  go_wp2_with fail
  have hA2:=Zes h9 HI.out
  rw [← HN.out] at hA2
  refine hA2.mono ?_
  rintro e v2 ⟨A2,c2,rfl,h10'⟩
  have h10:Hold w0 v2 (queA 34 (.slice A2 n c2) (L.vals.map (Value.int .u64))*(queA 3 (.slice A1 n c1) (L.addrs.map (Value.int .i64))*(atA g c { x with clock:=a.got,decided:=true }*(lgA gl L*(memA m C*(blkA 50 gr (acD acc0)*(blkA 50 gc (acD a)*R))))))):=h10'.pk4 [0,3,2,1]
  clear h9 h10' hA2
  go_wp2_with fail
  refine hQB.out _ _ (HLG.out _ _ (h10.pk3 [2])) ?_
  clear hQB hQX QB
  refine wbr [false,false,false,false,false,false,false,false,false,false,false,false,false,false,true] (fuel:=7) (fun QB hQB hQX=>?_)
  simp only [Z00]
  go_wp2_with fail
  have hq1:=queReads h10.get.choose_spec
  have hq2:=queReads h10.drop.get.choose_spec
  have hvl:L.vals.length=n:=by rw [HI.out.vlen];exact HN.out.symm
  refine (Zkk w0 v2 _ A1 A2 n c1 n c2 L.addrs L.vals h10 (fun w' h'=>by obtain ⟨-,-,-,b,hr,-⟩:=queReads h'.drop.get.choose_spec;exact ⟨b,hr⟩) (fun w' h'=>by obtain ⟨-,-,-,b,hr,-⟩:=queReads h'.get.choose_spec;exact ⟨b,hr⟩) (by omega) (by omega) hq2.2.1 hq1.2.1 n (by simp)).mono ?_
  rintro e v3 ⟨gk,rfl,h11'⟩
  rw [List.take_of_length_le (by rw [← HN.out];exact Nat.le_refl _),List.take_of_length_le (by omega)] at h11'
  have h11:Hold w0 v3 (wrA gk L.addrs L.vals*(atA g c { x with clock:=a.got,decided:=true }*(lgA gl L*(memA m C*(blkA 50 gr (acD acc0)*(blkA 50 gc (acD a)*R)))))):=h11'.pk4 [0,3]
  clear h10 h11' hq1 hq2 hvl
  go_wp2_with fail
  refine hQB.out _ _ (HLG.out _ _ (h11.pk3 [1])) ?_
  clear hQB hQX QB
  refine' wbk [false,false,false,false,false,false,false,false,false,false,false,false,false,false,false,true,true] 67 (by first | exact HLG2.out _ _ h13 | exact HLG.out _ _ (h11.pk3 [1]) | exact HLG.out _ _ (h10.pk3 [2]) | exact HLG.out _ _ (h9.pk3 [1]) | exact HLG.out _ _ h8) (fun wq hq=>?_) ?_;rotate_left
  · simp only [Z00]
    repeat (go_big_quiet_step (fail))
    exact wpQuiet_nil rfl
  refine wbr [false,false,false,false,false,false,false,false,false,false,false,false,false,false,false,false,false,true] (fuel:=4) (fun QB hQB hQX=>?_)
  simp only [Z00]
  have h12:=h11.swap
  have p1:=h12.Zmg
  have z1:=h12.atZ 31
  have H13:=hid (h12.Zmf 9)
  clear h11 h12
  have hlg2:∀ (w':World) (R':Asr),Hold w0 w' (atA g c { x with clock:=a.got,decided:=true,at_:=9 }*R')→w'.cell? ⟨g,1,none⟩=some (ptrV gl):=fun w' R' h=>by
    have q1:=h.at_log
    rw [show ({ x with clock:=a.got,decided:=true,at_:=9 }:AtR).log=x.log from rfl,HX.out] at q1
    exact q1
  have HLG2:=hid hlg2
  clear hlg2
  go_wp2_with fail
  refine hQB.out _ _ (HLG2.out _ _ H13.out) ?_
  clear hQB hQX QB p1 z1
  have h13:=H13.out
  generalize hW:World.setCell _ _ _=W13 at h13 ⊢
  clear hW H13
  refine' wbk [false,false,false,false,false,false,false,false,false,false,false,false,false,false,false,false,false,false,true,true,true] 67 (by first | exact HLG2.out _ _ h13 | exact HLG.out _ _ (h11.pk3 [1]) | exact HLG.out _ _ (h10.pk3 [2]) | exact HLG.out _ _ (h9.pk3 [1]) | exact HLG.out _ _ h8) (fun wq hq=>?_) ?_;rotate_left
  · simp only [Z00]
    repeat (go_big_quiet_step (fail))
    exact wpQuiet_nil rfl
  refine wbr [false,false,false,false,false,false,false,false,false,false,false,false,false,false,false,false,false,false,false,false,false,true] (fuel:=0) (fun QB hQB hQX=>?_)
  simp only [Z00]
  have p1:=h13.at_write
  have z1:=h13.atZ 12
  have H14:=hid (h13.at_write_set (ptrV gk))
  have hl3:Hid ((W13.setCell ⟨g,12,none⟩ (ptrV gk)).cell? ⟨g,1,none⟩=some (ptrV gl)):=hid (by
    have q1:=H14.out.at_log
    rw [show ({ x with clock:=a.got,decided:=true,at_:=9,write:=ptrV gk }:AtR).log=x.log from rfl,HX.out] at q1
    exact q1)
  clear h13
  go_wp2_with fail
  refine hQB.out _ _ hl3.out ?_
  clear hQB hQX QB p1 z1 hl3
  refine Z02 (by kernel_rfl) ?_ _
  have h14:=H14.out
  generalize hW:World.setCell _ _ _=W14 at h14 ⊢
  clear hW H14
  have h15:Hold w0 W14 (blkA 50 gr (acD acc0)*(blkA 50 gc (acD a)*(atA g c { x with clock:=a.got,decided:=true,at_:=9,write:=ptrV gk }*(wrA gk L.addrs L.vals*(lgA gl L*(memA m C*R)))))):=h14.pk6 [4,5,0,1,2,3]
  clear h14
  go_upto_region 11 with fail
  go_wp2_with (first | (refine Z04 rfl 50 _ rfl gc _ _ rfl Tryz.isAgg50 _ Tryz.sizeOf50 h15.drop.blk rfl ?_) | (refine Z03 rfl 50 _ _ rfl gr _ _ (acD a) rfl rfl _ Tryz.sizeOf50 h15 rfl rfl rfl ?_;intro y9 h99))
  have HF:Hid (APostX w0 (fun gk=>atA g c { x with clock:=a.got,decided:=true,at_:=9,write:=ptrV gk }*(wrA gk L.addrs L.vals*(lgA gl L*(memA m C*R)))) a 16 (.returned (.tuple #[a.val,.int .i64 16])) y9):=hid ⟨gk,rfl,h99.drop.drop⟩
  exact bodyPost_ret (Z06 Tryz.results92 _ rfl Tryz.isAgg50 _ Tryz.sizeOf50 h99.blk rfl) rfl HF.out
set_option maxHeartbeats 8000000 in
theorem Z4y (h:Hold w0 w (atA g c x*(lgA gl L*(memA m C*R)))) (hx:x.log=gl) (hC:COk C) (ha:opA C 1 3 0 (valC C 3 0) true=a) (hg:0≤a.got∧a.got≤1099511627776) (hcode:x.code=1) (H:Inv L) (hL:L.addrs=[]) (hxo:x.orecs = .slice none 0 0) :
    Calls Tryz.prog 92 #[ptrV g,ptrV m] w (APostX (ι:=Unit) w0 (fun _=>atA g c { x with clock:=a.got,decided:=true,at_:=12 }*(lgA gl L*(memA m C*R))) a 16):=by
  have HX:=hid hx
  have HS0:=hid (And.intro hC ha)
  have HCO:=hid hcode
  have HI:=hid H
  have HL:=hid hL
  have hl32:L.addrs.length≤32:=by have:=H.le;have:=H.cap32;omega
  have HO:=hid hxo
  clear hxo
  clear hx hC ha hcode H hL
  have H1:=hid (nb h)
  clear h
  go_enter Tryz.func92,Tryz.ntmps92
  go_upto_region 1 with fail
  have h1:=H1.out
  generalize hW:w.alloc _=W at h1 ⊢
  generalize w.heap.size=gr at h1 ⊢
  clear hW H1
  have h2:Hold w0 W (memA m C*(atA g c x*(lgA gl L*(blkA 50 gr (acD acc0)*R)))):=h1.pk4 [3,1,2,0]
  clear h1
  have HLd:=hid (Z1r w0 W _ m C 3 0 h2 (by omega) HS0.out.1.len)
  clear h2
  go_wp2_with fail
  refine HLd.out.mono ?_
  rintro e w3 ⟨rfl,h3⟩
  rw [HS0.out.2]
  generalize opE C 3 0=er
  clear HLd
  have H7:=hid (nb h3)
  clear h3
  go_upto_region 2 with (refine Z03 rfl 50 _ _ rfl w3.heap.size _ _ (acD a) rfl rfl _ Tryz.sizeOf50 H7.out rfl rfl rfl ?_;intro y2 h4)
  clear H7
  generalize w3.heap.size=gc at h4 ⊢
  have h5:Hold w0 y2 (atA g c x*(lgA gl L*(memA m C*(blkA 50 gr (acD acc0)*(blkA 50 gc (acD a)*R))))):=h4.pk5 [2,3,1,4,0]
  clear h4
  have q3:=(h5.pk5 [4]).blk.some_ (i:=3) (u:=.int .u64 a.got) rfl
  have p1:=h5.at_clock
  have z1:=h5.atZ 37
  have H6:=hid (h5.at_clock_set a.got)
  clear h5
  go_upto_region 3 with fail
  have h6:=H6.out
  generalize hW:World.setCell _ _ _=W6 at h6 ⊢
  clear hW H6 p1 z1 q3
  replace h6:=h6.drew
  refine Z01 [] (by kernel_rfl) ?_
  generalize hW:W6.drew=W7 at h6 ⊢
  clear hW
  refine' wbk [true] 67 trivial (fun wq hq=>?_) ?_;rotate_left
  · simp only [Z00]
    repeat (go_big_quiet_step (fail))
    exact wpQuiet_nil rfl
  refine wbr [false,true] (fuel:=13) (fun QB hQB hQX=>?_)
  simp only [Z00]
  go_wp2_with fail
  have hst:=Z28 h6 HX.out
  rw [show (({ x with clock:=a.got }:AtR).code == 1 && decide (0 < (L.addrs.length:Int)))=false by rw [HL.out];exact Bool.and_false _] at hst
  refine hst.mono ?_
  rintro e w' ⟨rfl,rfl⟩
  clear hst
  go_wp2_with fail
  refine hQB.out _ _ trivial ?_
  clear hQB hQX QB
  refine' wbk [false,false,true,true,true,true,true,true,true,true,true,true,true,true,true] 67 trivial (fun wq hq=>?_) ?_;rotate_left
  · simp only [Z00]
    repeat (go_big_quiet_step (fail))
    exact wpQuiet_nil rfl
  refine Z02 (by kernel_rfl) ?_ _
  have p1:=h6.at_decided
  have z1:=h6.atZ 38
  have H8:=hid (h6.at_decided_set true)
  clear h6
  go_upto_region 8 with fail
  have h8:=H8.out
  generalize hW:World.setCell _ _ _=W8 at h8 ⊢
  clear hW H8 p1 z1
  have hst:=Z28 h8 HX.out
  rw [show (({ x with clock:=a.got,decided:=true }:AtR).code == 1 && decide (0 < (L.addrs.length:Int)))=false by rw [HL.out];exact Bool.and_false _] at hst
  have HST:=hid hst
  clear hst
  have HR:=hid (Z72 h8 HO.out)
  clear h8
  go_wp2_with (first | (refine HST.out.mono ?_;rintro e w' ⟨rfl,rfl⟩) | fail)
  refine HR.out.mono ?_
  rintro e w9 ⟨rfl,h9⟩
  clear HR HST
  have h10:Hold w0 w9 (blkA 50 gr (acD acc0)*(blkA 50 gc (acD a)*(atA g c { x with clock:=a.got,decided:=true,at_:=12 }*(lgA gl L*(memA m C*R))))):=h9.pk5 [3,4,0,1,2]
  clear h9
  go_upto_region 11 with fail
  go_wp2_with (first | (refine Z04 rfl 50 _ rfl gc _ _ rfl Tryz.isAgg50 _ Tryz.sizeOf50 h10.drop.blk rfl ?_) | (refine Z03 rfl 50 _ _ rfl gr _ _ (acD a) rfl rfl _ Tryz.sizeOf50 h10 rfl rfl rfl ?_;intro y9 h99))
  have HF:Hid (APostX w0 (fun _=>atA g c { x with clock:=a.got,decided:=true,at_:=12 }*(lgA gl L*(memA m C*R))) a 16 (.returned (.tuple #[a.val,.int .i64 16])) y9):=hid ⟨(),rfl,h99.drop.drop⟩
  exact bodyPost_ret (Z06 Tryz.results92 _ rfl Tryz.isAgg50 _ Tryz.sizeOf50 h99.blk rfl) rfl HF.out
end
def wdL (n k:Nat) (v:Int):List Int:=List.replicate k v++List.replicate (n - k) 0
theorem Zg1 (n:Nat) (v:Int):wdL n 0 v=List.replicate n 0:=by unfold wdL;simp
theorem Zg2 (n:Nat) (v:Int):wdL n n v=List.replicate n v:=by unfold wdL;simp
theorem Zio {n k:Nat} {v:Int} (h:k < n):(wdL n k v).set k v=wdL n (k + 1) v:=by
  apply List.ext_getElem?
  intro i
  unfold wdL
  simp only [List.getElem?_set,List.getElem?_append,List.getElem?_replicate,List.length_append,List.length_replicate]
  repeat' split
  all_goals first | rfl | omega
theorem Zkl {n k:Nat} {v:Int} (h:k < n):((wdL n k v).map (Value.int .u64))[k]?=some (.int .u64 0):=by
  rw [List.getElem?_map]
  unfold wdL
  rw [List.getElem?_append_right (by simp),List.length_replicate,Nat.sub_self,List.getElem?_replicate,if_pos (by omega)]
  rfl
section
variable {w0 w:World} {R R':Asr} {g m gl gk gc2:Nat} {c:Cfg} {x:AtR} {L:PL} {C C2:Nat→List Int} {a:Acc} {th sn z v rv V:Int} {zs vs os old:List Int}
set_option maxHeartbeats 8000000 in
theorem Z5b (h:Hold w0 w (atA g c x*(wrA gk (z :: zs) (v :: vs)*(memA m C*R)))) (hx:x.write=ptrV gk) (hC:COk C) (hz:-9223372036854775808≤z∧z≤9223372036854775807) (ha:opA C 2 1 z v true=a) (hC2:opC C 1 z v true=C2) (hzs:zs ≠ []) :
    Calls Tryz.prog 93 #[ptrV g,ptrV m] w (APostX (ι:=Unit) w0 (fun _=>atA g c x*(wrA gk zs vs*(memA m C2*R))) a 17):=by
  have HX:=hid hx
  have HS0:=hid (And.intro hC (And.intro ha hC2))
  have HZ:=hid hzs
  clear hx hC ha hC2 hzs
  have H1:=hid (nb h)
  clear h
  go_enter Tryz.func93,Tryz.ntmps93
  go_upto_region 1 with fail
  have h1:=H1.out
  generalize hW:w.alloc _=W at h1 ⊢
  generalize w.heap.size=gr at h1 ⊢
  clear hW H1
  have h2:Hold w0 W (atA g c x*(wrA gk (z :: zs) (v :: vs)*(memA m C*(blkA 50 gr (acD acc0)*R)))):=h1.pk4 [1,2,3,0]
  clear h1
  have q:=h2.at_write
  rw [HX.out] at q
  have HS:=hid (Zds w0 W _ gk m C z v zs vs (h2.pk3 [1,2,0]) HS0.out.1 hz)
  clear h2
  go_wp2_with fail
  refine HS.out.mono ?_
  rintro e w3 ⟨rfl,h3⟩
  rw [HS0.out.2.2] at h3
  rw [HS0.out.2.1]
  clear HS q
  have H7:=hid (nb h3)
  clear h3
  go_upto_region 2 with (refine Z03 rfl 50 _ _ rfl w3.heap.size _ _ (acD a) rfl rfl _ Tryz.sizeOf50 H7.out rfl rfl rfl ?_;intro y2 h4)
  clear H7
  generalize w3.heap.size=gc at h4 ⊢
  have h5:Hold w0 y2 (atA g c x*(wrA gk zs vs*(memA m C2*(blkA 50 gr (acD acc0)*(blkA 50 gc (acD a)*R))))):=h4.pk5 [3,1,2,4,0]
  clear h4
  have q:=h5.at_write
  rw [HX.out] at q
  have hd:=Za7 w0 y2 _ gk _ _ h5.swap
  rw [show zs.isEmpty=false by cases zs with | nil=>exact absurd rfl HZ.out | cons a l=>rfl] at hd
  have HD:=hid hd
  clear hd
  have h10:Hold w0 y2 (blkA 50 gr (acD acc0)*(blkA 50 gc (acD a)*(atA g c x*(wrA gk zs vs*(memA m C2*R))))):=h5.pk5 [3,4,0,1,2]
  clear h5
  go_upto_region 10 with (first | (refine HD.out.mono ?_;rintro e w' ⟨rfl,rfl⟩))
  clear HD q
  go_wp2_with (first | (refine Z04 rfl 50 _ rfl gc _ _ rfl Tryz.isAgg50 _ Tryz.sizeOf50 h10.drop.blk rfl ?_) | (refine Z03 rfl 50 _ _ rfl gr _ _ (acD a) rfl rfl _ Tryz.sizeOf50 h10 rfl rfl rfl ?_;intro y9 h99))
  have HF:Hid (APostX w0 (fun _=>atA g c x*(wrA gk zs vs*(memA m C2*R))) a 17 (.returned (.tuple #[a.val,.int .i64 17])) y9):=hid ⟨(),rfl,h99.drop.drop⟩
  exact bodyPost_ret (Z06 Tryz.results93 _ rfl Tryz.isAgg50 _ Tryz.sizeOf50 h99.blk rfl) rfl HF.out
set_option maxHeartbeats 8000000 in
theorem Z5c {A1:Option Addr} {n cp:Nat} (h:Hold w0 w (atA g c x*(wrA gk (z :: zs) (v :: vs)*(memA m C*(lgA gl L*(queA 3 (.slice A1 n cp) (iL os)*R)))))) (hx:x.write=ptrV gk) (hC:COk C) (hz:-9223372036854775808≤z∧z≤9223372036854775807) (ha:opA C 2 1 z v true=a) (hC2:opC C 1 z v true=C2) (hzs:zs=[]) (hxl:x.log=gl) (hck:0≤x.clock∧x.clock < 1099511627776) (hd:x.decided=true) (hcd:x.code=1) (hL:0 < L.addrs.length) (hxo:x.orecs = .slice A1 n cp) (hn:os.length=n) (h0:0 < n) (hn2:n≤1000) (hV:(x.clock + 1)*64=V) :
    Calls Tryz.prog 93 #[ptrV g,ptrV m] w (APostX (ι:=Nat) w0 (fun gr2=>atA g c { x with at_:=10,release:=ptrV gr2 }*(reA gr2 os (List.replicate n V)*(wrA gk zs vs*(memA m C2*(lgA gl L*(queA 3 (.slice A1 n cp) (iL os)*R)))))) a 17):=by
  have HX:=hid hx
  have HS0:=hid (And.intro hC (And.intro ha hC2))
  have HZ:=hid hzs
  have HL:=hid (And.intro hxl (And.intro hxo hn))
  have HY:=hid (And.intro hd (And.intro hcd hL))
  have HV:=hid hV
  clear hxl hd hcd hL hxo hn hV
  clear hx hC ha hC2 hzs
  have H1:=hid (nb h)
  clear h
  go_enter Tryz.func93,Tryz.ntmps93
  go_upto_region 1 with fail
  have h1:=H1.out
  generalize hW:w.alloc _=W at h1 ⊢
  generalize w.heap.size=gr at h1 ⊢
  clear hW H1
  have h2:Hold w0 W (atA g c x*(wrA gk (z :: zs) (v :: vs)*(memA m C*(blkA 50 gr (acD acc0)*(lgA gl L*(queA 3 (.slice A1 n cp) (iL os)*R)))))):=h1.pk4 [1,2,3,0]
  clear h1
  have q:=h2.at_write
  rw [HX.out] at q
  have HS:=hid (Zds w0 W _ gk m C z v zs vs (h2.pk3 [1,2,0]) HS0.out.1 hz)
  clear h2
  go_wp2_with fail
  refine HS.out.mono ?_
  rintro e w3 ⟨rfl,h3⟩
  rw [HS0.out.2.2] at h3
  rw [HS0.out.2.1]
  clear HS q
  have H7:=hid (nb h3)
  clear h3
  go_upto_region 2 with (refine Z03 rfl 50 _ _ rfl w3.heap.size _ _ (acD a) rfl rfl _ Tryz.sizeOf50 H7.out rfl rfl rfl ?_;intro y2 h4)
  clear H7
  generalize w3.heap.size=gc at h4 ⊢
  have h5:Hold w0 y2 (atA g c x*(wrA gk zs vs*(memA m C2*(blkA 50 gr (acD acc0)*(blkA 50 gc (acD a)*(lgA gl L*(queA 3 (.slice A1 n cp) (iL os)*R))))))):=h4.pk5 [3,1,2,4,0]
  clear h4
  have q:=h5.at_write
  rw [HX.out] at q
  have hd:=Za7 w0 y2 _ gk _ _ h5.swap
  rw [show zs.isEmpty=true by rw [HZ.out];rfl] at hd
  have HD:=hid hd
  clear hd
  have qo:=h5.Zmh
  rw [HL.out.2.1] at qo
  obtain ⟨iU,hiU,hzU0,hzU1,hzU2⟩:=info_parts Z8d
  go_upto_region 3 with (first | (refine HD.out.mono ?_;rintro e w' ⟨rfl,rfl⟩))
  go_wp2_with (at_make;refine wpList_make_full _ rfl _ _ 33 rfl _ 34 iU (.int .u64 0) 1 Tryz.underlying33 hiU hzU0 hzU1 .i64 .i64 (n:Int) (n:Int) n rfl rfl rfl rfl (by rw [hzU2];omega) (by unfold maxLen;omega) (Nat.le_refl _) ?_)
  intro w6 hown hgrow
  have hg6:Hold w0 w6 (numA (.slice (some ⟨y2.heap.size,0,none⟩) n n) n (List.replicate n 0)*_):=h5.make (k:=.u64) hown hgrow (Nat.le_refl _)
  rw [← Zg1 n V] at hg6
  have h6:=hg6.pk7 [1,6,0,2,3,4,5]
  clear hown hgrow hg6 h5 HD q qo
  generalize y2.heap.size=gs at h6 ⊢
  go_wp2_with fail
  go_loopw [30] (fun i wr=>∃ (k:Nat),k≤n∧i = .int .i64 (k:Int)∧Hold w0 wr (atA g c x*(lgA gl L*(numA (.slice (some ⟨gs,0,none⟩) n n) n (wdL n k V)*(wrA gk zs vs*(memA m C2*(blkA 50 gr (acD acc0)*(blkA 50 gc (acD a)*(queA 3 (.slice A1 n cp) (iL os)*R))))))))) (fun i _=>n - (intOf i).toNat)
  case atStart=>exact ⟨0,Nat.zero_le _,rfl,h6⟩
  case round =>
    clear h6
    obtain ⟨k,hk,rfl,h⟩:=hrel
    by_cases hlt:k < n
    · have e1:decide ((k:Int) < (n:Int))=true:=decide_eq_true (by omega)
      have e1':decide (k < n)=true:=decide_eq_true hlt
      have k0:(0:Int)≤(k:Int):=by omega
      have k1:(k:Int) < (n:Int):=by omega
      have hvs:=Z5a h HL.out.1 ⟨hck.1,by omega⟩
      rw [if_pos HY.out] at hvs
      have HVS:=hid hvs
      obtain ⟨g',hgs,p1,z1,hset⟩:=(h.pk3 [2,0,1]).setRow (k:=k) hlt
      obtain rfl:gs=g':=by injection hgs with e;injection e
      rw [Zkl hlt] at p1
      have h7:=(hset (.int .u64 V)).pk3 [1,2,0]
      rw [← List.map_set,Zio hlt] at h7
      have H7:=hid h7
      have HFR:=hid (fun w'=>Go.Proofs.YtmlfangeanmmeaaGreatDoor.W.free_yes w' (x.clock + 1) (by omega) (by omega))
      clear hvs hset h7 h hgs
      go_wp2_with fail
      refine HVS.out.mono ?_
      rintro e w' ⟨rfl,rfl⟩
      go_wp2_with fail
      refine (HFR.out _).mono ?_
      rintro e w' ⟨rfl,rfl⟩
      rw [HV.out]
      go_wp2_with fail
      go_roundw
      case rel=>exact ⟨k + 1,by omega,by go_num,H7.out⟩
      case measure=>simp [intOf];omega
    · obtain rfl:k=n:=by omega
      have e1:decide ((k:Int) < (k:Int))=false:=decide_eq_false (by omega)
      rw [Zg2] at h
      go_upto_region 9 with fail
      have qo:=h.Zmh
      rw [HL.out.2.1] at qo
      have hra:∀ w',Hold w0 w' (atA g c x*(lgA gl L*(numA (.slice (some ⟨gs,0,none⟩) k k) k (List.replicate k V)*(wrA gk zs vs*(memA m C2*(blkA 50 gr (acD acc0)*(blkA 50 gc (acD a)*(queA 3 (.slice A1 k cp) (iL os)*R))))))))→∃ b,Reads w' b A1 k (os.map (Value.int .i64)):=fun w' h'=>by
        obtain ⟨-,-,-,b,hr,-⟩:=queReads h'.drop.drop.drop.drop.drop.drop.drop.get.choose_spec
        exact ⟨b,hr⟩
      have hcp:k≤cp:=(queReads h.drop.drop.drop.drop.drop.drop.drop.get.choose_spec).2.1
      have hrn:=Zi8 w0 _ _ A1 (some ⟨gs,0,none⟩) k cp k k os (List.replicate k V) h hra (fun w' h'=>⟨_,(h'.pk3 [2]).rowReads⟩) hn2 hn2 hcp (Nat.le_refl _) k (by simp)
      rw [List.take_of_length_le (by rw [HL.out.2.2];exact Nat.le_refl _),List.take_of_length_le (by simp)] at hrn
      have HRN:=hid hrn
      clear hra hrn hcp h
      go_wp2_with fail
      refine HRN.out.mono ?_
      rintro e w3 ⟨gr2,rfl,h3'⟩
      have h3:=h3'.pk3 [1,0,2]
      clear HRN h3' qo
      have p1:=h3.Zmg
      have z1:=h3.atZ 31
      have h4:=h3.Zmf 10
      have p2:=h4.at_release
      have z2:=h4.atZ 13
      have H5:=hid (h4.at_release_set (ptrV gr2))
      clear h3 h4
      go_upto_region 10 with fail
      have h6:=H5.out
      generalize hW:World.setCell _ _ _=W5 at h6 ⊢
      clear hW H5 p1 z1 p2 z2
      have h10:Hold w0 W5 (blkA 50 gr (acD acc0)*(blkA 50 gc (acD a)*(atA g c { x with at_:=10,release:=ptrV gr2 }*(reA gr2 os (List.replicate k V)*(wrA gk zs vs*(memA m C2*(lgA gl L*(queA 3 (.slice A1 k cp) (iL os)*R)))))))):=h6.pk9 [6,7,0,1,4,5,2,8]
      clear h6
      go_wp2_with (first | (refine Z04 rfl 50 _ rfl gc _ _ rfl Tryz.isAgg50 _ Tryz.sizeOf50 h10.drop.blk rfl ?_) | (refine Z03 rfl 50 _ _ rfl gr _ _ (acD a) rfl rfl _ Tryz.sizeOf50 h10 rfl rfl rfl ?_;intro y9 h99))
      have HF:Hid (APostX w0 (fun gr2=>atA g c { x with at_:=10,release:=ptrV gr2 }*(reA gr2 os (List.replicate k V)*(wrA gk zs vs*(memA m C2*(lgA gl L*(queA 3 (.slice A1 k cp) (iL os)*R)))))) a 17 (.returned (.tuple #[a.val,.int .i64 17])) y9):=hid ⟨gr2,rfl,h99.drop.drop⟩
      exact bodyPost_ret (Z06 Tryz.results93 _ rfl Tryz.isAgg50 _ Tryz.sizeOf50 h99.blk rfl) rfl HF.out
end
end Go.Proofs.YtmlfangeanmmeaaGreatDoor
namespace Go.Proofs.YtmlfangeanmmeaaGreatDoor
set_option maxRecDepth 8000
open Go
set_option linter.unusedVariables false
section
variable {C:Cells} {k k' i j v:Int} {d:Bool}
theorem Z6u (h:hasC C k i):1≤k∧k≤8:=by
  unfold hasC getC at h
  by_cases hk:1≤k∧k≤8
  · exact hk
  · rw [if_neg hk] at h;simp at h;omega
theorem Zka (h:k ≠ k'):getC (opC C k i v d) k'=getC C k':=by
  unfold opC
  split
  · rename_i hh
    have hk:=Z6u hh.1
    unfold getC
    split
    · rename_i h1
      exact Ze8 (by omega)
    · rfl
  · rfl
theorem Z1g (h:k ≠ k'):valC (opC C k i v d) k' j=valC C k' j:=by unfold valC;rw [Zka h]
theorem Z0q (h:hasC C k i):valC (opC C k i v true) k i=v:=by
  have hk:=Z6u h
  have h2:=h.2
  unfold valC opC
  rw [if_pos ⟨h,rfl⟩]
  unfold getC at h2 ⊢
  rw [if_pos hk] at h2 ⊢
  rw [Zao]
  have:i.toNat < (C k.toNat).length:=by have:=h.1;omega
  simp [List.getD,this]
theorem Z11 (hi:0≤i) (hj:0≤j) (h:i ≠ j):valC (opC C k i v d) k j=valC C k j:=by
  unfold opC
  split
  · rename_i hh
    have hk:=Z6u hh.1
    unfold valC getC
    rw [if_pos hk,if_pos hk,Zao]
    have:i.toNat ≠ j.toNat:=by omega
    simp [List.getD,this]
  · rfl
theorem Z7n (h:d=false):opC C k i v d=C:=by unfold opC;rw [if_neg (by simp [h])]
theorem Zjq (h:hasC C k i) (kd:Int):(opA C kd k i v d).got=valC C k i:=by unfold opA;rw [if_pos h]
theorem Zjp (h:hasC C k i) (kd:Int):(opA C kd k i v true).put=v:=by unfold opA;rw [if_pos h];rfl
theorem Z9o (h:hasC C k i) (kd:Int):(opA C kd k i v d).index=i:=by unfold opA;rw [if_pos h]
theorem Z6c (h:hasC C k i) (kd:Int):(opA C kd k i v d).done=d:=by unfold opA;rw [if_pos h]
theorem Zcc (h:hasC C k i) (kd:Int):(opA C kd k i v d).kind=kd:=by unfold opA;rw [if_pos h]
theorem Z3h (h:hasC C k i):(ldA C k i).got=valC C k i:=Zjq h 1
end
structure Shp (c:Cfg) (n:Nat) (C:Cells):Prop where
  ok:COk C
  l1:(C 1).length=c.words.toNat
  l2:(C 2).length=c.orecs.toNat
  l6:(C 6).length=n
section
variable {c:Cfg} {n:Nat} {C:Cells} {k i v:Int} {d:Bool}
theorem Shp.opC (h:Shp c n C) (k i v:Int) (d:Bool):Shp c n (opC C k i v d):=by
  refine ⟨⟨fun k'=>?_,?_,?_,?_⟩,?_,?_,?_⟩
  · rw [Z4c];exact h.ok.len _
  · rw [Z4c];exact h.ok.l3
  · rw [Z4c];exact h.ok.l4
  · rw [Z4c];exact h.ok.l5
  · rw [Z4c];exact h.l1
  · rw [Z4c];exact h.l2
  · rw [Z4c];exact h.l6
theorem Shp.h1 (h:Shp c n C) (h0:0≤i) (h1:i < c.words):hasC C 1 i:=⟨h0,by show i < ((C 1).length:Int);rw [h.l1];omega⟩
theorem Shp.h2 (h:Shp c n C) (h0:0≤i) (h1:i < c.orecs):hasC C 2 i:=⟨h0,by show i < ((C 2).length:Int);rw [h.l2];omega⟩
theorem Shp.h3 (h:Shp c n C):hasC C 3 0:=⟨Int.le_refl 0,by show (0:Int) < ((C 3).length:Int);rw [h.ok.l3];decide⟩
theorem Shp.h4 (h:Shp c n C):hasC C 4 0:=⟨Int.le_refl 0,by show (0:Int) < ((C 4).length:Int);rw [h.ok.l4];decide⟩
theorem Shp.h5 (h:Shp c n C):hasC C 5 0:=⟨Int.le_refl 0,by show (0:Int) < ((C 5).length:Int);rw [h.ok.l5];decide⟩
end
theorem Z20 {d:Array Int} {x:Int}:∀ {m:Nat},m≤d.size→(x ∈ Lib.compactUpTo d m ↔ ∃ j,j < m∧d[j]! = x)
  | 0,_=>by simp [Lib.compactUpTo]
  | m + 1,hm=>by
    rw [Lib.compactUpTo_succ,List.mem_append,Z20 (by omega)]
    constructor
    · rintro (⟨j,hj,rfl⟩ | h)
      · exact ⟨j,by omega,rfl⟩
      · by_cases hk:Lib.keeps d m=true
        · rw [if_pos hk] at h;exact ⟨m,by omega,(List.mem_singleton.1 h).symm⟩
        · rw [if_neg hk] at h;cases h
    · rintro ⟨j,hj,rfl⟩
      by_cases hjm:j < m
      · exact .inl ⟨j,hjm,rfl⟩
      · have:j=m:=by omega
        subst this
        by_cases hk:Lib.keeps d j=true
        · right;rw [if_pos hk];simp
        · left
          have h0:j ≠ 0:=by intro h0;subst h0;simp [Lib.keeps] at hk
          have he:d[j]! = d[j - 1]!:=by
            by_cases he:d[j]! = d[j - 1]!
            · exact he
            · exact absurd (Lib.keeps_pos he) hk
          exact ⟨j - 1,by omega,he.symm⟩
theorem Z3k {d:Array Int} (hs:∀ i j,i≤j→j < d.size→d[i]!≤d[j]!):∀ {m:Nat},m≤d.size→(Lib.compactUpTo d m).Pairwise (· < ·)
  | 0,_=>by simp [Lib.compactUpTo]
  | m + 1,hm=>by
    rw [Lib.compactUpTo_succ,List.pairwise_append]
    refine ⟨Z3k hs (by omega),?_,?_⟩
    · split <;> simp
    · intro x hx y hy
      by_cases hk:Lib.keeps d m=true
      · rw [if_pos hk] at hy
        have hy:y=d[m]!:=by simpa using hy
        subst hy
        obtain ⟨j,hj,rfl⟩:=(Z20 (by omega)).1 hx
        have hne:d[m]! ≠ d[m - 1]!:=by
          intro he
          rw [Lib.keeps_neg (by omega) he] at hk
          cases hk
        have h1:=hs j (m - 1) (by omega) (by omega)
        have h2:=hs (m - 1) m (by omega) (by omega)
        omega
      · rw [if_neg hk] at hy;cases hy
theorem Za0 {zs:List Int} (h:zs.Pairwise (·≤·)):(Lib.compact zs).Pairwise (· < ·):=by
  refine Z3k (fun i j hij hj=>?_) (by simp)
  have hj:j < zs.length:=by simpa using hj
  have e1:zs.toArray[i]! = zs[i]:=by simp [getElem!_pos,show i < zs.length by omega]
  have e2:zs.toArray[j]! = zs[j]:=by simp [getElem!_pos,hj]
  rw [e1,e2]
  rcases Nat.lt_or_ge i j with h1 | h1
  · exact List.pairwise_iff_getElem.1 h i j _ hj h1
  · have:i=j:=by omega
    subst this;exact Int.le_refl _
theorem Zaw {zs:List Int} {x:Int}:x ∈ Lib.compact zs ↔ x ∈ zs:=by
  unfold Lib.compact
  rw [Z20 (by simp),List.mem_iff_getElem]
  constructor
  · rintro ⟨j,hj,rfl⟩
    exact ⟨j,hj,by simp [getElem!_pos,hj]⟩
  · rintro ⟨j,hj,rfl⟩
    exact ⟨j,hj,by simp [getElem!_pos,hj]⟩
theorem Ze7 (xs:List Int):(xs.mergeSort fun x y=>decide (x≤y)).Pairwise (·≤·):=by
  have:=List.pairwise_mergeSort (le:=fun x y:Int=>decide (x≤y)) (fun a b c h1 h2=>by simp at h1 h2 ⊢;omega) (fun a b=>by simp;omega) xs
  exact this.imp (fun h=>by simpa using h)
theorem Z7v (xs:List Int):(srt xs).Pairwise (· < ·):=Za0 (Ze7 xs)
theorem mem_srt {xs:List Int} {x:Int}:x ∈ srt xs ↔ x ∈ xs:=by
  unfold srt
  rw [Zaw,List.mem_mergeSort]
theorem Ze3 {xs:List Int} {i j:Nat} {o:Int} (h1:(srt xs)[i]?=some o) (h2:(srt xs)[j]?=some o):i=j:=by
  obtain ⟨hi,e1⟩:=List.getElem?_eq_some_iff.1 h1
  obtain ⟨hj,e2⟩:=List.getElem?_eq_some_iff.1 h2
  have hp:=List.pairwise_iff_getElem.1 (Z7v xs)
  rcases Nat.lt_trichotomy i j with h | h | h
  · have:=hp i j hi hj h;omega
  · exact h
  · have:=hp j i hj hi h;omega
theorem Z9z {zs:List Int} (h:zs.Pairwise (· < ·)):Lib.compact zs=zs:=by
  refine Lib.compact_all zs fun j hj=>?_
  unfold Lib.keeps
  by_cases h0:j=0
  · simp [h0]
  · have e1:zs.toArray[j - 1]! = zs[j - 1]:=by simp [getElem!_pos,show j - 1 < zs.length by omega]
    have e2:zs.toArray[j]! = zs[j]:=by simp [getElem!_pos,hj]
    have:=List.pairwise_iff_getElem.1 h (j - 1) j (by omega) hj (by omega)
    rw [e1,e2]
    simp
    right;omega
theorem Zj0 (xs:List Int):srt (srt xs)=srt xs:=by
  have hp:=Z7v xs
  have h1:(srt xs).mergeSort (fun x y=>decide (x≤y))=srt xs:=List.mergeSort_of_pairwise (hp.imp fun h=>by simp;omega)
  show Lib.compact ((srt xs).mergeSort fun x y=>decide (x≤y))=srt xs
  rw [h1]
  exact Z9z hp
theorem Zky {xs:List Int} (h:xs ≠ []):srt xs ≠ []:=by
  intro he
  cases xs with
  | nil=>exact h rfl
  | cons a l =>
    have:a ∈ srt (a :: l):=mem_srt.2 (by simp)
    rw [he] at this
    cases this
theorem osT_mem {c:Cfg} {T:TS} {o:Int}:o ∈ osT c T ↔ ∃ a ∈ T.L.addrs,a % c.orecs=o:=by
  unfold osT lgO
  rw [mem_srt,List.mem_map]
theorem Zcb {c:Cfg} {T:TS} (h:T.L.addrs ≠ []):osT c T ≠ []:=Zky (by unfold lgO;simpa using h)
theorem Z17 {c:Cfg} {T:TS} (hc:1≤c.orecs) {o:Int} (h:o ∈ osT c T):0≤o∧o < c.orecs:=by
  obtain ⟨a,_,rfl⟩:=osT_mem.1 h
  exact ⟨Int.emod_nonneg _ (by omega),Int.emod_lt_of_pos _ (by omega)⟩
def inT (p:List InsR):Nat→Bool
  | 0=>false
  | k + 1=>match p[k]? with | some i=>if i.op=7 then true else if i.op=8 then false else inT p k | none=>inT p k
def Z76 (c:Cfg) (b:Bool) (i:InsR):Prop :=
  (i.op=1∧1≤i.a∧i.a < 8∧i.b=0∧i.c=0∧0≤i.imm∧i.imm≤1000) ∨
  (i.op=3∧1≤i.a∧i.a < 8∧0≤i.b∧i.b < 8∧0≤i.c∧i.c < 8∧(i.imm=0∨i.imm=1)) ∨
  (i.op=7∧b=false∧i.a=0∧i.b=0∧i.c=0∧1≤i.imm∧i.imm≤8) ∨
  (i.op=8∧b=true∧i.a=0∧i.b=0∧i.c=0∧i.imm=0) ∨
  (i.op=10∧b=true∧1≤i.a∧i.a < 8∧i.b=0∧i.c=0∧0≤i.imm∧i.imm < c.words) ∨
  (i.op=11∧b=true∧i.a=0∧0≤i.b∧i.b < 8∧i.c=0∧0≤i.imm∧i.imm < c.words)
structure ProgOk (c:Cfg) (p:List InsR):Prop where
  ins:∀ (k:Nat) i,p[k]?=some i→Z76 c (inT p k) i
  fin:inT p p.length=false
  len:p.length≤64
theorem Z2g {p:List InsR} {k:Nat} {i:InsR} (h:p[k]?=some i):inT p (k + 1)=if i.op=7 then true else if i.op=8 then false else inT p k:=by
  show (match p[k]? with | some i=>if i.op=7 then true else if i.op=8 then false else inT p k | none=>inT p k)=_
  rw [h]
end Go.Proofs.YtmlfangeanmmeaaGreatDoor
