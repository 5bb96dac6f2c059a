/-
 What the proof of TopAlone leans on, part 19 of 49: Ep. No statement of its own.
-/
import Derived.Test.YtmlfangeanmmeaaGreatDoorAm1
import Derived.Test.YtmlfangeanmmeaaGreatDoorAm17
import Derived.Test.YtmlfangeanmmeaaGreatDoorAm18
import Derived.Deep.DeepCutAuto
import Derived.Deep.CutBlock
set_option maxHeartbeats 16000000
set_option maxRecDepth 8000
set_option linter.unusedVariables false
namespace Go.Proofs.YtmlfangeanmmeaaGreatDoor
open Go.RowKit
abbrev enA (g:Nat) (th nx ck:Int):Asr:=blkA 246 g #[.int .i64 th,.int .i64 nx,.int .u64 ck]
abbrev feA (g:Nat) (th n:Int) (ld:Bool) (lim nx:Int):Asr:=blkA 171 g #[.int .i64 th,.int .i64 n,.bool ld,.int .u64 lim,.int .i64 nx]
theorem Zkr (w0 w:World) (R:Asr) (th:Int) (h:Hold w0 w R):Calls Tryz.prog 189 #[.int .i64 th] w fun e w'=>∃g,e = .returned (.pointer (some ⟨g,0,none⟩))/\Hold w0 w' (enA g th 0 0*R):=by
 have H:=hid (h.newBlk (t:=246) (cs:=#[.int .i64 th,.int .i64 0,.int .u64 0]));clear h;go_enter Tryz.func189,Tryz.ntmps189;go_wp2;go_ret;exact⟨_,rfl,H.out⟩
theorem Zkp (w0 w:World) (R:Asr) (th n:Int) (h:Hold w0 w R):Calls Tryz.prog 69 #[.int .i64 th,.int .i64 n] w fun e w'=>∃g,e = .returned (.pointer (some ⟨g,0,none⟩))/\Hold w0 w' (feA g th n false 0 0*R):=by
 have H:=hid (h.newBlk (t:=171) (cs:=#[.int .i64 th,.int .i64 n,.bool false,.int .u64 0,.int .i64 0]));clear h;go_enter Tryz.func69,Tryz.ntmps69;go_wp2;go_ret;exact⟨_,rfl,H.out⟩
theorem Zam (w0 w:World) (R:Asr) (g:Nat) (th nx ck:Int) (h:Hold w0 w (enA g th nx ck*R)):Calls Tryz.prog 143 #[.pointer (some ⟨g,0,none⟩)] w fun e w'=>e = .returned (.bool (nx==3))/\w=w':=by
 have q:=h.blk.some_ (i:=1) rfl;clear h;go_enter Tryz.func143,Tryz.ntmps143;go_wp2;go_ret;exact⟨rfl,rfl⟩
def Z2z (nx ck:Int):Int:=if nx<=1 then -1 else ck
theorem Z4p (w0 w:World) (R:Asr) (g:Nat) (th nx ck:Int) (h:Hold w0 w (enA g th nx ck*R)) (h0:0<=ck/\ck<=9223372036854775807):Calls Tryz.prog 141 #[.pointer (some ⟨g,0,none⟩)] w fun e w'=>e = .returned (.int .i64 (Z2z nx ck))/\w=w':=by
 have q1:=h.blk.some_ (i:=1) rfl;have q2:=h.blk.some_ (i:=2) rfl;clear h
 by_cases hn:nx<=1
 ·have e1:decide (nx<=1)=true:=decide_eq_true hn
  rw[show Z2z nx ck=-1 from if_pos hn];clear hn;go_enter Tryz.func141,Tryz.ntmps141;go_wp2;go_ret;exact⟨rfl,rfl⟩
 ·have e1:decide (nx<=1)=false:=decide_eq_false hn
  rw[show Z2z nx ck=ck from if_neg hn];clear hn;go_enter Tryz.func141,Tryz.ntmps141;go_wp2;go_ret;exact⟨rfl,rfl⟩
theorem Zgn (w0 w:World) (R:Asr) (g:Nat) (th n:Int) (ld:Bool) (lim nx:Int) (h:Hold w0 w (feA g th n ld lim nx*R)) (h0:0<=lim/\lim<=9223372036854775807):Calls Tryz.prog 51 #[.pointer (some ⟨g,0,none⟩)] w fun e w'=>e = .returned (.int .i64 (if ld then lim else -1))/\w=w':=by
 have q2:=h.blk.some_ (i:=2) rfl;have q3:=h.blk.some_ (i:=3) rfl;clear h
 cases ld
 ·go_enter Tryz.func51,Tryz.ntmps51
  go_wp2;go_ret;exact⟨rfl,rfl⟩
 ·go_enter Tryz.func51,Tryz.ntmps51
  go_wp2;go_ret;exact⟨rfl,rfl⟩
theorem Zeo (w0 w:World) (R:Asr) (g:Nat) (th n:Int) (ld:Bool) (lim nx:Int) (h:Hold w0 w (feA g th n ld lim nx*R)):Calls Tryz.prog 49 #[.pointer (some ⟨g,0,none⟩)] w fun e w'=>e = .returned (.bool (ld && decide (n<=nx)))/\Hold w0 w' (feA g th n ld lim nx*R):=by
 cases ld
 ·replace h:=h.drew
  go_enter Tryz.func49,Tryz.ntmps49;go_wp2_with fail;refine Z01 [] (by kernel_rfl) ?_;refine Z04 (fun w'=>Hold w0 w' (feA g th n false lim nx*R)) (fun _ _=>trivial) _ _ _ _ ?_;refine' wbk [true,true,true,true,true,true,true,true,true,true,true,true,true,true,true,true] 18 h (fun wq hq=>?_) ?_;rotate_left
  ·simp only[Z08]
   have q1:=hq.blk.some_ (i:=1) rfl;have q2:=hq.blk.some_ (i:=2) rfl;have q4:=hq.blk.some_ (i:=4) rfl
   repeat (go_big_quiet_step (fail))
   exact wpQuiet_nil rfl
  refine Z02 (by kernel_rfl) ?_ _;have H:=hid h;clear h;go_wp2_with fail;go_ret;exact⟨rfl,H.out⟩
 ·replace h:=h.drew
  go_enter Tryz.func49,Tryz.ntmps49;go_wp2_with fail;refine Z01 [] (by kernel_rfl) ?_;refine Z04 (fun w'=>Hold w0 w' (feA g th n true lim nx*R)) (fun _ _=>trivial) _ _ _ _ ?_;refine' wbk [true,true,true,true,true,true,true,true,true,true,true,true,true,true,true,true] 18 h (fun wq hq=>?_) ?_;rotate_left
  ·simp only[Z08]
   have q1:=hq.blk.some_ (i:=1) rfl;have q2:=hq.blk.some_ (i:=2) rfl;have q4:=hq.blk.some_ (i:=4) rfl
   repeat (go_big_quiet_step (fail))
   exact wpQuiet_nil rfl
  refine Z02 (by kernel_rfl) ?_ _;have H:=hid h;clear h;go_wp2_with fail;go_ret;exact⟨by simp,H.out⟩
def Zcg (th nx:Int):Int:=if nx=th then nx+1 else nx
theorem Zjd (w0 w:World) (R:Asr) (g:Nat) (th n:Int) (ld:Bool) (lim nx:Int) (h:Hold w0 w (feA g th n ld lim nx*R)) (hb:0<=nx/\nx<=1000):Calls Tryz.prog 80 #[.pointer (some ⟨g,0,none⟩)] w fun e w'=>e = .returned (.tuple #[])/\Hold w0 w' (feA g th n ld lim (Zcg th nx)*R):=by
 replace h:=h.drew
 by_cases he:nx=th
 ·subst he
  rw[show Zcg nx nx=nx+1 from if_pos rfl];go_enter Tryz.func80,Tryz.ntmps80;go_wp2_with fail;refine Z01 [] (by kernel_rfl) ?_;refine Z04 (fun w'=>Hold w0 w' (feA g nx n ld lim nx*R)) (fun _ _=>trivial) _ _ _ _ ?_;refine' wbk [true,true,true,true,true,true,true,true,true] 18 h (fun wq hq=>?_) ?_;rotate_left
  ·simp only[Z08]
   have q0:=hq.blk.some_ (i:=0) rfl;have q4:=hq.blk.some_ (i:=4) rfl
   repeat (go_big_quiet_step (fail))
   exact wpQuiet_nil rfl
  refine Z02 (by kernel_rfl) ?_ _;have q4:=h.blk.some_ (i:=4) (u:=.int .i64 nx) rfl;have z4:=h.blk.frozen 4;have e1:(nx==nx)=true:=by simp
  have H:=hid (h.Zlp 4 (.int .i64 (nx+1)));clear h;go_wp2_with fail
  go_end0
  exact⟨rfl,H.out⟩
 ·have e1:(nx==th)=false:=by simp[he]
  rw[show Zcg th nx=nx from if_neg he];clear he;go_enter Tryz.func80,Tryz.ntmps80;go_wp2_with fail;refine Z01 [] (by kernel_rfl) ?_;refine Z04 (fun w'=>Hold w0 w' (feA g th n ld lim nx*R)) (fun _ _=>trivial) _ _ _ _ ?_;refine' wbk [true,true,true,true,true,true,true,true,true] 18 h (fun wq hq=>?_) ?_;rotate_left
  ·simp only[Z08]
   have q0:=hq.blk.some_ (i:=0) rfl;have q4:=hq.blk.some_ (i:=4) rfl
   repeat (go_big_quiet_step (fail))
   exact wpQuiet_nil rfl
  refine Z02 (by kernel_rfl) ?_ _;have H:=hid h;clear h;go_wp2_with fail
  go_end0
  exact⟨rfl,H.out⟩
theorem Zgv (w0 w:World) (R:Asr) (g m:Nat) (C:Nat->List Int) (th ck:Int) (a:Acc) (h:Hold w0 w (enA g th 0 ck*(memA m C*R))) (hC:COk C) (hx:-9223372036854775808<=th/\th<=9223372036854775807) (ha:opA C 2 6 th 1 true=a) :
  Calls Tryz.prog 142 #[.pointer (some ⟨g,0,none⟩),.pointer (some ⟨m,0,none⟩)] w (Z0b w0 (enA g th 1 ck*(memA m (opC C 6 th 1 true)*R)) a):=by
 have HA:=hid ha;have HK:=hid hC;have h1:=(nb h).newBlk (t:=50) (cs:=#[.int .i64 0,.int .i64 0,.int .i64 0,.int .u64 0,.int .u64 0,.bool false]);simp only[World.size_alloc] at h1;have H1:=hid h1;have n1:=h.blk.lt;have n2:g≠w.heap.size:=by omega
 have n3:g≠w.heap.size+1:=by omega
 have p0:=h.blk.some_ (i:=0) rfl;have p1:=h.blk.some_ (i:=1) rfl;clear h h1 ha hC;go_enter Tryz.func142,Tryz.ntmps142;go_wp2_with fail;have h1:=H1.out;generalize hW:World.alloc _ _=W at h1 |-;generalize w.heap.size+1=ga at h1 |-;generalize w.heap.size=gr at h1 |-;clear hW H1 n1 n2 n3 p0 p1;refine(Z0z w0 _ _ m C 6 th 1 (h1.pk4 [3,0,1,2]) hx HK.out.len).mono ?_;rintro e w1 ⟨rfl,h2⟩;rw[HA.out];generalize opE C 6 th=er;have h3:Hold w0 w1 (blkA 50 ga #[.int .i64 0,.int .i64 0,.int .i64 0,.int .u64 0,.int .u64 0,.bool false]*(enA g th 0 ck*(blkA 50 gr #[.int .i64 0,.int .i64 0,.int .i64 0,.int .u64 0,.int .u64 0,.bool false]*(memA m (opC C 6 th 1 true)*R)))):=h2.pk4 [1,3,2,0];obtain⟨⟨x0,x1,x2,x3,x4,x5⟩,z0,z1,z2,z3,z4,z5⟩:=Z07 h3.blk;have H4:=hid (h3.Zls (.int .i64 a.kind) (.int .i64 a.cell) (.int .i64 a.index) (.int .u64 a.got) (.int .u64 a.put) (.bool a.done)).swap;clear h1 h2 h3;go_upto_region 11 with fail
 have h4:=H4.out;generalize hW:World.setCell _ _ _=W4 at h4 |-;clear hW H4 x0 x1 x2 x3 x4 x5 z0 z1 z2 z3 z4 z5;have q1:=h4.blk.some_ (i:=1) (u:=.int .i64 0) rfl;have s1:=h4.blk.frozen 1;have H5:=hid (h4.Zlp 1 (.int .i64 1));clear h4;go_upto_region 12 with fail
 have h5:=H5.out;generalize hW:World.setCell _ _ _=W5 at h5 |-;clear hW H5 q1 s1;have h7:Hold w0 W5 (enA g th 1 ck*(blkA 50 ga #[.int .i64 a.kind,.int .i64 a.cell,.int .i64 a.index,.int .u64 a.got,.int .u64 a.put,.bool a.done]*(blkA 50 gr #[.int .i64 0,.int .i64 0,.int .i64 0,.int .u64 0,.int .u64 0,.bool false]*(memA m (opC C 6 th 1 true)*R)))):=h5;clear h5;obtain⟨⟨x0,x1,x2,x3,x4,x5⟩,z0,z1,z2,z3,z4,z5⟩:=Z07 (h7.pk3 [2,0,1]).blk;obtain⟨⟨y0,y1,y2,y3,y4,y5⟩,_⟩:=Z07 (h7.pk2 [1,0]).blk;have H8:=hid ((h7.pk3 [2,0,1]).Zls (.int .i64 a.kind) (.int .i64 a.cell) (.int .i64 a.index) (.int .u64 a.got) (.int .u64 a.put) (.bool a.done));clear h7;go_wp2_with fail;have h8:=H8.out;generalize hW:World.setCell _ _ _=W8 at h8 |-;clear hW H8 x0 x1 x2 x3 x4 x5 z0 z1 z2 z3 z4 z5 y0 y1 y2 y3 y4 y5;obtain⟨⟨y0,y1,y2,y3,y4,y5⟩,_⟩:=Z07 h8.blk;have hfin:Hid (Z0b w0 (enA g th 1 ck*(memA m (opC C 6 th 1 true)*R)) a (.returned a.val) W8):=hid ⟨rfl,h8.pk3 [1]⟩;exact bodyPost_ret (v:=a.val) (by simp[results,Tryz.results142,go_sem,y0,y1,y2,y3,y4,y5]) rfl hfin.out
theorem Zgu (w0 w:World) (R:Asr) (g m:Nat) (C:Nat->List Int) (th ck:Int) (a:Acc) (h:Hold w0 w (enA g th 1 ck*(memA m C*R))) (hC:COk C) (ha:opA C 1 3 0 (valC C 3 0) true=a) :
  Calls Tryz.prog 142 #[.pointer (some ⟨g,0,none⟩),.pointer (some ⟨m,0,none⟩)] w (Z0b w0 (enA g th 2 a.got*(memA m C*R)) a):=by
 have HA:=hid ha;have HK:=hid hC;have h1:=(nb h).newBlk (t:=50) (cs:=#[.int .i64 0,.int .i64 0,.int .i64 0,.int .u64 0,.int .u64 0,.bool false]);simp only[World.size_alloc] at h1;have H1:=hid h1;have n1:=h.blk.lt;have n2:g≠w.heap.size:=by omega
 have n3:g≠w.heap.size+1:=by omega
 have p0:=h.blk.some_ (i:=0) rfl;have p1:=h.blk.some_ (i:=1) rfl;clear h h1 ha hC;go_enter Tryz.func142,Tryz.ntmps142;go_wp2_with fail;have h1:=H1.out;generalize hW:World.alloc _ _=W at h1 |-;generalize w.heap.size+1=ga at h1 |-;generalize w.heap.size=gr at h1 |-;clear hW H1 n1 n2 n3 p0 p1;refine(Z13 w0 _ _ m C 3 0 (h1.pk4 [3,0,1,2]) (by omega) HK.out.len).mono ?_;rintro e w1 ⟨rfl,h2⟩;rw[HA.out];generalize opE C 3 0=er;have h3:Hold w0 w1 (blkA 50 ga #[.int .i64 0,.int .i64 0,.int .i64 0,.int .u64 0,.int .u64 0,.bool false]*(enA g th 1 ck*(blkA 50 gr #[.int .i64 0,.int .i64 0,.int .i64 0,.int .u64 0,.int .u64 0,.bool false]*(memA m C*R)))):=h2.pk4 [1,3,2,0];obtain⟨⟨x0,x1,x2,x3,x4,x5⟩,z0,z1,z2,z3,z4,z5⟩:=Z07 h3.blk;have H4:=hid (h3.Zls (.int .i64 a.kind) (.int .i64 a.cell) (.int .i64 a.index) (.int .u64 a.got) (.int .u64 a.put) (.bool a.done)).swap;clear h1 h2 h3;go_upto_region 8 with fail
 have h4:=H4.out;generalize hW:World.setCell _ _ _=W4 at h4 |-;clear hW H4 x0 x1 x2 x3 x4 x5 z0 z1 z2 z3 z4 z5;have y3:=h4.drop.blk.some_ (i:=3) rfl;have q1:=h4.blk.some_ (i:=1) (u:=.int .i64 1) rfl;have q2:=h4.blk.some_ (i:=2) (u:=.int .u64 ck) rfl;have s1:=h4.blk.frozen 1;have s2:=h4.blk.frozen 2;have H5:=hid ((h4.Zlp 2 (.int .u64 a.got)).Zlp 1 (.int .i64 2));clear h4;go_upto_region 12 with fail
 have h5:=H5.out;generalize hW:World.setCell _ _ _=W5 at h5 |-;clear hW H5 q1 s1 q2 s2 y3;have h7:Hold w0 W5 (enA g th 2 a.got*(blkA 50 ga #[.int .i64 a.kind,.int .i64 a.cell,.int .i64 a.index,.int .u64 a.got,.int .u64 a.put,.bool a.done]*(blkA 50 gr #[.int .i64 0,.int .i64 0,.int .i64 0,.int .u64 0,.int .u64 0,.bool false]*(memA m C*R)))):=h5;clear h5;obtain⟨⟨x0,x1,x2,x3,x4,x5⟩,z0,z1,z2,z3,z4,z5⟩:=Z07 (h7.pk3 [2,0,1]).blk;obtain⟨⟨y0,y1,y2,y3,y4,y5⟩,_⟩:=Z07 (h7.pk2 [1,0]).blk;have H8:=hid ((h7.pk3 [2,0,1]).Zls (.int .i64 a.kind) (.int .i64 a.cell) (.int .i64 a.index) (.int .u64 a.got) (.int .u64 a.put) (.bool a.done));clear h7;go_wp2_with fail;have h8:=H8.out;generalize hW:World.setCell _ _ _=W8 at h8 |-;clear hW H8 x0 x1 x2 x3 x4 x5 z0 z1 z2 z3 z4 z5 y0 y1 y2 y3 y4 y5;obtain⟨⟨y0,y1,y2,y3,y4,y5⟩,_⟩:=Z07 h8.blk;have hfin:Hid (Z0b w0 (enA g th 2 a.got*(memA m C*R)) a (.returned a.val) W8):=hid ⟨rfl,h8.pk3 [1]⟩;exact bodyPost_ret (v:=a.val) (by simp[results,Tryz.results142,go_sem,y0,y1,y2,y3,y4,y5]) rfl hfin.out
theorem Zgt (w0 w:World) (R:Asr) (g m:Nat) (C:Nat->List Int) (th ck:Int) (a:Acc) (h:Hold w0 w (enA g th 2 ck*(memA m C*R))) (hC:COk C) (hk:0<=ck/\ck<=1099511627776) (hx:-9223372036854775808<=th/\th<=9223372036854775807) (ha:opA C 2 6 th (ck+2) true=a) :
  Calls Tryz.prog 142 #[.pointer (some ⟨g,0,none⟩),.pointer (some ⟨m,0,none⟩)] w (Z0b w0 (enA g th 3 ck*(memA m (opC C 6 th (ck+2) true)*R)) a):=by
 have HA:=hid ha;have HK:=hid hC;have h1:=(nb h).newBlk (t:=50) (cs:=#[.int .i64 0,.int .i64 0,.int .i64 0,.int .u64 0,.int .u64 0,.bool false]);simp only[World.size_alloc] at h1;have H1:=hid h1;have n1:=h.blk.lt;have n2:g≠w.heap.size:=by omega
 have n3:g≠w.heap.size+1:=by omega
 have p1:=h.blk.some_ (i:=1) rfl;clear h h1 ha hC;go_enter Tryz.func142,Tryz.ntmps142;go_upto_region 10 with fail
 have h1:=H1.out;generalize hW:World.alloc _ _=W at h1 |-;generalize w.heap.size+1=ga at h1 |-;generalize w.heap.size=gr at h1 |-;clear hW H1 n1 n2 n3 p1;replace h1:=h1.drew;refine Z01 [14] (by kernel_rfl) ?_;refine Z04 (fun w'=>∃(Y Z:Asr) (D:Nat->List Int),Hold w0 w' (Y*(Z*(enA g th 2 ck*(memA m D*R))))) (fun _ _=>trivial) _ _ _ _ ?_;refine' wbk [true,true,true,true,true,true,true,true,true,true] 58 ⟨_,_,_,h1⟩ (fun wq hq=>?_) ?_;rotate_left
 ·simp only[Z08]
  obtain⟨Y,Z,D,hq⟩:=hq;have q0:=hq.drop.drop.blk.some_ (i:=0) rfl;have q2:=hq.drop.drop.blk.some_ (i:=2) rfl
  repeat (go_big_quiet_step (fail))
  exact wpQuiet_nil rfl
 refine wbi 10 (fuel:=4) (fun QB hQB hQX=>?_);go_wp2_with fail;refine(Z0z w0 _ _ m C 6 th (ck+2) (h1.pk4 [3,0,1,2]) hx HK.out.len).mono ?_;rintro e w1 ⟨rfl,h2⟩;rw[HA.out];generalize opE C 6 th=er;clear h1;go_wp2_with fail;refine hQB.out _ _ ⟨_,_,_,h2.pk4 [1,2,3,0]⟩ ?_;clear hQB hQX QB;have h3:Hold w0 w1 (blkA 50 ga #[.int .i64 0,.int .i64 0,.int .i64 0,.int .u64 0,.int .u64 0,.bool false]*(enA g th 2 ck*(blkA 50 gr #[.int .i64 0,.int .i64 0,.int .i64 0,.int .u64 0,.int .u64 0,.bool false]*(memA m (opC C 6 th (ck+2) true)*R)))):=h2.pk4 [1,3,2,0];obtain⟨⟨x0,x1,x2,x3,x4,x5⟩,z0,z1,z2,z3,z4,z5⟩:=Z07 h3.blk;have H4:=hid (h3.Zls (.int .i64 a.kind) (.int .i64 a.cell) (.int .i64 a.index) (.int .u64 a.got) (.int .u64 a.put) (.bool a.done)).swap;have H3S:=hid (h2.pk4 [1,2,3,0]);clear h2 h3;refine' wbz [false,false,false,false,false,false,false,false,false,false,false,true,true,true] 58 (by first|exact⟨_,_,_,h1⟩|exact⟨_,_,_,H3S.out⟩) ?_;refine wbj 14 (fuel:=0) (fun QB hQB hQX=>?_);go_wp2_with fail;refine hQB.out _ _ ?_;clear hQB hQX QB;refine Z06 (by kernel_rfl) ?_;refine Z02 (by kernel_rfl) ?_ _;have h4:=H4.out;generalize hW:World.setCell _ _ _=W4 at h4 |-;clear hW H4 x0 x1 x2 x3 x4 x5 z0 z1 z2 z3 z4 z5;have q1:=h4.blk.some_ (i:=1) (u:=.int .i64 2) rfl;have s1:=h4.blk.frozen 1;have H5:=hid (h4.Zlp 1 (.int .i64 3));clear h4;go_upto_region 12 with fail
 have h5:=H5.out;generalize hW:World.setCell _ _ _=W5 at h5 |-;clear hW H5 q1 s1;have h7:Hold w0 W5 (enA g th 3 ck*(blkA 50 ga #[.int .i64 a.kind,.int .i64 a.cell,.int .i64 a.index,.int .u64 a.got,.int .u64 a.put,.bool a.done]*(blkA 50 gr #[.int .i64 0,.int .i64 0,.int .i64 0,.int .u64 0,.int .u64 0,.bool false]*(memA m (opC C 6 th (ck+2) true)*R)))):=h5;clear h5;obtain⟨⟨x0,x1,x2,x3,x4,x5⟩,z0,z1,z2,z3,z4,z5⟩:=Z07 (h7.pk3 [2,0,1]).blk;obtain⟨⟨y0,y1,y2,y3,y4,y5⟩,_⟩:=Z07 (h7.pk2 [1,0]).blk;have H8:=hid ((h7.pk3 [2,0,1]).Zls (.int .i64 a.kind) (.int .i64 a.cell) (.int .i64 a.index) (.int .u64 a.got) (.int .u64 a.put) (.bool a.done));clear h7;go_wp2_with fail;have h8:=H8.out;generalize hW:World.setCell _ _ _=W8 at h8 |-;clear hW H8 x0 x1 x2 x3 x4 x5 z0 z1 z2 z3 z4 z5 y0 y1 y2 y3 y4 y5;obtain⟨⟨y0,y1,y2,y3,y4,y5⟩,_⟩:=Z07 h8.blk;have hfin:Hid (Z0b w0 (enA g th 3 ck*(memA m (opC C 6 th (ck+2) true)*R)) a (.returned a.val) W8):=hid ⟨rfl,h8.pk3 [1]⟩;exact bodyPost_ret (v:=a.val) (by simp[results,Tryz.results142,go_sem,y0,y1,y2,y3,y4,y5]) rfl hfin.out
theorem Z93 (w0 w:World) (R:Asr) (g m:Nat) (C:Nat->List Int) (th n lim nx:Int) (a:Acc) (h:Hold w0 w (feA g th n false lim nx*(memA m C*R))) (hC:COk C) (hb:0<=nx/\nx<=1000) (ha:opA C 1 3 0 (valC C 3 0) true=a) :
  Calls Tryz.prog 48 #[.pointer (some ⟨g,0,none⟩),.pointer (some ⟨m,0,none⟩)] w (Z0b w0 (feA g th n true a.got (Zcg th nx)*(memA m C*R)) a):=by
 have HA:=hid ha;have HK:=hid hC;have h1:=(nb h).newBlk (t:=50) (cs:=#[.int .i64 0,.int .i64 0,.int .i64 0,.int .u64 0,.int .u64 0,.bool false]);simp only[World.size_alloc] at h1;have H1:=hid h1;have n1:=h.blk.lt;have n2:g≠w.heap.size:=by omega
 have n3:g≠w.heap.size+1:=by omega
 clear h h1 ha hC;go_enter Tryz.func48,Tryz.ntmps48;go_wp2_with fail;have h1:=H1.out;generalize hW:World.alloc _ _=W at h1 |-;generalize w.heap.size+1=ga at h1 |-;generalize w.heap.size=gr at h1 |-;clear hW H1 n1 n2 n3;refine(Zeo w0 _ _ g th n false lim nx (h1.pk3 [2,0,1])).mono ?_;rintro e v1 ⟨rfl,h1⟩;rw[Bool.false_and];have p2:=h1.blk.some_ (i:=2) rfl;go_wp2_with fail;clear p2;refine(Z13 w0 _ _ m C 3 0 (h1.pk4 [3,0,1,2]) (by omega) HK.out.len).mono ?_;rintro e w1 ⟨rfl,h2⟩;rw[HA.out];generalize opE C 3 0=er;have h3:Hold w0 w1 (blkA 50 ga #[.int .i64 0,.int .i64 0,.int .i64 0,.int .u64 0,.int .u64 0,.bool false]*(feA g th n false lim nx*(blkA 50 gr #[.int .i64 0,.int .i64 0,.int .i64 0,.int .u64 0,.int .u64 0,.bool false]*(memA m C*R)))):=h2.pk4 [2,1,3,0];obtain⟨⟨x0,x1,x2,x3,x4,x5⟩,z0,z1,z2,z3,z4,z5⟩:=Z07 h3.blk;have H4:=hid (h3.Zls (.int .i64 a.kind) (.int .i64 a.cell) (.int .i64 a.index) (.int .u64 a.got) (.int .u64 a.put) (.bool a.done)).swap;clear h1 h2 h3;go_upto_region 9 with fail
 have h4:=H4.out;generalize hW:World.setCell _ _ _=W4 at h4 |-;clear hW H4 x0 x1 x2 x3 x4 x5 z0 z1 z2 z3 z4 z5;replace h4:=h4.drew;refine Z01 [9] (by kernel_rfl) ?_;refine Z04 (fun w'=>∃(b:Bool) (Z:Asr),Hold w0 w' (feA g th n b lim nx*(blkA 50 ga #[.int .i64 a.kind,.int .i64 a.cell,.int .i64 a.index,.int .u64 a.got,.int .u64 a.put,.bool a.done]*Z))) (fun _ _=>trivial) _ _ _ _ ?_;refine' wbk [true,true,true,true,true,true] 53 ⟨_,_,h4⟩ (fun wq hq=>?_) ?_;rotate_left
 ·simp only[Z08]
  obtain⟨b,Z,hq⟩:=hq;have q3:=hq.drop.blk.some_ (i:=3) rfl
  repeat (go_big_quiet_step (fail))
  exact wpQuiet_nil rfl
 refine wbi 6 (fuel:=3) (fun QB hQB hQX=>?_);replace h4:=h4.undrew;have q2:=h4.blk.some_ (i:=2) (u:=.bool false) rfl;have q3:=h4.blk.some_ (i:=3) (u:=.int .u64 lim) rfl;have s2:=h4.blk.frozen 2;have s3:=h4.blk.frozen 3;have H5S:=hid (Hold.drew (h4.Zlp 2 (.bool true)));have H5:=hid ((h4.Zlp 2 (.bool true)).Zlp 3 (.int .u64 a.got));clear h4;go_wp2_with fail;refine hQB.out _ _ ⟨_,_,H5S.out⟩ ?_;clear hQB hQX QB;refine' wbz [false,false,false,false,false,false,false,true,true] 53 (by first|exact⟨_,_,h4⟩|exact⟨_,_,H5S.out⟩) ?_;refine wbj 9 (fuel:=0) (fun QB hQB hQX=>?_);go_wp2_with fail;refine hQB.out _ _ ?_;clear hQB hQX QB;refine Z06 (by kernel_rfl) ?_;refine Z02 (by kernel_rfl) ?_ _;clear q2 q3 s2 s3 H5S;have h5:=H5.out;generalize hW:World.setCell _ _ _=W5 at h5 |-;clear hW H5;go_wp2_with fail;refine(Zjd w0 _ _ g th n true a.got nx (Hold.drew h5) hb).mono ?_;rintro e w6 ⟨rfl,h6⟩;clear h5;have h7:Hold w0 w6 (feA g th n true a.got (Zcg th nx)*(blkA 50 ga #[.int .i64 a.kind,.int .i64 a.cell,.int .i64 a.index,.int .u64 a.got,.int .u64 a.put,.bool a.done]*(blkA 50 gr #[.int .i64 0,.int .i64 0,.int .i64 0,.int .u64 0,.int .u64 0,.bool false]*(memA m C*R)))):=h6;clear h6;obtain⟨⟨x0,x1,x2,x3,x4,x5⟩,z0,z1,z2,z3,z4,z5⟩:=Z07 (h7.pk3 [2,0,1]).blk;obtain⟨⟨y0,y1,y2,y3,y4,y5⟩,_⟩:=Z07 (h7.pk2 [1,0]).blk;have H8:=hid ((h7.pk3 [2,0,1]).Zls (.int .i64 a.kind) (.int .i64 a.cell) (.int .i64 a.index) (.int .u64 a.got) (.int .u64 a.put) (.bool a.done));clear h7;go_wp2_with fail;have h8:=H8.out;generalize hW:World.setCell _ _ _=W8 at h8 |-;clear hW H8 x0 x1 x2 x3 x4 x5 z0 z1 z2 z3 z4 z5 y0 y1 y2 y3 y4 y5;obtain⟨⟨y0,y1,y2,y3,y4,y5⟩,_⟩:=Z07 h8.blk;have hfin:Hid (Z0b w0 (feA g th n true a.got (Zcg th nx)*(memA m C*R)) a (.returned a.val) W8):=hid ⟨rfl,h8.pk3 [1]⟩;exact bodyPost_ret (v:=a.val) (by simp[results,Tryz.results48,go_sem,y0,y1,y2,y3,y4,y5]) rfl hfin.out
theorem Zgs (w0 w:World) (R:Asr) (m:Nat) (C:Nat->List Int) (th:Int) (h:Hold w0 w (memA m C*R)) (hC:COk C) (hx:-9223372036854775808<=th/\th<=9223372036854775807) :
  Calls Tryz.prog 100 #[.pointer (some ⟨m,0,none⟩),.int .i64 th] w (Z0b w0 (memA m (opC C 6 th 0 true)*R) (opA C 2 6 th 0 true)):=by
 obtain⟨a,ha⟩:∃a,a=opA C 2 6 th 0 true:=⟨_,rfl⟩;rw[<- ha];have HA:=hid ha;have HK:=hid hC;have h2:=(nb h).swap;have H2:=hid h2;clear ha hC h h2;go_enter Tryz.func100,Tryz.ntmps100;go_wp2_with fail;have h2:=H2.out;generalize hW:World.alloc _ _=W at h2 |-;generalize w.heap.size=gr at h2 |-;clear hW H2;refine(Z0z w0 _ _ m C 6 th 0 h2 hx HK.out.len).mono ?_;rintro e w1 ⟨rfl,h3⟩;rw[<- HA.out];generalize opE C 6 th=er;obtain⟨⟨x0,x1,x2,x3,x4,x5⟩,z0,z1,z2,z3,z4,z5⟩:=Z07 h3.swap.blk;have hlt:gr<w1.heap.size:=h3.swap.blk.lt;have hne:gr≠w1.heap.size:=by omega
 have h4:=(h3.swap.Zls (.int .i64 a.kind) (.int .i64 a.cell) (.int .i64 a.index) (.int .u64 a.got) (.int .u64 a.put) (.bool a.done)).alloc (.cells #[.int .i64 a.kind,.int .i64 a.cell,.int .i64 a.index,.int .u64 a.got,.int .u64 a.put,.bool a.done] 50);have H4:=hid h4;clear h2 h3 h4;go_wp2_with fail;have h4:=H4.out;generalize hW:World.alloc _ _=W4 at h4 |-;clear hW H4 x0 x1 x2 x3 x4 x5 z0 z1 z2 z3 z4 z5;obtain⟨⟨y0,y1,y2,y3,y4,y5⟩,_⟩:=Z07 h4.blk;have hfin:Hid (Z0b w0 (memA m (opC C 6 th 0 true)*R) a (.returned a.val) W4):=hid ⟨rfl,h4.drop⟩;exact bodyPost_ret (v:=a.val) (by simp[results,Tryz.results100,go_sem,y0,y1,y2,y3,y4,y5]) rfl hfin.out
end Go.Proofs.YtmlfangeanmmeaaGreatDoor
