/-
 What the proof of TopAlone leans on, part 20 of 49: Rd, Chk, Wr. No statement of its own.
-/
import Derived.Test.YtmlfangeanmmeaaGreatDoorAm1
import Derived.Test.YtmlfangeanmmeaaGreatDoorAm17
import Derived.Deep.DeepCutAuto
set_option maxHeartbeats 16000000
set_option maxRecDepth 8000
set_option linter.unusedVariables false
namespace Go.Proofs.YtmlfangeanmmeaaGreatDoor
open Go.RowKit
abbrev rdA (g:Nat) (addr orec rv at_ bf vl:Int) (cf:Bool):Asr:=blkA 248 g #[.int .i64 addr,.int .i64 orec,.int .i64 rv,.int .i64 at_,.int .u64 bf,.int .u64 vl,.bool cf]
theorem Zk3 (w0 w:World) (R:Asr) (addr orec rv:Int) (h:Hold w0 w R):Calls Tryz.prog 185 #[.int .i64 addr,.int .i64 orec,.int .i64 rv] w fun e w'=>∃g,e = .returned (.pointer (some ⟨g,0,none⟩))/\Hold w0 w' (rdA g addr orec rv 0 0 0 false*R):=by
 have H:=hid (h.newBlk (t:=248) (cs:=#[.int .i64 addr,.int .i64 orec,.int .i64 rv,.int .i64 0,.int .u64 0,.int .u64 0,.bool false]));clear h;go_enter Tryz.func185,Tryz.ntmps185;go_wp2;go_ret;exact⟨_,rfl,H.out⟩
theorem Z4n (w0 w:World) (R:Asr) (g:Nat) (addr orec rv at_ bf vl:Int) (cf:Bool) (h:Hold w0 w (rdA g addr orec rv at_ bf vl cf*R)):Calls Tryz.prog 145 #[.pointer (some ⟨g,0,none⟩)] w fun e w'=>e = .returned (.bool (at_==3))/\w=w':=by
 have q:=h.blk.some_ (i:=3) rfl;clear h;go_enter Tryz.func145,Tryz.ntmps145;go_wp2;go_ret;exact⟨rfl,rfl⟩
theorem Z9z (w0 w:World) (R:Asr) (g:Nat) (addr orec rv at_ bf vl:Int) (cf:Bool) (h:Hold w0 w (rdA g addr orec rv at_ bf vl cf*R)):Calls Tryz.prog 146 #[.pointer (some ⟨g,0,none⟩)] w fun e w'=>e = .returned (.bool cf)/\w=w':=by
 have q:=h.blk.some_ (i:=6) rfl;clear h;go_enter Tryz.func146,Tryz.ntmps146;go_wp2;go_ret;exact⟨rfl,rfl⟩
def Zdk (at_ vl:Int) (cf:Bool):Int:=if at_=3/\cf=false then vl else 0
theorem Zfx (w0 w:World) (R:Asr) (g:Nat) (addr orec rv at_ bf vl:Int) (cf:Bool) (h:Hold w0 w (rdA g addr orec rv at_ bf vl cf*R)):Calls Tryz.prog 151 #[.pointer (some ⟨g,0,none⟩)] w fun e w'=>e = .returned (.int .u64 (Zdk at_ vl cf))/\w=w':=by
 have q5:=h.blk.some_ (i:=5) rfl;have q6:=h.blk.some_ (i:=6) rfl
 by_cases h3:at_=3
 ·subst h3
  cases cf
  ·rw[show Zdk 3 vl false=vl from if_pos ⟨rfl,rfl⟩]
   go_enter Tryz.func151,Tryz.ntmps151;go_wp2_with fail;refine(Z4n w0 _ _ g addr orec rv 3 bf vl false h).mono ?_;rintro e w' ⟨rfl,rfl⟩;go_wp2_with fail;go_ret;exact⟨rfl,rfl⟩
  ·rw[show Zdk 3 vl true=0 from if_neg (by simp)]
   go_enter Tryz.func151,Tryz.ntmps151;go_wp2_with fail;refine(Z4n w0 _ _ g addr orec rv 3 bf vl true h).mono ?_;rintro e w' ⟨rfl,rfl⟩;go_wp2_with fail;go_ret;exact⟨rfl,rfl⟩
 ·rw[show Zdk at_ vl cf=0 from if_neg (fun h=>h3 h.1)]
  have e3:(at_==3)=false:=by simp[h3]
  go_enter Tryz.func151,Tryz.ntmps151;go_wp2_with fail;refine(Z4n w0 _ _ g addr orec rv at_ bf vl cf h).mono ?_;rintro e w' ⟨rfl,rfl⟩;rw[e3];clear e3;go_wp2_with fail;go_ret;exact⟨rfl,rfl⟩
theorem Z5q (w0 w:World) (R:Asr) (g m:Nat) (C:Nat->List Int) (addr orec rv bf vl:Int) (cf:Bool) (a:Acc) (h:Hold w0 w (rdA g addr orec rv 1 bf vl cf*(memA m C*R))) (hC:COk C) (hx:-9223372036854775808<=addr/\addr<=9223372036854775807) (ha:opA C 1 1 addr (valC C 1 addr) true=a) :
  Calls Tryz.prog 144 #[.pointer (some ⟨g,0,none⟩),.pointer (some ⟨m,0,none⟩)] w (Z0b w0 (rdA g addr orec rv 2 bf a.got cf*(memA m C*R)) a):=by
 have HA:=hid ha;have HK:=hid hC;have h1:=(nb h).newBlk (t:=50) (cs:=#[.int .i64 0,.int .i64 0,.int .i64 0,.int .u64 0,.int .u64 0,.bool false]);simp only[World.size_alloc] at h1;have H1:=hid h1;have n1:=h.blk.lt;have n2:g≠w.heap.size:=by omega
 have n3:g≠w.heap.size+1:=by omega
 have p0:=h.blk.some_ (i:=0) rfl;have p1:=h.blk.some_ (i:=1) rfl;have p3:=h.blk.some_ (i:=3) rfl;clear h h1 ha hC;go_enter Tryz.func144,Tryz.ntmps144;go_wp2_with fail;have h1:=H1.out;generalize hW:World.alloc _ _=W at h1 |-;generalize w.heap.size+1=ga at h1 |-;generalize w.heap.size=gr at h1 |-;clear hW H1 n1 n2 n3 p0 p1 p3;refine(Z13 w0 _ _ m C 1 addr (h1.pk4 [3,0,1,2]) hx HK.out.len).mono ?_;rintro e w1 ⟨rfl,h2⟩;rw[HA.out];generalize opE C 1 addr=er;have h3:Hold w0 w1 (blkA 50 ga #[.int .i64 0,.int .i64 0,.int .i64 0,.int .u64 0,.int .u64 0,.bool false]*(rdA g addr orec rv 1 bf vl cf*(blkA 50 gr #[.int .i64 0,.int .i64 0,.int .i64 0,.int .u64 0,.int .u64 0,.bool false]*(memA m C*R)))):=h2.pk4 [1,3,2,0];obtain⟨⟨x0,x1,x2,x3,x4,x5⟩,z0,z1,z2,z3,z4,z5⟩:=Z07 h3.blk;have h4:=(h3.Zls (.int .i64 a.kind) (.int .i64 a.cell) (.int .i64 a.index) (.int .u64 a.got) (.int .u64 a.put) (.bool a.done)).swap;have H4:=hid h4;clear h1 h2 h4;go_upto_region 10 with fail
 have h4:=H4.out;generalize hW:World.setCell _ _ _=W4 at h4 |-;clear hW H4 h3 x0 x1 x2 x3 x4 x5 z0 z1 z2 z3 z4 z5;have y3:=h4.drop.blk.some_ (i:=3) rfl;have q5:=h4.blk.some_ (i:=5) (u:=.int .u64 vl) rfl;have q3:=h4.blk.some_ (i:=3) (u:=.int .i64 1) rfl;have z5:=h4.blk.frozen 5;have z3:=h4.blk.frozen 3;have H5:=hid ((h4.Zlp 5 (.int .u64 a.got)).Zlp 3 (.int .i64 2));clear h4;go_upto_region 14 with fail
 have h5:=H5.out;generalize hW:World.setCell _ _ _=W5 at h5 |-;clear hW H5 y3 q5 q3 z5 z3;have h7:Hold w0 W5 (rdA g addr orec rv 2 bf a.got cf*(blkA 50 ga #[.int .i64 a.kind,.int .i64 a.cell,.int .i64 a.index,.int .u64 a.got,.int .u64 a.put,.bool a.done]*(blkA 50 gr #[.int .i64 0,.int .i64 0,.int .i64 0,.int .u64 0,.int .u64 0,.bool false]*(memA m C*R)))):=h5;clear h5;obtain⟨⟨x0,x1,x2,x3,x4,x5⟩,z0,z1,z2,z3,z4,z5⟩:=Z07 (h7.pk3 [2,0,1]).blk;obtain⟨⟨y0,y1,y2,y3,y4,y5⟩,_⟩:=Z07 (h7.pk2 [1,0]).blk;have H8:=hid ((h7.pk3 [2,0,1]).Zls (.int .i64 a.kind) (.int .i64 a.cell) (.int .i64 a.index) (.int .u64 a.got) (.int .u64 a.put) (.bool a.done));clear h7;go_wp2_with fail;have h8:=H8.out;generalize hW:World.setCell _ _ _=W8 at h8 |-;clear hW H8 x0 x1 x2 x3 x4 x5 z0 z1 z2 z3 z4 z5 y0 y1 y2 y3 y4 y5;obtain⟨⟨y0,y1,y2,y3,y4,y5⟩,_⟩:=Z07 h8.blk;have hfin:Hid (Z0b w0 (rdA g addr orec rv 2 bf a.got cf*(memA m C*R)) a (.returned a.val) W8):=hid ⟨rfl,h8.pk3 [1]⟩;exact bodyPost_ret (v:=a.val) (by simp[results,Tryz.results144,go_sem,y0,y1,y2,y3,y4,y5]) rfl hfin.out
theorem Z2q (w0 w:World) (R:Asr) (g m:Nat) (C:Nat->List Int) (addr orec rv bf vl:Int) (cf:Bool) (a:Acc) (h:Hold w0 w (rdA g addr orec rv 0 bf vl cf*(memA m C*R))) (hC:COk C) (hx:-9223372036854775808<=orec/\orec<=9223372036854775807) (ha:opA C 1 2 orec (valC C 2 orec) true=a) (h0:0<=a.got/\a.got<18446744073709551616) (hb:a.got%64=0/\a.got / 64<=rv) :
  Calls Tryz.prog 144 #[.pointer (some ⟨g,0,none⟩),.pointer (some ⟨m,0,none⟩)] w (Z0b w0 (rdA g addr orec rv 1 a.got vl cf*(memA m C*R)) a):=by
 have HA:=hid ha;have HK:=hid hC;have h1:=(nb h).newBlk (t:=50) (cs:=#[.int .i64 0,.int .i64 0,.int .i64 0,.int .u64 0,.int .u64 0,.bool false]);simp only[World.size_alloc] at h1;have H1:=hid h1;have n1:=h.blk.lt;have n2:g≠w.heap.size:=by omega
 have n3:g≠w.heap.size+1:=by omega
 have p0:=h.blk.some_ (i:=0) rfl;have p1:=h.blk.some_ (i:=1) rfl;have p3:=h.blk.some_ (i:=3) rfl;clear h h1 ha hC;go_enter Tryz.func144,Tryz.ntmps144;go_wp2_with fail;have h1:=H1.out;generalize hW:World.alloc _ _=W at h1 |-;generalize w.heap.size+1=ga at h1 |-;generalize w.heap.size=gr at h1 |-;clear hW H1 n1 n2 n3 p0 p1 p3;refine(Z13 w0 _ _ m C 2 orec (h1.pk4 [3,0,1,2]) hx HK.out.len).mono ?_;rintro e w1 ⟨rfl,h2⟩;rw[HA.out];generalize opE C 2 orec=er;have h3:Hold w0 w1 (blkA 50 ga #[.int .i64 0,.int .i64 0,.int .i64 0,.int .u64 0,.int .u64 0,.bool false]*(rdA g addr orec rv 0 bf vl cf*(blkA 50 gr #[.int .i64 0,.int .i64 0,.int .i64 0,.int .u64 0,.int .u64 0,.bool false]*(memA m C*R)))):=h2.pk4 [1,3,2,0];obtain⟨⟨x0,x1,x2,x3,x4,x5⟩,z0,z1,z2,z3,z4,z5⟩:=Z07 h3.blk;have h4:=(h3.Zls (.int .i64 a.kind) (.int .i64 a.cell) (.int .i64 a.index) (.int .u64 a.got) (.int .u64 a.put) (.bool a.done)).swap;have H4:=hid h4;clear h1 h2 h4;go_upto_region 5 with fail
 have h4:=H4.out;generalize hW:World.setCell _ _ _=W4 at h4 |-;clear hW H4 h3 x0 x1 x2 x3 x4 x5 z0 z1 z2 z3 z4 z5;have y3:=h4.drop.blk.some_ (i:=3) rfl;have q4:=h4.blk.some_ (i:=4) (u:=.int .u64 bf) rfl;have q3:=h4.blk.some_ (i:=3) (u:=.int .i64 0) rfl;have z4:=h4.blk.frozen 4;have z3:=h4.blk.frozen 3;have H5:=hid ((h4.Zlp 4 (.int .u64 a.got)).Zlp 3 (.int .i64 1));clear h4;go_wp2_with fail;have h5:=H5.out;generalize hW:World.setCell _ _ _=W5 at h5 |-;clear hW H5 y3 q4 q3 z4 z3;have h6:Hold w0 W5 (rdA g addr orec rv 1 a.got vl cf*(blkA 50 ga #[.int .i64 a.kind,.int .i64 a.cell,.int .i64 a.index,.int .u64 a.got,.int .u64 a.put,.bool a.done]*(blkA 50 gr #[.int .i64 0,.int .i64 0,.int .i64 0,.int .u64 0,.int .u64 0,.bool false]*(memA m C*R)))):=h5;have q4:=h6.blk.some_ (i:=4) (u:=.int .u64 a.got) rfl;have q2:=h6.blk.some_ (i:=2) (u:=.int .i64 rv) rfl;clear h5;have e1:decide (0<=a.got%64 - 1)=false:=decide_eq_false (by omega);have e2:decide (1<=a.got%64)=false:=decide_eq_false (by omega);have e3:decide (rv<a.got / 64)=false:=decide_eq_false (by omega);clear hb;go_quiet ((first|(go_at_call 207;exact Calls.quiet_of_same ((holder_any _ _ h0.1 h0.2).mono fun e w' h=>⟨h.1,h.2.symm⟩))|(go_at_call 208;exact Calls.quiet_of_same ((ver_any _ _ h0.1 h0.2).mono fun e w' h=>⟨h.1,h.2.symm⟩))));have h7:=h6.drewN nq;clear h6 q4 q2 e1 e2 e3;go_upto_region 14 with fail
 generalize World.drewN _ _=W6 at h7 |-;obtain⟨⟨x0,x1,x2,x3,x4,x5⟩,z0,z1,z2,z3,z4,z5⟩:=Z07 (h7.pk3 [2,0,1]).blk;obtain⟨⟨y0,y1,y2,y3,y4,y5⟩,_⟩:=Z07 (h7.pk2 [1,0]).blk;have H8:=hid ((h7.pk3 [2,0,1]).Zls (.int .i64 a.kind) (.int .i64 a.cell) (.int .i64 a.index) (.int .u64 a.got) (.int .u64 a.put) (.bool a.done));clear h7;go_wp2_with fail;have h8:=H8.out;generalize hW:World.setCell _ _ _=W8 at h8 |-;clear hW H8 x0 x1 x2 x3 x4 x5 z0 z1 z2 z3 z4 z5 y0 y1 y2 y3 y4 y5;obtain⟨⟨y0,y1,y2,y3,y4,y5⟩,_⟩:=Z07 h8.blk;have hfin:Hid (Z0b w0 (rdA g addr orec rv 1 a.got vl cf*(memA m C*R)) a (.returned a.val) W8):=hid ⟨rfl,h8.pk3 [1]⟩;exact bodyPost_ret (v:=a.val) (by simp[results,Tryz.results144,go_sem,y0,y1,y2,y3,y4,y5]) rfl hfin.out
theorem Z5p (w0 w:World) (R:Asr) (g m:Nat) (C:Nat->List Int) (addr orec rv bf vl:Int) (cf:Bool) (a:Acc) (h:Hold w0 w (rdA g addr orec rv 2 bf vl cf*(memA m C*R))) (hC:COk C) (hx:-9223372036854775808<=orec/\orec<=9223372036854775807) (ha:opA C 1 2 orec (valC C 2 orec) true=a) :
  Calls Tryz.prog 144 #[.pointer (some ⟨g,0,none⟩),.pointer (some ⟨m,0,none⟩)] w (Z0b w0 (rdA g addr orec rv 3 bf vl (a.got != bf)*(memA m C*R)) a):=by
 have HA:=hid ha;have HK:=hid hC;have h1:=(nb h).newBlk (t:=50) (cs:=#[.int .i64 0,.int .i64 0,.int .i64 0,.int .u64 0,.int .u64 0,.bool false]);simp only[World.size_alloc] at h1;have H1:=hid h1;have n1:=h.blk.lt;have n2:g≠w.heap.size:=by omega
 have n3:g≠w.heap.size+1:=by omega
 have p0:=h.blk.some_ (i:=0) rfl;have p1:=h.blk.some_ (i:=1) rfl;have p3:=h.blk.some_ (i:=3) rfl;clear h h1 ha hC;go_enter Tryz.func144,Tryz.ntmps144;go_wp2_with fail;have h1:=H1.out;generalize hW:World.alloc _ _=W at h1 |-;generalize w.heap.size+1=ga at h1 |-;generalize w.heap.size=gr at h1 |-;clear hW H1 n1 n2 n3 p0 p1 p3;refine(Z13 w0 _ _ m C 2 orec (h1.pk4 [3,0,1,2]) hx HK.out.len).mono ?_;rintro e w1 ⟨rfl,h2⟩;rw[HA.out];generalize opE C 2 orec=er;have h3:Hold w0 w1 (blkA 50 ga #[.int .i64 0,.int .i64 0,.int .i64 0,.int .u64 0,.int .u64 0,.bool false]*(rdA g addr orec rv 2 bf vl cf*(blkA 50 gr #[.int .i64 0,.int .i64 0,.int .i64 0,.int .u64 0,.int .u64 0,.bool false]*(memA m C*R)))):=h2.pk4 [1,3,2,0];obtain⟨⟨x0,x1,x2,x3,x4,x5⟩,z0,z1,z2,z3,z4,z5⟩:=Z07 h3.blk;have h4:=(h3.Zls (.int .i64 a.kind) (.int .i64 a.cell) (.int .i64 a.index) (.int .u64 a.got) (.int .u64 a.put) (.bool a.done)).swap;have H4:=hid h4;clear h1 h2 h4;go_wp2_with fail;have h4:=H4.out;generalize hW:World.setCell _ _ _=W4 at h4 |-;clear hW H4 h3 x0 x1 x2 x3 x4 x5 z0 z1 z2 z3 z4 z5;replace h4:=h4.drew;refine Z01 [11] (by kernel_rfl) ?_;refine Z04 (fun w'=>∃(t:Int) (Z:Asr),Hold w0 w' (rdA g addr orec rv t bf vl cf*(blkA 50 ga #[.int .i64 a.kind,.int .i64 a.cell,.int .i64 a.index,.int .u64 a.got,.int .u64 a.put,.bool a.done]*Z))) (fun _ _=>trivial) _ _ _ _ ?_;refine' wbz [true,true,true,false,true,true,true] 97 ⟨_,_,h4⟩ ?_;refine' wbk [false,false,false,true,false,false,false,true,true] 97 ⟨_,_,h4⟩ (fun wq hq=>?_) ?_;rotate_left
 ·simp only[Z08]
  obtain⟨t,Z,hq⟩:=hq;have q4:=hq.blk.some_ (i:=4) (u:=.int .u64 bf) rfl;have y3:=hq.drop.blk.some_ (i:=3) rfl
  repeat (go_big_quiet_step (fail))
  exact wpQuiet_nil rfl
 refine' wbz [false,false,false,false,false,false,false,false,false,true,true] 97 ⟨_,_,h4⟩ ?_;refine wbj 11 (fuel:=3) (fun QB hQB hQX=>?_);replace h4:=h4.undrew;have q6:=h4.blk.some_ (i:=6) (u:=.bool cf) rfl;have q3:=h4.blk.some_ (i:=3) (u:=.int .i64 2) rfl;have z6:=h4.blk.frozen 6;have z3:=h4.blk.frozen 3;have H5:=hid ((h4.Zlp 6 (.bool (a.got != bf))).Zlp 3 (.int .i64 3));clear h4;go_wp2_with fail;refine hQB.out _ _ ?_;clear hQB hQX QB;refine Z06 (by kernel_rfl) ?_;refine' wby [false,false,false,false,false,false,false,false,false,false,false,false,true,true] 97 trivial ?_;refine wbi 14 (fuel:=0) (fun QB hQB hQX=>?_);go_wp2_with fail;refine hQB.out _ _ trivial ?_;clear hQB hQX QB;refine Z02 (by kernel_rfl) ?_ _;have h5:=H5.out;generalize hW:World.setCell _ _ _=W5 at h5 |-;clear hW H5 q6 q3 z6 z3;have h7:Hold w0 W5 (rdA g addr orec rv 3 bf vl (a.got != bf)*(blkA 50 ga #[.int .i64 a.kind,.int .i64 a.cell,.int .i64 a.index,.int .u64 a.got,.int .u64 a.put,.bool a.done]*(blkA 50 gr #[.int .i64 0,.int .i64 0,.int .i64 0,.int .u64 0,.int .u64 0,.bool false]*(memA m C*R)))):=h5;clear h5;obtain⟨⟨x0,x1,x2,x3,x4,x5⟩,z0,z1,z2,z3,z4,z5⟩:=Z07 (h7.pk3 [2,0,1]).blk;obtain⟨⟨y0,y1,y2,y3,y4,y5⟩,_⟩:=Z07 (h7.pk2 [1,0]).blk;have H8:=hid ((h7.pk3 [2,0,1]).Zls (.int .i64 a.kind) (.int .i64 a.cell) (.int .i64 a.index) (.int .u64 a.got) (.int .u64 a.put) (.bool a.done));clear h7;go_wp2_with fail;have h8:=H8.out;generalize hW:World.setCell _ _ _=W8 at h8 |-;clear hW H8 x0 x1 x2 x3 x4 x5 z0 z1 z2 z3 z4 z5 y0 y1 y2 y3 y4 y5;obtain⟨⟨y0,y1,y2,y3,y4,y5⟩,_⟩:=Z07 h8.blk;have hfin:Hid (Z0b w0 (rdA g addr orec rv 3 bf vl (a.got != bf)*(memA m C*R)) a (.returned a.val) W8.drew):=hid ⟨rfl,(h8.pk3 [1]).drew⟩;exact bodyPost_ret (v:=a.val) (by simp[results,Tryz.results144,go_sem,y0,y1,y2,y3,y4,y5]) rfl hfin.out
abbrev chkX (g:Nat) (zs:List Int) (rv:Int) (f:Bool) (x:Option Addr × Nat):Asr :=
 blkA 257 g #[.slice x.1 zs.length x.2,.int .i64 rv,.bool f]*slA x.1 zs.length x.2 (zs.map (Value.int .i64))
def chkA (g:Nat) (zs:List Int) (rv:Int) (f:Bool):Asr:=Asr.ex (chkX g zs rv f)
section
variable {w0 w:World} {R:Asr} {g:Nat} {zs:List Int} {rv:Int} {f:Bool}
theorem Hold.chkOpen (h:Hold w0 w (chkA g zs rv f*R)):∃A c,Hold w0 w (blkA 257 g #[.slice A zs.length c,.int .i64 rv,.bool f]*(slA A zs.length c (zs.map (Value.int .i64))*R)):=by
 obtain⟨⟨A,c⟩,h⟩:=h.exOpen;exact⟨A,c,h.part⟩
theorem Hold.chkShut {A:Option Addr} {c:Nat} (h:Hold w0 w (blkA 257 g #[.slice A zs.length c,.int .i64 rv,.bool f]*(slA A zs.length c (zs.map (Value.int .i64))*R))):Hold w0 w (chkA g zs rv f*R) :=
 Hold.exClose (x:=(A,c)) h.join
end
theorem Zet (w0 w:World) (R:Asr) (A:Option Addr) (n c bA:Nat) (xs:List Int) (rv:Int) (h:Hold w0 w R) (hA:Reads w bA A n (xs.map (Value.int .i64))) (hn:n<=1000000) :
  Calls Tryz.prog 160 #[.slice A n c,.int .i64 rv] w fun e w'=>∃g,e = .returned (.pointer (some ⟨g,0,none⟩))/\Hold w0 w' (chkA g xs rv false*R):=by
 have lx:xs.length=n:=by simpa using hA.len
 subst lx;go_enter Tryz.func160,Tryz.ntmps160;go_wp2_with fail;refine(Z1c _ A _ c bA xs hA hn).mono ?_;rintro e w1 ⟨A',c',rfl,hown,hc⟩;have h1:=(h.newRow hc hown (Nat.le_refl _)).imp (Imp.on _ (Imp.rowSl _ _ _ _ _));have h2:=h1.newBlk (t:=257) (cs:=#[.slice A' xs.length c',.int .i64 rv,.bool false]);have H2:=hid h2.chkShut;clear h h1 h2 hown hc hA;go_wp2_with fail;go_ret;exact⟨_,rfl,H2.out⟩
theorem Z4d (w0 w:World) (R:Asr) (g:Nat) (zs:List Int) (rv:Int) (f:Bool) (h:Hold w0 w (chkA g zs rv f*R)) :
  Calls Tryz.prog 163 #[.pointer (some ⟨g,0,none⟩)] w fun e w'=>e = .returned (.bool (f || zs.isEmpty))/\w=w':=by
 obtain⟨A,c,h1⟩:=h.chkOpen;have q0:=h1.blk.some_ (i:=0) rfl;have q2:=h1.blk.some_ (i:=2) rfl;clear h h1
 cases f
 ·cases zs with
  | nil =>
   go_enter Tryz.func163,Tryz.ntmps163;go_wp2;go_ret;exact⟨rfl,rfl⟩
  | cons z zs =>
   have e1:(((z::zs).length:Int)==0)=false:=by simp;omega
   go_enter Tryz.func163,Tryz.ntmps163;go_wp2;go_ret;exact⟨Z83 (by simp;try omega),rfl⟩
 ·go_enter Tryz.func163,Tryz.ntmps163
  go_wp2;go_ret;exact⟨rfl,rfl⟩
theorem Z70 (w0 w:World) (R:Asr) (g:Nat) (zs:List Int) (rv:Int) (f:Bool) (h:Hold w0 w (chkA g zs rv f*R)) :
  Calls Tryz.prog 165 #[.pointer (some ⟨g,0,none⟩)] w fun e w'=>e = .returned (.bool f)/\w=w':=by
 obtain⟨A,c,h1⟩:=h.chkOpen;have q2:=h1.blk.some_ (i:=2) rfl;clear h h1;go_enter Tryz.func165,Tryz.ntmps165;go_wp2;go_ret;exact⟨rfl,rfl⟩
theorem Zcf (w:World) (ad:Addr) (n c:Nat):(Instr.slice 23 (.slice (some ad) (n+1) c) (some (.int .i64 1)) none none).run Tryz.prog w = .ok (.slice (if c=1 then some ad else some (ad.add 1)) n (c - 1)) w:=by
 have hs:(sizeOf (Tryz.prog.elem 23)).run Tryz.prog w = .ok 1 w:=by kernel_rfl
 rw[run_slice_l w 23 (some ad) (n+1) c (by kernel_rfl) .i64 1 (by omega) (by omega),hs];simp[Result.andThen,sliced]
theorem Zc5 (w0 w:World) (R:Asr) (g m:Nat) (C:Nat->List Int) (z:Int) (zs:List Int) (rv:Int) (h:Hold w0 w (chkA g (z::zs) rv false*(memA m C*R))) (hC:COk C) (hz:-9223372036854775808<=z/\z<=9223372036854775807)
  (hv:0<=(opA C 1 2 z (valC C 2 z) true).got/\(opA C 1 2 z (valC C 2 z) true).got<18446744073709551616) :
  Calls Tryz.prog 164 #[.pointer (some ⟨g,0,none⟩),.pointer (some ⟨m,0,none⟩)] w
   (Z0b w0 (chkA g zs rv (decide (rv<(opA C 1 2 z (valC C 2 z) true).got / 64))*(memA m C*R)) (opA C 1 2 z (valC C 2 z) true)):=by
 obtain⟨a,ha⟩:∃a,a=opA C 1 2 z (valC C 2 z) true:=⟨_,rfl⟩;rw[<- ha] at hv |-;have HA:=hid ha;have HK:=hid hC;clear ha hC;have h1:=(nb h).swap;have H1:=hid h1;clear h h1;go_enter Tryz.func164,Tryz.ntmps164;go_wp2_with fail;have h1:=H1.out;generalize hW:World.alloc _ _=W at h1 |-;generalize w.heap.size=gr at h1 |-;clear hW H1;refine(Z4d w0 _ _ g (z::zs) rv false h1).mono ?_;rintro e w' ⟨rfl,rfl⟩;rw[show (false || (z::zs).isEmpty)=false from rfl];obtain⟨A,c,h2⟩:=h1.chkOpen;obtain⟨hnc,hcm,_⟩:=h2.swap.sl;obtain⟨ad,rfl,hz0,hzk⟩:=h2.swap.slAt (k:=0) (by simp);have q0:=h2.blk.some_ (i:=0) rfl;have hz1:W.cell? (ad.add 0)=some (.int .i64 z):=hz0;have hz2:W.cell? ad=some (.int .i64 z):=hz0;have hlen:0<(z::zs).length:=by simp
 clear h1 hz0 hzk;go_wp2_with fail;refine(Z13 w0 _ _ m C 2 z (h2.imp (Imp.fourth _ _ _ _ _)) hz HK.out.len).mono ?_;rintro e w1 ⟨rfl,h3⟩;rw[<- HA.out];generalize opE C 2 z=er;have h4:=(h3.fourth').newBlk (t:=50) (cs:=#[.int .i64 a.kind,.int .i64 a.cell,.int .i64 a.index,.int .u64 a.got,.int .u64 a.put,.bool a.done]);clear h2 h3 q0 hz1 hz2;have hsl:=fun w=>Zcf w ad zs.length c;obtain⟨A2,hA2⟩:∃A2,A2=if c=1 then some ad else some (ad.add 1):=⟨_,rfl⟩
 rw[<- hA2] at hsl;have HA2:=hid hA2;clear hA2;have q0:=h4.drop.blk.some_ (i:=0) (u:=.slice (some ad) (zs.length+1) c) rfl;have z0:=h4.drop.blk.frozen 0;have h5:=(h4.swap.Zlp 0 (.slice A2 zs.length (c - 1)));have H5:=hid h5;clear h4 h5;go_wp2_with fail;have h5:=H5.out;generalize hW:World.setCell _ _ _=W5 at h5 |-;generalize w1.heap.size=ga at h5 |-;clear hW H5 hsl q0 z0;have h6:Hold w0 W5 (blkA 257 g #[.slice A2 zs.length (c - 1),.int .i64 rv,.bool false]*(blkA 50 ga #[.int .i64 a.kind,.int .i64 a.cell,.int .i64 a.index,.int .u64 a.got,.int .u64 a.put,.bool a.done]*(slA A2 zs.length (c - 1) (zs.map (Value.int .i64))*(blkA 50 gr #[.int .i64 0,.int .i64 0,.int .i64 0,.int .u64 0,.int .u64 0,.bool false]*(memA m C*R))))):=by
  rw[HA2.out];rw[HA2.out] at h5;exact h5.imp (Imp.under _ (Imp.under _ (Imp.on _ (Imp.slTail _ _ _ _ _))))
 clear h5 HA2 hnc hcm hlen;replace h6:=h6.drew;refine Z01 [11] (by kernel_rfl) ?_;refine Z04 (fun w'=>∃Z,Hold w0 w' (blkA 257 g #[.slice A2 zs.length (c - 1),.int .i64 rv,.bool false]*(blkA 50 ga #[.int .i64 a.kind,.int .i64 a.cell,.int .i64 a.index,.int .u64 a.got,.int .u64 a.put,.bool a.done]*Z))) (fun _ _=>trivial) _ _ _ _ ?_;refine' wbk [true,true,true,false,true,true,true,true] 41 ⟨_,h6⟩ (fun wq hq=>?_) ?_;rotate_left
 ·simp only[Z08]
  obtain⟨Z,hq⟩:=hq;have q1:=hq.blk.some_ (i:=1) rfl;have q3:=hq.drop.blk.some_ (i:=3) rfl
  repeat (go_big_quiet_step (fail))
  exact wpQuiet_nil rfl
 refine wbi 3 (fuel:=4) (fun QB hQB hQX=>?_);go_wp2_with fail;refine(ver_any _ a.got hv.1 hv.2).mono ?_;rintro e w' ⟨rfl,rfl⟩;go_wp2_with fail;refine hQB.out _ _ ⟨_,h6⟩ ?_;clear hQB hQX QB;have q2:=h6.blk.some_ (i:=2) rfl;have z2:=h6.blk.frozen 2;refine' wbz [false,false,false,false,false,false,false,false,true,true,true] 41 ⟨_,h6⟩ ?_;refine wbj 11 (fuel:=0) (fun QB hQB hQX=>?_);go_wp2_with fail;refine hQB.out _ _ ?_;refine Z06 (by kernel_rfl) ?_;refine Z02 (by kernel_rfl) ?_ _;clear hQB hQX QB q2 z2;have h7:=h6.Zlp 2 (.bool (decide (rv<a.got / 64)));rw[World.setCell_drew] at h7;have H7:=hid h7;clear h6 h7;have h7:=H7.out;generalize hW:World.setCell _ _ _=W7 at h7 |-;clear hW H7;replace h7:=h7.undrew;obtain⟨⟨x0,x1,x2,x3,x4,x5⟩,z0,z1,z2,z3,z4,z5⟩:=Z07 (h7.fourth).blk;obtain⟨⟨y0,y1,y2,y3,y4,y5⟩,_⟩:=Z07 h7.drop.blk;have H8:=hid (h7.fourth.Zls (.int .i64 a.kind) (.int .i64 a.cell) (.int .i64 a.index) (.int .u64 a.got) (.int .u64 a.put) (.bool a.done));clear h7;go_wp2_with fail;have h8:=H8.out;generalize hW:World.setCell _ _ _=W8 at h8 |-;clear hW H8 x0 x1 x2 x3 x4 x5 z0 z1 z2 z3 z4 z5 y0 y1 y2 y3 y4 y5;obtain⟨⟨y0,y1,y2,y3,y4,y5⟩,_⟩:=Z07 h8.blk;have h9:Hold w0 W8 (blkA 257 g #[.slice A2 zs.length (c - 1),.int .i64 rv,.bool (decide (rv<a.got / 64))]*(slA A2 zs.length (c - 1) (zs.map (Value.int .i64))*(memA m C*R))):=h8.drop.imp (Imp.under _ (Imp.drop _ _));have hfin:Hid (Z0b w0 (chkA g zs rv (decide (rv<a.got / 64))*(memA m C*R)) a (.returned a.val) W8.drew):=hid ⟨rfl,h9.drew.chkShut⟩;exact bodyPost_ret (v:=a.val) (by simp[results,Tryz.results164,go_sem,y0,y1,y2,y3,y4,y5]) rfl hfin.out
theorem Zbc (w:World):(sizeOf (Tryz.prog.elem 23)).run Tryz.prog w = .ok 1 w:=by kernel_rfl
theorem Zbb (w:World):(sizeOf (Tryz.prog.elem 33)).run Tryz.prog w = .ok 1 w:=by kernel_rfl
structure WLay where
 A:Option Addr
 c:Nat
 B:Option Addr
 d:Nat
abbrev wrX (g:Nat) (ps vs:List Int) (x:WLay):Asr :=
 blkA 259 g #[.slice x.A ps.length x.c,.slice x.B ps.length x.d]*(slA x.A ps.length x.c (ps.map (Value.int .i64))*slA x.B ps.length x.d (vs.map (Value.int .u64)))
def wrA (g:Nat) (ps vs:List Int):Asr:=Asr.ex (wrX g ps vs)
section
variable {w0 w:World} {R:Asr} {g:Nat} {ps vs:List Int}
theorem Hold.wrOpen (h:Hold w0 w (wrA g ps vs*R)):∃A c B d,Hold w0 w (blkA 259 g #[.slice A ps.length c,.slice B ps.length d]*(slA A ps.length c (ps.map (Value.int .i64))*(slA B ps.length d (vs.map (Value.int .u64))*R))):=by
 obtain⟨⟨A,c,B,d⟩,h⟩:=h.exOpen;exact⟨A,c,B,d,h.part.imp (Imp.under _ (Imp.assoc _ _ _))⟩
theorem Hold.wrShut {A B:Option Addr} {c d:Nat} (h:Hold w0 w (blkA 259 g #[.slice A ps.length c,.slice B ps.length d]*(slA A ps.length c (ps.map (Value.int .i64))*(slA B ps.length d (vs.map (Value.int .u64))*R)))):Hold w0 w (wrA g ps vs*R) :=
 Hold.exClose (x:=⟨A,c,B,d⟩) (h.imp (Imp.under _ (Imp.assoc' _ _ _))).join
end
theorem Zjq (w0 w:World) (R:Asr) (A B:Option Addr) (n c m d:Nat) (xs ys:List Int) (h:Hold w0 w R) (hA:∀w',Hold w0 w' R->∃bA,Reads w' bA A n (xs.map (Value.int .i64))) (hB:∀w',Hold w0 w' R->∃bB,Reads w' bB B m (ys.map (Value.int .u64)))
  (hn:n<=1000) (hm:m<=1000) (hc:n<=c) (hd:m<=d) (k:Nat) (hk:k=min n m) :
  Calls Tryz.prog 168 #[.slice A n c,.slice B m d] w fun e w'=>∃g,e = .returned (.pointer (some ⟨g,0,none⟩))/\Hold w0 w' (wrA g (xs.take k) (ys.take k)*R):=by
 have lx:xs.length=n:=by obtain⟨_,hq⟩:=hA w h;have:=hq.len;simpa using this
 have ly:ys.length=m:=by obtain⟨_,hq⟩:=hB w h;have:=hq.len;simpa using this
 have hk1:k<=n/\k<=m:=by omega
 have hmin:min (n:Int) (m:Int)=(k:Int):=by omega
 have s1:=fun w=>Z2p (P:=Tryz.prog) 23 (by kernel_rfl) Zbc w A n c k (by omega);have s2:=fun w=>Z2p (P:=Tryz.prog) 33 (by kernel_rfl) Zbb w B m d k (by omega);have HA:Hid (∀w',Hold w0 w' R->∃bA,Reads w' bA A k ((xs.take k).map (Value.int .i64))):=hid fun w' h'=>by obtain⟨b,hq⟩:=hA w' h';have:=hq.take hk1.1;exact⟨b,by rwa [<- List.map_take] at this⟩
 have HB:Hid (∀w',Hold w0 w' R->∃bB,Reads w' bB B k ((ys.take k).map (Value.int .u64))):=hid fun w' h'=>by obtain⟨b,hq⟩:=hB w' h';have:=hq.take hk1.2;exact⟨b,by rwa [<- List.map_take] at this⟩
 have hl:(xs.take k).length=k:=by simp;omega
 have HL:=hid hl;clear hA hB lx ly hl;rcases Nat.lt_or_ge m n with hnm|hnm
 ·obtain rfl:m=k:=by omega
  clear hk;go_enter Tryz.func168,Tryz.ntmps168;go_wp2_with fail;clear hmin;replace h:=h.drew;refine Z01 [] (by kernel_rfl) ?_;refine' wby [true,true,true,false,true,true,true] 21 trivial ?_;refine wbi 3 (fuel:=4) (fun QB hQB hQX=>?_);go_wp2_with fail;obtain⟨bA,hra⟩:=HA.out _ h;refine(Z1c _ A m c bA (xs.take m) hra (by omega)).mono ?_;rintro e w1 ⟨A1,c1,rfl,hown,hc1⟩;have h1:=(h.newRow hc1 hown (Nat.le_refl _)).imp (Imp.on _ (Imp.rowSl _ _ _ _ _));clear h hown hc1;go_wp2_with fail;refine hQB.out _ _ trivial ?_;clear hQB hQX QB;refine wbi 7 (fuel:=3) (fun QB hQB hQX=>?_);go_wp2_with fail;obtain⟨bB,hrb⟩:=HB.out _ h1.drop;refine(Z0t _ B m d bB (ys.take m) hrb (by omega)).mono ?_;rintro e w2 ⟨B1,d1,rfl,hown,hc2⟩;have h2:=(h1.newRow hc2 hown (Nat.le_refl _)).imp (Imp.on _ (Imp.rowSl _ _ _ _ _));have h3:=h2.newBlk (t:=259) (cs:=#[.slice A1 m c1,.slice B1 m d1]);have H3:=hid h3;clear h1 h2 h3 hown hc2;go_wp2_with fail;refine hQB.out _ _ trivial ?_;clear hQB hQX QB;refine' wby [false,false,false,false,false,false,false,false,true] 21 trivial ?_;refine wbi 9 (fuel:=1) (fun QB hQB hQX=>?_);go_wp2_with fail;refine hQB.out _ _ trivial ?_;clear hQB hQX QB;refine' wby [false,false,false,false,false,false,false,false,false,false,true] 21 trivial ?_;refine Z02 (by kernel_rfl) ?_ _;have H4:Hid (Hold w0 _ (wrA w2.heap.size (xs.take m) (ys.take m)*R)):=hid (Hold.wrShut (by rw[HL.out];exact H3.out.pk3 [0,2,1]));clear s1 s2;go_wp2_with fail;go_ret;exact⟨_,rfl,H4.out⟩
 ·obtain rfl:n=k:=by omega
  clear hk;go_enter Tryz.func168,Tryz.ntmps168;go_wp2_with fail;clear hmin;replace h:=h.drew;refine Z01 [] (by kernel_rfl) ?_;refine' wby [true,true,true,false,true,true,true] 21 trivial ?_;refine wbi 3 (fuel:=4) (fun QB hQB hQX=>?_);go_wp2_with fail;obtain⟨bA,hra⟩:=HA.out _ h;refine(Z1c _ A n c bA (xs.take n) hra (by omega)).mono ?_;rintro e w1 ⟨A1,c1,rfl,hown,hc1⟩;have h1:=(h.newRow hc1 hown (Nat.le_refl _)).imp (Imp.on _ (Imp.rowSl _ _ _ _ _));clear h hown hc1;go_wp2_with fail;refine hQB.out _ _ trivial ?_;clear hQB hQX QB;refine wbi 7 (fuel:=3) (fun QB hQB hQX=>?_);go_wp2_with fail;obtain⟨bB,hrb⟩:=HB.out _ h1.drop;refine(Z0t _ B n d bB (ys.take n) hrb (by omega)).mono ?_;rintro e w2 ⟨B1,d1,rfl,hown,hc2⟩;have h2:=(h1.newRow hc2 hown (Nat.le_refl _)).imp (Imp.on _ (Imp.rowSl _ _ _ _ _));have h3:=h2.newBlk (t:=259) (cs:=#[.slice A1 n c1,.slice B1 n d1]);have H3:=hid h3;clear h1 h2 h3 hown hc2;go_wp2_with fail;refine hQB.out _ _ trivial ?_;clear hQB hQX QB;refine' wby [false,false,false,false,false,false,false,false,true] 21 trivial ?_;refine wbi 9 (fuel:=1) (fun QB hQB hQX=>?_);go_wp2_with fail;refine hQB.out _ _ trivial ?_;clear hQB hQX QB;refine' wby [false,false,false,false,false,false,false,false,false,false,true] 21 trivial ?_;refine Z02 (by kernel_rfl) ?_ _;have H4:Hid (Hold w0 _ (wrA w2.heap.size (xs.take n) (ys.take n)*R)):=hid (Hold.wrShut (by rw[HL.out];exact H3.out.pk3 [0,2,1]));clear s1 s2;go_wp2_with fail;go_ret;exact⟨_,rfl,H4.out⟩
theorem Z9l (w0 w:World) (R:Asr) (g:Nat) (ps vs:List Int) (h:Hold w0 w (wrA g ps vs*R)) :
  Calls Tryz.prog 171 #[.pointer (some ⟨g,0,none⟩)] w fun e w'=>e = .returned (.bool ps.isEmpty)/\w=w':=by
 obtain⟨A,c,B,d,h1⟩:=h.wrOpen;have q0:=h1.blk.some_ (i:=0) rfl;clear h h1
 cases ps with
 | nil =>
  go_enter Tryz.func171,Tryz.ntmps171;go_wp2;go_ret;exact⟨rfl,rfl⟩
 | cons z zs =>
  have e1:(((z::zs).length:Int)==0)=false:=by simp;omega
  go_enter Tryz.func171,Tryz.ntmps171;go_wp2;go_ret;exact⟨Z83 (by simp;try omega),rfl⟩
theorem Zd1 (w0 w:World) (R:Asr) (g m:Nat) (C:Nat->List Int) (z x:Int) (zs xs:List Int) (h:Hold w0 w (wrA g (z::zs) (x::xs)*(memA m C*R))) (hC:COk C) (hz:-9223372036854775808<=z/\z<=9223372036854775807) :
  Calls Tryz.prog 170 #[.pointer (some ⟨g,0,none⟩),.pointer (some ⟨m,0,none⟩)] w
   (Z0b w0 (wrA g zs xs*(memA m (opC C 1 z x true)*R)) (opA C 2 1 z x true)):=by
 obtain⟨a,ha⟩:∃a,a=opA C 2 1 z x true:=⟨_,rfl⟩;obtain⟨C',hC'⟩:∃C',C'=opC C 1 z x true:=⟨_,rfl⟩;rw[<- ha,<- hC'];have HA:=hid ha;have HC':=hid hC';have HK:=hid hC;clear ha hC hC';have h1:=(nb h).swap;have H1:=hid h1;clear h h1;go_enter Tryz.func170,Tryz.ntmps170;go_wp2_with fail;have h1:=H1.out;generalize hW:World.alloc _ _=W at h1 |-;generalize w.heap.size=gr at h1 |-;clear hW H1;refine(Z9l w0 _ _ g (z::zs) (x::xs) h1).mono ?_;rintro e w' ⟨rfl,rfl⟩;rw[show (z::zs).isEmpty=false from rfl];obtain⟨A,c,B,d,h2⟩:=h1.wrOpen;obtain⟨ad,rfl,hat⟩:=(h2.pk3 [1,0,2]).slAt2 (k:=0) (by simp);obtain⟨bd,rfl,hbt⟩:=(h2.pk3 [2,0,1]).slAt2 (k:=0) (by simp);have HAT:Hid (∀w' R',Hold w0 w' (slA (some ad) (z::zs).length c ((z::zs).map (Value.int .i64))*R')->w'.cell? (ad.add 0)=some (.int .i64 z)):=hid hat;have HBT:Hid (∀w' R',Hold w0 w' (slA (some bd) (z::zs).length d ((x::xs).map (Value.int .u64))*R')->w'.cell? (bd.add 0)=some (.int .u64 x)):=hid hbt;have hlen:0<(z::zs).length:=by simp
 have hlen2:0<zs.length+1:=by omega
 have hxl:xs.length=zs.length:=by have:=(h2.pk3 [2,0,1]).slLen;simpa using this
 clear h1 hat hbt;go_upto_region 3 with fail
 go_cut [5] (fun s wx=>∃ga,s = .pointer (some ⟨ga,0,none⟩)/\Hold w0 wx (blkA 50 ga #[.int .i64 a.kind,.int .i64 a.cell,.int .i64 a.index,.int .u64 a.got,.int .u64 a.put,.bool a.done]*(blkA 259 g #[.slice (some ad) (z::zs).length c,.slice (some bd) (z::zs).length d]*(slA (some ad) (z::zs).length c ((z::zs).map (Value.int .i64))*(slA (some bd) (z::zs).length d ((x::xs).map (Value.int .u64))*(blkA 50 gr #[.int .i64 0,.int .i64 0,.int .i64 0,.int .u64 0,.int .u64 0,.bool false]*(memA m C'*R)))))))
 case first =>
  replace h2:=h2.drew;refine Z01 [18] (by kernel_rfl) ?_;refine Z04 (fun w'=>∃Z,Hold w0 w' (blkA 259 g #[.slice (some ad) (z::zs).length c,.slice (some bd) (z::zs).length d]*(slA (some ad) (z::zs).length c ((z::zs).map (Value.int .i64))*(slA (some bd) (z::zs).length d ((x::xs).map (Value.int .u64))*Z)))) (fun _ _=>trivial) _ _ _ _ ?_;refine' wbk [true,true,true,true,true,true,true,true,true,true,true,true,true] 44 ⟨_,h2⟩ (fun wq hq=>?_) ?_;rotate_left
  ·simp only[Z08]
   obtain⟨Z,hq⟩:=hq;have q0:=hq.blk.some_ (i:=0) rfl;have q1:=hq.blk.some_ (i:=1) rfl;have q2:=HAT.out wq _ (hq.pk3 [1,0,2]);have q3:=HBT.out wq _ (hq.pk3 [2,0,1]);have q4:wq.cell? ad=some (.int .i64 z):=q2;have q5:wq.cell? bd=some (.int .u64 x):=q3
   repeat (go_big_quiet_step (fail))
   exact wpQuiet_nil rfl
  refine Z0f [false,false,false,false,false,false,false,false,false,false,false,false,false,true] [false,false,false,false,false,false,false,false,false,false,false,false,false,false,false,false,false,true] (fuel:=6) (by rfl) (by rfl) (by rfl) (by rfl) (by kernel_rfl) (fun QB hQB hQX=>?_) (fun QB hQB hQX=>?_)
  ·simp only[Z08]
   go_wp2_with fail
   first
    | refine(Z0z w0 _ _ m C 1 z x (h4.pk6 [5,0,1,2,3,4]) hz HK.out.len).mono ?_
    | refine(Z0z w0 _ _ m C 1 z x (h2.pk5 [4,0,1,2,3]) hz HK.out.len).mono ?_
   rintro e w2 ⟨rfl,h5⟩;rw[<- HA.out];rw[<- HC'.out] at h5;generalize opE C 1 z=er;go_wp2_with fail;refine hQB.out _ _ (by first|exact⟨_,h5.pk6 [2,3,4,5,1,0]⟩|exact⟨_,h5.pk5 [1,2,3,4,0]⟩) ?_;clear hQB hQX QB;refine' wbz [false,false,false,false,false,false,false,false,false,false,false,false,false,false,true,true,true] 44 (by first|exact⟨_,h5.pk6 [2,3,4,5,1,0]⟩|exact⟨_,h5.pk5 [1,2,3,4,0]⟩) ?_;refine wbi 17 (fuel:=2) (fun QB hQB hQX=>?_)
   first
    | have h4:=hid ((h5.pk5 [1,2,3,4,0]).newBlk (t:=50) (cs:=#[.int .i64 0,.int .i64 0,.int .i64 0,.int .u64 0,.int .u64 0,.bool false]))
    | have h4:=hid ((nb h2.undrew).drew)
   go_wp2_with fail;refine hQB.out _ _ ⟨_,h4.out.drop⟩ ?_;clear hQB hQX QB;replace h4:=h4.out;generalize hW:World.alloc _ _=W4 at h4 |-;clear hW
   first|generalize w2.heap.size=ga at h4 |- | generalize W.heap.size=ga at h4 |-
   refine wbj 18 (fuel:=1) (fun QB hQB hQX=>?_)
   first|have hf:=h5.pk6 [1,2,3,4,5,0]|have hf:=h4
   obtain⟨⟨x0,x1,x2,x3,x4,x5⟩,z0,z1,z2,z3,z4,z5⟩:=Z07 hf.blk;have H8:=hid (hf.Zls (.int .i64 a.kind) (.int .i64 a.cell) (.int .i64 a.index) (.int .u64 a.got) (.int .u64 a.put) (.bool a.done));clear hf h2 h4 h5;go_wp2_with fail;refine hQB.out _ _ ?_;clear hQB hQX QB;refine Z06 (by kernel_rfl) ?_;refine' wby [false,false,false,false,false,false,false,false,false,false,false,false,false,false,false,false,false,false,false,true] 44 trivial ?_;refine Z02 (by kernel_rfl) ?_ _;clear x0 x1 x2 x3 x4 x5 z0 z1 z2 z3 z4 z5;go_wp2_with fail;go_meet;exact⟨ga,rfl,H8.out⟩
  ·simp only[Z08]
   first
    | have h4:=hid ((h5.pk5 [1,2,3,4,0]).newBlk (t:=50) (cs:=#[.int .i64 0,.int .i64 0,.int .i64 0,.int .u64 0,.int .u64 0,.bool false]))
    | have h4:=hid ((nb h2.undrew).drew)
   go_wp2_with fail;refine hQB.out _ _ ⟨_,h4.out.drop⟩ ?_;clear hQB hQX QB;replace h4:=h4.out;generalize hW:World.alloc _ _=W4 at h4 |-;clear hW
   first|generalize w2.heap.size=ga at h4 |- | generalize W.heap.size=ga at h4 |-
   refine wbi 13 (fuel:=5) (fun QB hQB hQX=>?_);go_wp2_with fail
   first
    | refine(Z0z w0 _ _ m C 1 z x (h4.pk6 [5,0,1,2,3,4]) hz HK.out.len).mono ?_
    | refine(Z0z w0 _ _ m C 1 z x (h2.pk5 [4,0,1,2,3]) hz HK.out.len).mono ?_
   rintro e w2 ⟨rfl,h5⟩;rw[<- HA.out];rw[<- HC'.out] at h5;generalize opE C 1 z=er;go_wp2_with fail;refine hQB.out _ _ (by first|exact⟨_,h5.pk6 [2,3,4,5,1,0]⟩|exact⟨_,h5.pk5 [1,2,3,4,0]⟩) ?_;clear hQB hQX QB;refine' wbz [false,false,false,false,false,false,false,false,false,false,false,false,false,false,true,true,true] 44 (by first|exact⟨_,h5.pk6 [2,3,4,5,1,0]⟩|exact⟨_,h5.pk5 [1,2,3,4,0]⟩) ?_;refine wbj 18 (fuel:=1) (fun QB hQB hQX=>?_)
   first|have hf:=h5.pk6 [1,2,3,4,5,0]|have hf:=h4
   obtain⟨⟨x0,x1,x2,x3,x4,x5⟩,z0,z1,z2,z3,z4,z5⟩:=Z07 hf.blk;have H8:=hid (hf.Zls (.int .i64 a.kind) (.int .i64 a.cell) (.int .i64 a.index) (.int .u64 a.got) (.int .u64 a.put) (.bool a.done));clear hf h2 h4 h5;go_wp2_with fail;refine hQB.out _ _ ?_;clear hQB hQX QB;refine Z06 (by kernel_rfl) ?_;refine' wby [false,false,false,false,false,false,false,false,false,false,false,false,false,false,false,false,false,false,false,true] 44 trivial ?_;refine Z02 (by kernel_rfl) ?_ _;clear x0 x1 x2 x3 x4 x5 z0 z1 z2 z3 z4 z5;go_wp2_with fail;go_meet;exact⟨ga,rfl,H8.out⟩
 case rest =>
 obtain⟨ga,rfl,h5⟩:=hcut;clear HAT HBT h2 hlen hlen2;have t1:=fun w=>Z1x (P:=Tryz.prog) 23 (by kernel_rfl) Zbc w ad zs.length c;have t2:=fun w=>Z1x (P:=Tryz.prog) 33 (by kernel_rfl) Zbb w bd zs.length d;obtain⟨A2,hA2⟩:∃A2,A2=if c=1 then some ad else some (ad.add 1):=⟨_,rfl⟩
 obtain⟨B2,hB2⟩:∃B2,B2=if d=1 then some bd else some (bd.add 1):=⟨_,rfl⟩
 rw[<- hA2] at t1;rw[<- hB2] at t2;have HA2:=hid hA2;have HB2:=hid hB2;have HXL:=hid hxl;clear hA2 hB2 hxl;replace h5:=h5.pk3 [1,0,2];go_wp2_with fail;replace h5:=h5.drew;refine Z01 [14,17] (by kernel_rfl) ?_;refine Z04 (fun w'=>∃Z,Hold w0 w' (blkA 259 g #[.slice (some ad) (zs.length+1) c,.slice (some bd) (zs.length+1) d]*Z)) (fun _ _=>trivial) _ _ _ _ ?_;refine' wbz [true,true,true,true,true,false,false,true,true,true] 44 ⟨_,h5⟩ ?_;refine' wbk [false,false,false,false,false,true,true,false,false,false,true] 44 ⟨_,h5⟩ (fun wq hq=>?_) ?_;rotate_left
 ·simp only[Z08]
  obtain⟨Z,hq⟩:=hq;have q0:=hq.blk.some_ (i:=0) rfl;have q1:=hq.blk.some_ (i:=1) rfl
  repeat (go_big_quiet_step (fail))
  exact wpQuiet_nil rfl
 refine' wbz [false,false,false,false,false,false,false,false,false,false,false,true,true,true] 44 ⟨_,h5⟩ ?_;refine wbj 14 (fuel:=3) (fun QB hQB hQX=>?_);replace h5:=h5.undrew;have q0:=h5.blk.some_ (i:=0) (u:=.slice (some ad) (zs.length+1) c) rfl;have q1:=h5.blk.some_ (i:=1) (u:=.slice (some bd) (zs.length+1) d) rfl;have z0:=h5.blk.frozen 0;have z1:=h5.blk.frozen 1;have h6:=(h5.Zlp 0 (.slice A2 zs.length (c - 1))).Zlp 1 (.slice B2 zs.length (d - 1));have H6:=hid h6;clear h5 h6;go_wp2_with fail;refine hQB.out _ _ ?_;clear hQB hQX QB;refine Z06 (by kernel_rfl) ?_;refine' wby [false,false,false,false,false,false,false,false,false,false,false,false,false,false,false,true,true] 44 trivial ?_;refine wbi 17 (fuel:=0) (fun QB hQB hQX=>?_);go_wp2_with fail;refine hQB.out _ _ trivial ?_;clear hQB hQX QB;refine Z02 (by kernel_rfl) ?_ _;clear q0 q1 z0 z1 t1 t2;have h6:=H6.out;generalize hW:World.setCell _ _ _=W6 at h6 |-;clear hW H6;have h7:Hold w0 W6 (blkA 259 g #[.slice A2 zs.length (c - 1),.slice B2 zs.length (d - 1)]*(blkA 50 ga #[.int .i64 a.kind,.int .i64 a.cell,.int .i64 a.index,.int .u64 a.got,.int .u64 a.put,.bool a.done]*(slA A2 zs.length (c - 1) (zs.map (Value.int .i64))*(slA B2 zs.length (d - 1) (xs.map (Value.int .u64))*(blkA 50 gr #[.int .i64 0,.int .i64 0,.int .i64 0,.int .u64 0,.int .u64 0,.bool false]*(memA m C'*R)))))):=by
  rw[HA2.out,HB2.out];rw[HA2.out,HB2.out] at h6;exact h6.imp (Imp.under _ (Imp.under _ ((Imp.on _ (Imp.slTail _ _ _ _ _)).trans (Imp.under _ (Imp.on _ (Imp.slTail _ _ _ _ _))))))
 clear h6 HA2 HB2;obtain⟨⟨x0,x1,x2,x3,x4,x5⟩,z0,z1,z2,z3,z4,z5⟩:=Z07 (h7.pk5 [4,0,1,2,3]).blk;obtain⟨⟨y0,y1,y2,y3,y4,y5⟩,_⟩:=Z07 h7.drop.blk;have H8:=hid ((h7.pk5 [4,0,1,2,3]).Zls (.int .i64 a.kind) (.int .i64 a.cell) (.int .i64 a.index) (.int .u64 a.got) (.int .u64 a.put) (.bool a.done));clear h7;go_wp2_with fail;have h8:=H8.out;generalize hW:World.setCell _ _ _=W8 at h8 |-;clear hW H8 x0 x1 x2 x3 x4 x5 z0 z1 z2 z3 z4 z5 y0 y1 y2 y3 y4 y5;obtain⟨⟨y0,y1,y2,y3,y4,y5⟩,_⟩:=Z07 h8.blk;have h9:Hold w0 W8 (blkA 259 g #[.slice A2 zs.length (c - 1),.slice B2 zs.length (d - 1)]*(slA A2 zs.length (c - 1) (zs.map (Value.int .i64))*(slA B2 zs.length (d - 1) (xs.map (Value.int .u64))*(memA m C'*R)))):=h8.pk5 [1,3,4];have hfin:Hid (Z0b w0 (wrA g zs xs*(memA m C'*R)) a (.returned a.val) W8.drew):=hid ⟨rfl,h9.drew.wrShut⟩;exact bodyPost_ret (v:=a.val) (by simp[results,Tryz.results170,go_sem,y0,y1,y2,y3,y4,y5]) rfl hfin.out
end Go.Proofs.YtmlfangeanmmeaaGreatDoor
