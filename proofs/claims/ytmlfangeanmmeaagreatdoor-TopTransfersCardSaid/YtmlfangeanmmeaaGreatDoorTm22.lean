/-
  What the proof of TopTransfers leans on, part 22 of 48: Ep. No statement of its own.
-/
import Derived.Test.YtmlfangeanmmeaaGreatDoorTm1
import Derived.Test.YtmlfangeanmmeaaGreatDoorTm20
import Derived.Test.YtmlfangeanmmeaaGreatDoorTm21
import Derived.Deep.DeepCutAuto
import Derived.Deep.CutBlock
namespace Go.Proofs.YtmlfangeanmmeaaGreatDoor
set_option maxRecDepth 8000
open Go.RowKit
set_option linter.unusedVariables false
abbrev enA (g:Nat) (th nx ck:Int):Asr:=blkA 246 g #[.int .i64 th,.int .i64 nx,.int .u64 ck]
theorem Zlp (w0 w:World) (R:Asr) (th:Int) (h:Hold w0 w R):Calls Tryz.prog 189 #[.int .i64 th] w fun e w'=>∃ g,e = .returned (.pointer (some ⟨g,0,none⟩))∧Hold w0 w' (enA g th 0 0*R):=by
  have H:=hid (h.newBlk (t:=246) (cs:=#[.int .i64 th,.int .i64 0,.int .u64 0]))
  clear h
  go_enter Tryz.func189,Tryz.ntmps189
  go_wp2
  go_ret
  exact ⟨_,rfl,H.out⟩
theorem Zbk (w0 w:World) (R:Asr) (g:Nat) (th nx ck:Int) (h:Hold w0 w (enA g th nx ck*R)):Calls Tryz.prog 143 #[.pointer (some ⟨g,0,none⟩)] w fun e w'=>e = .returned (.bool (nx == 3))∧w=w':=by
  have q:=h.blk.some_ (i:=1) rfl
  clear h
  go_enter Tryz.func143,Tryz.ntmps143
  go_wp2
  go_ret
  exact ⟨rfl,rfl⟩
def Z3j (nx ck:Int):Int:=if nx≤1 then -1 else ck
theorem Z59 (w0 w:World) (R:Asr) (g:Nat) (th nx ck:Int) (h:Hold w0 w (enA g th nx ck*R)) (h0:0≤ck∧ck≤9223372036854775807):Calls Tryz.prog 141 #[.pointer (some ⟨g,0,none⟩)] w fun e w'=>e = .returned (.int .i64 (Z3j nx ck))∧w=w':=by
  have q1:=h.blk.some_ (i:=1) rfl
  have q2:=h.blk.some_ (i:=2) rfl
  clear h
  by_cases hn:nx≤1
  · have e1:decide (nx≤1)=true:=decide_eq_true hn
    rw [show Z3j nx ck=-1 from if_pos hn]
    clear hn
    go_enter Tryz.func141,Tryz.ntmps141
    go_wp2
    go_ret
    exact ⟨rfl,rfl⟩
  · have e1:decide (nx≤1)=false:=decide_eq_false hn
    rw [show Z3j nx ck=ck from if_neg hn]
    clear hn
    go_enter Tryz.func141,Tryz.ntmps141
    go_wp2
    go_ret
    exact ⟨rfl,rfl⟩
set_option maxRecDepth 8000 in
set_option maxHeartbeats 4000000 in
theorem Zhn (w0 w:World) (R:Asr) (g m:Nat) (C:Nat→List Int) (th ck:Int) (a:Acc) (h:Hold w0 w (enA g th 0 ck*(memA m C*R))) (hC:COk C) (hx:-9223372036854775808≤th∧th≤9223372036854775807) (ha:opA C 2 6 th 1 true=a) :
    Calls Tryz.prog 142 #[.pointer (some ⟨g,0,none⟩),.pointer (some ⟨m,0,none⟩)] w (Z0d w0 (enA g th 1 ck*(memA m (opC C 6 th 1 true)*R)) a):=by
  have HA:=hid ha
  have HK:=hid hC
  have h1:=(nb h).newBlk (t:=50) (cs:=#[.int .i64 0,.int .i64 0,.int .i64 0,.int .u64 0,.int .u64 0,.bool false])
  simp only [World.size_alloc] at h1
  have H1:=hid h1
  have n1:=h.blk.lt
  have n2:g ≠ w.heap.size:=by omega
  have n3:g ≠ w.heap.size + 1:=by omega
  have p0:=h.blk.some_ (i:=0) rfl
  have p1:=h.blk.some_ (i:=1) rfl
  clear h h1 ha hC
  go_enter Tryz.func142,Tryz.ntmps142
  go_wp2_with fail
  have h1:=H1.out
  generalize hW:World.alloc _ _=W at h1 ⊢
  generalize w.heap.size + 1=ga at h1 ⊢
  generalize w.heap.size=gr at h1 ⊢
  clear hW H1 n1 n2 n3 p0 p1
  refine (Z13 w0 _ _ m C 6 th 1 (h1.pk4 [3,0,1,2]) hx HK.out.len).mono ?_
  rintro e w1 ⟨rfl,h2⟩
  rw [HA.out]
  generalize opE C 6 th=er
  have h3:Hold w0 w1 (blkA 50 ga #[.int .i64 0,.int .i64 0,.int .i64 0,.int .u64 0,.int .u64 0,.bool false]*(enA g th 0 ck*(blkA 50 gr #[.int .i64 0,.int .i64 0,.int .i64 0,.int .u64 0,.int .u64 0,.bool false]*(memA m (opC C 6 th 1 true)*R)))):=h2.pk4 [1,3,2,0]
  obtain ⟨⟨x0,x1,x2,x3,x4,x5⟩,z0,z1,z2,z3,z4,z5⟩:=Z09 h3.blk
  have H4:=hid (h3.Zma (.int .i64 a.kind) (.int .i64 a.cell) (.int .i64 a.index) (.int .u64 a.got) (.int .u64 a.put) (.bool a.done)).swap
  clear h1 h2 h3
  go_upto_region 11 with fail
  have h4:=H4.out
  generalize hW:World.setCell _ _ _=W4 at h4 ⊢
  clear hW H4 x0 x1 x2 x3 x4 x5 z0 z1 z2 z3 z4 z5
  have q1:=h4.blk.some_ (i:=1) (u:=.int .i64 0) rfl
  have s1:=h4.blk.frozen 1
  have H5:=hid (h4.Zm7 1 (.int .i64 1))
  clear h4
  go_upto_region 12 with fail
  have h5:=H5.out
  generalize hW:World.setCell _ _ _=W5 at h5 ⊢
  clear hW H5 q1 s1
  have h7:Hold w0 W5 (enA g th 1 ck*(blkA 50 ga #[.int .i64 a.kind,.int .i64 a.cell,.int .i64 a.index,.int .u64 a.got,.int .u64 a.put,.bool a.done]*(blkA 50 gr #[.int .i64 0,.int .i64 0,.int .i64 0,.int .u64 0,.int .u64 0,.bool false]*(memA m (opC C 6 th 1 true)*R)))):=h5
  clear h5
  obtain ⟨⟨x0,x1,x2,x3,x4,x5⟩,z0,z1,z2,z3,z4,z5⟩:=Z09 (h7.pk3 [2,0,1]).blk
  obtain ⟨⟨y0,y1,y2,y3,y4,y5⟩,_⟩:=Z09 (h7.pk2 [1,0]).blk
  have H8:=hid ((h7.pk3 [2,0,1]).Zma (.int .i64 a.kind) (.int .i64 a.cell) (.int .i64 a.index) (.int .u64 a.got) (.int .u64 a.put) (.bool a.done))
  clear h7
  go_wp2_with fail
  have h8:=H8.out
  generalize hW:World.setCell _ _ _=W8 at h8 ⊢
  clear hW H8 x0 x1 x2 x3 x4 x5 z0 z1 z2 z3 z4 z5 y0 y1 y2 y3 y4 y5
  obtain ⟨⟨y0,y1,y2,y3,y4,y5⟩,_⟩:=Z09 h8.blk
  have hfin:Hid (Z0d w0 (enA g th 1 ck*(memA m (opC C 6 th 1 true)*R)) a (.returned a.val) W8):=hid ⟨rfl,h8.pk3 [1]⟩
  exact bodyPost_ret (v:=a.val) (by simp [results,Tryz.results142,go_sem,y0,y1,y2,y3,y4,y5]) rfl hfin.out
set_option maxRecDepth 8000 in
set_option maxHeartbeats 4000000 in
theorem Zhm (w0 w:World) (R:Asr) (g m:Nat) (C:Nat→List Int) (th ck:Int) (a:Acc) (h:Hold w0 w (enA g th 1 ck*(memA m C*R))) (hC:COk C) (ha:opA C 1 3 0 (valC C 3 0) true=a) :
    Calls Tryz.prog 142 #[.pointer (some ⟨g,0,none⟩),.pointer (some ⟨m,0,none⟩)] w (Z0d w0 (enA g th 2 a.got*(memA m C*R)) a):=by
  have HA:=hid ha
  have HK:=hid hC
  have h1:=(nb h).newBlk (t:=50) (cs:=#[.int .i64 0,.int .i64 0,.int .i64 0,.int .u64 0,.int .u64 0,.bool false])
  simp only [World.size_alloc] at h1
  have H1:=hid h1
  have n1:=h.blk.lt
  have n2:g ≠ w.heap.size:=by omega
  have n3:g ≠ w.heap.size + 1:=by omega
  have p0:=h.blk.some_ (i:=0) rfl
  have p1:=h.blk.some_ (i:=1) rfl
  clear h h1 ha hC
  go_enter Tryz.func142,Tryz.ntmps142
  go_wp2_with fail
  have h1:=H1.out
  generalize hW:World.alloc _ _=W at h1 ⊢
  generalize w.heap.size + 1=ga at h1 ⊢
  generalize w.heap.size=gr at h1 ⊢
  clear hW H1 n1 n2 n3 p0 p1
  refine (Z1r w0 _ _ m C 3 0 (h1.pk4 [3,0,1,2]) (by omega) HK.out.len).mono ?_
  rintro e w1 ⟨rfl,h2⟩
  rw [HA.out]
  generalize opE C 3 0=er
  have h3:Hold w0 w1 (blkA 50 ga #[.int .i64 0,.int .i64 0,.int .i64 0,.int .u64 0,.int .u64 0,.bool false]*(enA g th 1 ck*(blkA 50 gr #[.int .i64 0,.int .i64 0,.int .i64 0,.int .u64 0,.int .u64 0,.bool false]*(memA m C*R)))):=h2.pk4 [1,3,2,0]
  obtain ⟨⟨x0,x1,x2,x3,x4,x5⟩,z0,z1,z2,z3,z4,z5⟩:=Z09 h3.blk
  have H4:=hid (h3.Zma (.int .i64 a.kind) (.int .i64 a.cell) (.int .i64 a.index) (.int .u64 a.got) (.int .u64 a.put) (.bool a.done)).swap
  clear h1 h2 h3
  go_upto_region 8 with fail
  have h4:=H4.out
  generalize hW:World.setCell _ _ _=W4 at h4 ⊢
  clear hW H4 x0 x1 x2 x3 x4 x5 z0 z1 z2 z3 z4 z5
  have y3:=h4.drop.blk.some_ (i:=3) rfl
  have q1:=h4.blk.some_ (i:=1) (u:=.int .i64 1) rfl
  have q2:=h4.blk.some_ (i:=2) (u:=.int .u64 ck) rfl
  have s1:=h4.blk.frozen 1
  have s2:=h4.blk.frozen 2
  have H5:=hid ((h4.Zm7 2 (.int .u64 a.got)).Zm7 1 (.int .i64 2))
  clear h4
  go_upto_region 12 with fail
  have h5:=H5.out
  generalize hW:World.setCell _ _ _=W5 at h5 ⊢
  clear hW H5 q1 s1 q2 s2 y3
  have h7:Hold w0 W5 (enA g th 2 a.got*(blkA 50 ga #[.int .i64 a.kind,.int .i64 a.cell,.int .i64 a.index,.int .u64 a.got,.int .u64 a.put,.bool a.done]*(blkA 50 gr #[.int .i64 0,.int .i64 0,.int .i64 0,.int .u64 0,.int .u64 0,.bool false]*(memA m C*R)))):=h5
  clear h5
  obtain ⟨⟨x0,x1,x2,x3,x4,x5⟩,z0,z1,z2,z3,z4,z5⟩:=Z09 (h7.pk3 [2,0,1]).blk
  obtain ⟨⟨y0,y1,y2,y3,y4,y5⟩,_⟩:=Z09 (h7.pk2 [1,0]).blk
  have H8:=hid ((h7.pk3 [2,0,1]).Zma (.int .i64 a.kind) (.int .i64 a.cell) (.int .i64 a.index) (.int .u64 a.got) (.int .u64 a.put) (.bool a.done))
  clear h7
  go_wp2_with fail
  have h8:=H8.out
  generalize hW:World.setCell _ _ _=W8 at h8 ⊢
  clear hW H8 x0 x1 x2 x3 x4 x5 z0 z1 z2 z3 z4 z5 y0 y1 y2 y3 y4 y5
  obtain ⟨⟨y0,y1,y2,y3,y4,y5⟩,_⟩:=Z09 h8.blk
  have hfin:Hid (Z0d w0 (enA g th 2 a.got*(memA m C*R)) a (.returned a.val) W8):=hid ⟨rfl,h8.pk3 [1]⟩
  exact bodyPost_ret (v:=a.val) (by simp [results,Tryz.results142,go_sem,y0,y1,y2,y3,y4,y5]) rfl hfin.out
set_option maxRecDepth 8000 in
set_option maxHeartbeats 4000000 in
theorem Zhl (w0 w:World) (R:Asr) (g m:Nat) (C:Nat→List Int) (th ck:Int) (a:Acc) (h:Hold w0 w (enA g th 2 ck*(memA m C*R))) (hC:COk C) (hk:0≤ck∧ck≤1099511627776) (hx:-9223372036854775808≤th∧th≤9223372036854775807) (ha:opA C 2 6 th (ck + 2) true=a) :
    Calls Tryz.prog 142 #[.pointer (some ⟨g,0,none⟩),.pointer (some ⟨m,0,none⟩)] w (Z0d w0 (enA g th 3 ck*(memA m (opC C 6 th (ck + 2) true)*R)) a):=by
  have HA:=hid ha
  have HK:=hid hC
  have h1:=(nb h).newBlk (t:=50) (cs:=#[.int .i64 0,.int .i64 0,.int .i64 0,.int .u64 0,.int .u64 0,.bool false])
  simp only [World.size_alloc] at h1
  have H1:=hid h1
  have n1:=h.blk.lt
  have n2:g ≠ w.heap.size:=by omega
  have n3:g ≠ w.heap.size + 1:=by omega
  have p1:=h.blk.some_ (i:=1) rfl
  clear h h1 ha hC
  go_enter Tryz.func142,Tryz.ntmps142
  go_upto_region 10 with fail
  have h1:=H1.out
  generalize hW:World.alloc _ _=W at h1 ⊢
  generalize w.heap.size + 1=ga at h1 ⊢
  generalize w.heap.size=gr at h1 ⊢
  clear hW H1 n1 n2 n3 p1
  replace h1:=h1.drew
  refine Z01 [14] (by kernel_rfl) ?_
  refine Z05 (fun w'=>∃ (Y Z:Asr) (D:Nat→List Int),Hold w0 w' (Y*(Z*(enA g th 2 ck*(memA m D*R))))) (fun _ _=>trivial) _ _ _ _ ?_
  refine' wbk [true,true,true,true,true,true,true,true,true,true] 58 ⟨_,_,_,h1⟩ (fun wq hq=>?_) ?_;rotate_left
  · simp only [Z00]
    obtain ⟨Y,Z,D,hq⟩:=hq
    have q0:=hq.drop.drop.blk.some_ (i:=0) rfl
    have q2:=hq.drop.drop.blk.some_ (i:=2) rfl
    repeat (go_big_quiet_step (fail))
    exact wpQuiet_nil rfl
  refine wbr [false,false,false,false,false,false,false,false,false,false,true] (fuel:=4) (fun QB hQB hQX=>?_)
  simp only [Z00]
  go_wp2_with fail
  refine (Z13 w0 _ _ m C 6 th (ck + 2) (h1.pk4 [3,0,1,2]) hx HK.out.len).mono ?_
  rintro e w1 ⟨rfl,h2⟩
  rw [HA.out]
  generalize opE C 6 th=er
  clear h1
  go_wp2_with fail
  refine hQB.out _ _ ⟨_,_,_,h2.pk4 [1,2,3,0]⟩ ?_
  clear hQB hQX QB
  have h3:Hold w0 w1 (blkA 50 ga #[.int .i64 0,.int .i64 0,.int .i64 0,.int .u64 0,.int .u64 0,.bool false]*(enA g th 2 ck*(blkA 50 gr #[.int .i64 0,.int .i64 0,.int .i64 0,.int .u64 0,.int .u64 0,.bool false]*(memA m (opC C 6 th (ck + 2) true)*R)))):=h2.pk4 [1,3,2,0]
  obtain ⟨⟨x0,x1,x2,x3,x4,x5⟩,z0,z1,z2,z3,z4,z5⟩:=Z09 h3.blk
  have H4:=hid (h3.Zma (.int .i64 a.kind) (.int .i64 a.cell) (.int .i64 a.index) (.int .u64 a.got) (.int .u64 a.put) (.bool a.done)).swap
  have H3S:=hid (h2.pk4 [1,2,3,0])
  clear h2 h3
  refine' wbt [false,false,false,false,false,false,false,false,false,false,false,true,true,true] 58 (by first | exact ⟨_,_,_,h1⟩ | exact ⟨_,_,_,H3S.out⟩) (fun wq _=>?_) ?_;rotate_left
  · simp only [Z00]
    repeat (go_big_quiet_step (fail))
    exact wpQuiet_nil rfl
  refine wbb [false,false,false,false,false,false,false,false,false,false,false,false,false,false,true] (fuel:=0) (fun QB hQB hQX=>?_)
  simp only [Z00]
  go_wp2_with fail
  refine hQB.out _ _ ?_
  clear hQB hQX QB
  refine Z07 (by kernel_rfl) ?_
  refine Z02 (by kernel_rfl) ?_ _
  have h4:=H4.out
  generalize hW:World.setCell _ _ _=W4 at h4 ⊢
  clear hW H4 x0 x1 x2 x3 x4 x5 z0 z1 z2 z3 z4 z5
  have q1:=h4.blk.some_ (i:=1) (u:=.int .i64 2) rfl
  have s1:=h4.blk.frozen 1
  have H5:=hid (h4.Zm7 1 (.int .i64 3))
  clear h4
  go_upto_region 12 with fail
  have h5:=H5.out
  generalize hW:World.setCell _ _ _=W5 at h5 ⊢
  clear hW H5 q1 s1
  have h7:Hold w0 W5 (enA g th 3 ck*(blkA 50 ga #[.int .i64 a.kind,.int .i64 a.cell,.int .i64 a.index,.int .u64 a.got,.int .u64 a.put,.bool a.done]*(blkA 50 gr #[.int .i64 0,.int .i64 0,.int .i64 0,.int .u64 0,.int .u64 0,.bool false]*(memA m (opC C 6 th (ck + 2) true)*R)))):=h5
  clear h5
  obtain ⟨⟨x0,x1,x2,x3,x4,x5⟩,z0,z1,z2,z3,z4,z5⟩:=Z09 (h7.pk3 [2,0,1]).blk
  obtain ⟨⟨y0,y1,y2,y3,y4,y5⟩,_⟩:=Z09 (h7.pk2 [1,0]).blk
  have H8:=hid ((h7.pk3 [2,0,1]).Zma (.int .i64 a.kind) (.int .i64 a.cell) (.int .i64 a.index) (.int .u64 a.got) (.int .u64 a.put) (.bool a.done))
  clear h7
  go_wp2_with fail
  have h8:=H8.out
  generalize hW:World.setCell _ _ _=W8 at h8 ⊢
  clear hW H8 x0 x1 x2 x3 x4 x5 z0 z1 z2 z3 z4 z5 y0 y1 y2 y3 y4 y5
  obtain ⟨⟨y0,y1,y2,y3,y4,y5⟩,_⟩:=Z09 h8.blk
  have hfin:Hid (Z0d w0 (enA g th 3 ck*(memA m (opC C 6 th (ck + 2) true)*R)) a (.returned a.val) W8):=hid ⟨rfl,h8.pk3 [1]⟩
  exact bodyPost_ret (v:=a.val) (by simp [results,Tryz.results142,go_sem,y0,y1,y2,y3,y4,y5]) rfl hfin.out
set_option maxHeartbeats 2000000 in
theorem Zhk (w0 w:World) (R:Asr) (m:Nat) (C:Nat→List Int) (th:Int) (h:Hold w0 w (memA m C*R)) (hC:COk C) (hx:-9223372036854775808≤th∧th≤9223372036854775807) :
    Calls Tryz.prog 100 #[.pointer (some ⟨m,0,none⟩),.int .i64 th] w (Z0d w0 (memA m (opC C 6 th 0 true)*R) (opA C 2 6 th 0 true)):=by
  obtain ⟨a,ha⟩:∃ a,a=opA C 2 6 th 0 true:=⟨_,rfl⟩
  rw [← ha]
  have HA:=hid ha
  have HK:=hid hC
  have h2:=(nb h).swap
  have H2:=hid h2
  clear ha hC h h2
  go_enter Tryz.func100,Tryz.ntmps100
  go_wp2_with fail
  have h2:=H2.out
  generalize hW:World.alloc _ _=W at h2 ⊢
  generalize w.heap.size=gr at h2 ⊢
  clear hW H2
  refine (Z13 w0 _ _ m C 6 th 0 h2 hx HK.out.len).mono ?_
  rintro e w1 ⟨rfl,h3⟩
  rw [← HA.out]
  generalize opE C 6 th=er
  obtain ⟨⟨x0,x1,x2,x3,x4,x5⟩,z0,z1,z2,z3,z4,z5⟩:=Z09 h3.swap.blk
  have hlt:gr < w1.heap.size:=h3.swap.blk.lt
  have hne:gr ≠ w1.heap.size:=by omega
  have h4:=(h3.swap.Zma (.int .i64 a.kind) (.int .i64 a.cell) (.int .i64 a.index) (.int .u64 a.got) (.int .u64 a.put) (.bool a.done)).alloc (.cells #[.int .i64 a.kind,.int .i64 a.cell,.int .i64 a.index,.int .u64 a.got,.int .u64 a.put,.bool a.done] 50)
  have H4:=hid h4
  clear h2 h3 h4
  go_wp2_with fail
  have h4:=H4.out
  generalize hW:World.alloc _ _=W4 at h4 ⊢
  clear hW H4 x0 x1 x2 x3 x4 x5 z0 z1 z2 z3 z4 z5
  obtain ⟨⟨y0,y1,y2,y3,y4,y5⟩,_⟩:=Z09 h4.blk
  have hfin:Hid (Z0d w0 (memA m (opC C 6 th 0 true)*R) a (.returned a.val) W4):=hid ⟨rfl,h4.drop⟩
  exact bodyPost_ret (v:=a.val) (by simp [results,Tryz.results100,go_sem,y0,y1,y2,y3,y4,y5]) rfl hfin.out
end Go.Proofs.YtmlfangeanmmeaaGreatDoor
