/-
  What the proof of TopTransfers leans on, part 20 of 48: MemW, Image, Ref08b, Ref08c, Awake08, Lab, Turn. No statement of its own.
-/
import Derived.Test.YtmlfangeanmmeaaGreatDoorTm1
import Derived.Test.YtmlfangeanmmeaaGreatDoorTm11
import Derived.Test.YtmlfangeanmmeaaGreatDoorTm13
import Derived.Test.YtmlfangeanmmeaaGreatDoorTm14
import Derived.Test.YtmlfangeanmmeaaGreatDoorTm19
import Derived.Deep.LoopGhost
namespace Go.Proofs.YtmlfangeanmmeaaGreatDoor
set_option maxRecDepth 8000
open Go.RowKit
set_option linter.unusedVariables false
theorem Zgx (C:Nat→List Int) (cell index:Int):opC C cell index (valC C cell index) true=C:=by
  unfold opC
  split
  · rename_i h
    have hc:=h.1.2
    unfold valC
    unfold getC at hc ⊢
    split at hc
    · rename_i h1
      rw [if_pos h1]
      exact Z9a C _ _
    · simp at hc;have:=h.1.1;omega
  · rfl
theorem Z4c (C:Nat→List Int) (cell index v:Int) (d:Bool) (k:Nat):(opC C cell index v d k).length=(C k).length:=by
  unfold opC
  split
  · exact Z7w _ _ _ _ _
  · rfl
def Z8v (w0:World) (R:Asr) (a:Acc) (er:Int) (e:Ending) (w':World):Prop:=e = .returned (.tuple #[a.val,.int .i64 er])∧Hold w0 w' R
set_option maxHeartbeats 2000000 in
theorem Z1r (w0 w:World) (R:Asr) (g:Nat) (C:Nat→List Int) (cell index:Int) (h:Hold w0 w (memA g C*R)) (hx:-9223372036854775808≤index∧index≤9223372036854775807) (hlen:∀ k,(C k).length≤1000) :
    Calls Tryz.prog 79 #[.pointer (some ⟨g,0,none⟩),.int .i64 cell,.int .i64 index] w (Z8v w0 (memA g C*R) (opA C 1 cell index ((valC C cell index)) (true)) (opE C cell index)):=by
  have h1:=(nb h).swap
  go_enter Tryz.func79,Tryz.ntmps79
  go_wp2_with fail
  refine (Z9n w0 _ _ g C cell index hx h1 hlen).mono ?_
  rintro e w1 ⟨rfl,h2⟩
  rw [Zgx] at h2
  replace h2:=h2
  obtain ⟨a,ha⟩:∃ a,a=opA C 1 cell index ((valC C cell index)) (true):=⟨_,rfl⟩
  obtain ⟨er,her⟩:∃ er,er=opE C cell index:=⟨_,rfl⟩
  rw [← ha,← her]
  have hB:=h2.swap.blk
  generalize hgr:w.heap.size=gr at h2 hB ⊢
  obtain ⟨⟨x0,x1,x2,x3,x4,x5⟩,z0,z1,z2,z3,z4,z5⟩:=Z09 hB
  have H3:=hid ((((((h2.swap.Zm7 0 (.int .i64 a.kind)).Zm7 1 (.int .i64 a.cell)).Zm7 2 (.int .i64 a.index)).Zm7 3 (.int .u64 a.got)).Zm7 4 (.int .u64 a.put)).Zm7 5 (.bool a.done))
  have Ha:=hid ha
  have Her:=hid her
  clear hB h2 h1 h ha her hgr
  go_wp2_with fail
  have h3:=H3.out
  generalize hW:World.setCell _ _ _=W3 at h3 ⊢
  clear hW H3 x0 x1 x2 x3 x4 x5 z0 z1 z2 z3 z4 z5
  have hB:=h3.blk
  obtain ⟨⟨y0,y1,y2,y3,y4,y5⟩,_⟩:=Z09 hB
  exact bodyPost_ret (v:=.tuple #[a.val,.int .i64 er]) (by simp [results,Tryz.results79,go_sem,y0,y1,y2,y3,y4,y5]) rfl ⟨by rw [Ha.out,Her.out],h3.drop⟩
set_option maxHeartbeats 2000000 in
theorem Z13 (w0 w:World) (R:Asr) (g:Nat) (C:Nat→List Int) (cell index nv:Int) (h:Hold w0 w (memA g C*R)) (hx:-9223372036854775808≤index∧index≤9223372036854775807) (hlen:∀ k,(C k).length≤1000) :
    Calls Tryz.prog 95 #[.pointer (some ⟨g,0,none⟩),.int .i64 cell,.int .i64 index,.int .u64 nv] w (Z8v w0 (memA g (opC C cell index (nv) (true))*R) (opA C 2 cell index (nv) (true)) (opE C cell index)):=by
  have h1:=(((h.newBlk (t:=34) (cs:=#[.int .u64 nv])).newBlk (t:=50) (cs:=#[.int .i64 0,.int .i64 0,.int .i64 0,.int .u64 0,.int .u64 0,.bool false])).third).imp (Imp.under _ (Imp.swap _ _ _))
  rw [show (w.alloc (.cells #[.int .u64 nv] 34)).heap.size=w.heap.size + 1 by simp] at h1
  go_enter Tryz.func95,Tryz.ntmps95
  go_wp2_with fail
  refine (Z85 w0 _ _ g _ C cell index nv hx h1 hlen).mono ?_
  rintro e w1 ⟨rfl,h2⟩
  replace h2:=h2.imp (Imp.under _ (Imp.drop _ _))
  obtain ⟨a,ha⟩:∃ a,a=opA C 2 cell index (nv) (true):=⟨_,rfl⟩
  obtain ⟨er,her⟩:∃ er,er=opE C cell index:=⟨_,rfl⟩
  rw [← ha,← her]
  have hB:=h2.swap.blk
  generalize hgr:w.heap.size + 1=gr at h2 hB ⊢
  obtain ⟨⟨x0,x1,x2,x3,x4,x5⟩,z0,z1,z2,z3,z4,z5⟩:=Z09 hB
  have H3:=hid ((((((h2.swap.Zm7 0 (.int .i64 a.kind)).Zm7 1 (.int .i64 a.cell)).Zm7 2 (.int .i64 a.index)).Zm7 3 (.int .u64 a.got)).Zm7 4 (.int .u64 a.put)).Zm7 5 (.bool a.done))
  have Ha:=hid ha
  have Her:=hid her
  clear hB h2 h1 h ha her hgr
  go_wp2_with fail
  have h3:=H3.out
  generalize hW:World.setCell _ _ _=W3 at h3 ⊢
  clear hW H3 x0 x1 x2 x3 x4 x5 z0 z1 z2 z3 z4 z5
  have hB:=h3.blk
  obtain ⟨⟨y0,y1,y2,y3,y4,y5⟩,_⟩:=Z09 hB
  exact bodyPost_ret (v:=.tuple #[a.val,.int .i64 er]) (by simp [results,Tryz.results95,go_sem,y0,y1,y2,y3,y4,y5]) rfl ⟨by rw [Ha.out,Her.out],h3.drop⟩
set_option maxHeartbeats 2000000 in
theorem Zjy (w0 w:World) (R:Asr) (g:Nat) (C:Nat→List Int) (cell index nv:Int) (h:Hold w0 w (memA g C*R)) (hx:-9223372036854775808≤index∧index≤9223372036854775807) (hlen:∀ k,(C k).length≤1000) :
    Calls Tryz.prog 211 #[.pointer (some ⟨g,0,none⟩),.int .i64 cell,.int .i64 index,.int .u64 nv] w (Z8v w0 (memA g (opC C cell index (IntKind.u64.wrap ((valC C cell index) + nv)) (true))*R) (opA C 4 cell index (IntKind.u64.wrap ((valC C cell index) + nv)) (true)) (opE C cell index)):=by
  have h1:=(((h.newBlk (t:=34) (cs:=#[.int .u64 nv])).newBlk (t:=50) (cs:=#[.int .i64 0,.int .i64 0,.int .i64 0,.int .u64 0,.int .u64 0,.bool false])).third).imp (Imp.under _ (Imp.swap _ _ _))
  rw [show (w.alloc (.cells #[.int .u64 nv] 34)).heap.size=w.heap.size + 1 by simp] at h1
  go_enter Tryz.func211,Tryz.ntmps211
  go_wp2_with fail
  refine (Zas w0 _ _ g _ C cell index nv hx h1 hlen).mono ?_
  rintro e w1 ⟨rfl,h2⟩
  replace h2:=h2.imp (Imp.under _ (Imp.drop _ _))
  obtain ⟨a,ha⟩:∃ a,a=opA C 4 cell index (IntKind.u64.wrap ((valC C cell index) + nv)) (true):=⟨_,rfl⟩
  obtain ⟨er,her⟩:∃ er,er=opE C cell index:=⟨_,rfl⟩
  rw [← ha,← her]
  have hB:=h2.swap.blk
  generalize hgr:w.heap.size + 1=gr at h2 hB ⊢
  obtain ⟨⟨x0,x1,x2,x3,x4,x5⟩,z0,z1,z2,z3,z4,z5⟩:=Z09 hB
  have H3:=hid ((((((h2.swap.Zm7 0 (.int .i64 a.kind)).Zm7 1 (.int .i64 a.cell)).Zm7 2 (.int .i64 a.index)).Zm7 3 (.int .u64 a.got)).Zm7 4 (.int .u64 a.put)).Zm7 5 (.bool a.done))
  have Ha:=hid ha
  have Her:=hid her
  clear hB h2 h1 h ha her hgr
  go_wp2_with fail
  have h3:=H3.out
  generalize hW:World.setCell _ _ _=W3 at h3 ⊢
  clear hW H3 x0 x1 x2 x3 x4 x5 z0 z1 z2 z3 z4 z5
  have hB:=h3.blk
  obtain ⟨⟨y0,y1,y2,y3,y4,y5⟩,_⟩:=Z09 hB
  exact bodyPost_ret (v:=.tuple #[a.val,.int .i64 er]) (by simp [results,Tryz.results211,go_sem,y0,y1,y2,y3,y4,y5]) rfl ⟨by rw [Ha.out,Her.out],h3.drop⟩
set_option maxHeartbeats 2000000 in
theorem Zh5 (w0 w:World) (R:Asr) (g:Nat) (C:Nat→List Int) (cell index old nv:Int) (h:Hold w0 w (memA g C*R)) (hx:-9223372036854775808≤index∧index≤9223372036854775807) (hlen:∀ k,(C k).length≤1000) :
    Calls Tryz.prog 140 #[.pointer (some ⟨g,0,none⟩),.int .i64 cell,.int .i64 index,.int .u64 old,.int .u64 nv] w (Z8v w0 (memA g (opC C cell index (nv) (((valC C cell index) == old)))*R) (opA C 3 cell index (nv) (((valC C cell index) == old))) (opE C cell index)):=by
  have h1:=((((h.newBlk (t:=34) (cs:=#[.int .u64 old])).newBlk (t:=34) (cs:=#[.int .u64 nv])).newBlk (t:=50) (cs:=#[.int .i64 0,.int .i64 0,.int .i64 0,.int .u64 0,.int .u64 0,.bool false])).fourth).imp (Imp.under _ (Imp.swap _ _ _))
  replace h1:=h1.imp (Imp.under _ (Imp.under _ (Imp.swap _ _ _)))
  rw [show ((w.alloc (.cells #[.int .u64 old] 34)).alloc (.cells #[.int .u64 nv] 34)).heap.size=w.heap.size + 2 by simp,show (w.alloc (.cells #[.int .u64 old] 34)).heap.size=w.heap.size + 1 by simp] at h1
  go_enter Tryz.func140,Tryz.ntmps140
  go_wp2_with fail
  refine (Z9m w0 _ _ g _ _ C cell index nv old hx h1 hlen).mono ?_
  rintro e w1 ⟨rfl,h2⟩
  replace h2:=h2.imp (Imp.under _ ((Imp.drop _ _).trans (Imp.drop _ _)))
  obtain ⟨a,ha⟩:∃ a,a=opA C 3 cell index (nv) (((valC C cell index) == old)):=⟨_,rfl⟩
  obtain ⟨er,her⟩:∃ er,er=opE C cell index:=⟨_,rfl⟩
  rw [← ha,← her]
  have hB:=h2.swap.blk
  generalize hgr:w.heap.size + 2=gr at h2 hB ⊢
  obtain ⟨⟨x0,x1,x2,x3,x4,x5⟩,z0,z1,z2,z3,z4,z5⟩:=Z09 hB
  have H3:=hid ((((((h2.swap.Zm7 0 (.int .i64 a.kind)).Zm7 1 (.int .i64 a.cell)).Zm7 2 (.int .i64 a.index)).Zm7 3 (.int .u64 a.got)).Zm7 4 (.int .u64 a.put)).Zm7 5 (.bool a.done))
  have Ha:=hid ha
  have Her:=hid her
  clear hB h2 h1 h ha her hgr
  go_wp2_with fail
  have h3:=H3.out
  generalize hW:World.setCell _ _ _=W3 at h3 ⊢
  clear hW H3 x0 x1 x2 x3 x4 x5 z0 z1 z2 z3 z4 z5
  have hB:=h3.blk
  obtain ⟨⟨y0,y1,y2,y3,y4,y5⟩,_⟩:=Z09 hB
  exact bodyPost_ret (v:=.tuple #[a.val,.int .i64 er]) (by simp [results,Tryz.results140,go_sem,y0,y1,y2,y3,y4,y5]) rfl ⟨by rw [Ha.out,Her.out],h3.drop⟩
abbrev imgV (C:Nat→List Int) (y:Lay):Value:=.agg #[slV C y 1,slV C y 2,.int .u64 (w1 C 3),.int .u64 (w1 C 4),.int .u64 (w1 C 5),slV C y 6,slV C y 7,slV C y 8]
def Zfx (w0:World) (R:Asr) (g:Nat) (C:Nat→List Int) (e:Ending) (w':World):Prop:=∃ y:Lay,e = .returned (imgV C y)∧Hold w0 w' (sepR (refL C y) (memA g C*R))
theorem blk8 {w:World} {g:Nat} {t:TypeId} {v0 v1 v2 v3 v4 v5 v6 v7:Value} (h:Blk w g t #[v0,v1,v2,v3,v4,v5,v6,v7]) :
    (w.cell? ⟨g,0,none⟩=some v0∧w.cell? ⟨g,1,none⟩=some v1∧w.cell? ⟨g,2,none⟩=some v2∧w.cell? ⟨g,3,none⟩=some v3∧w.cell? ⟨g,4,none⟩=some v4∧w.cell? ⟨g,5,none⟩=some v5∧w.cell? ⟨g,6,none⟩=some v6∧w.cell? ⟨g,7,none⟩=some v7) ∧
    w.frozen? ⟨g,0,none⟩=false∧w.frozen? ⟨g,1,none⟩=false∧w.frozen? ⟨g,2,none⟩=false∧w.frozen? ⟨g,3,none⟩=false∧w.frozen? ⟨g,4,none⟩=false∧w.frozen? ⟨g,5,none⟩=false∧w.frozen? ⟨g,6,none⟩=false∧w.frozen? ⟨g,7,none⟩=false :=
  ⟨⟨h.some_ rfl,h.some_ rfl,h.some_ rfl,h.some_ rfl,h.some_ rfl,h.some_ rfl,h.some_ rfl,h.some_ rfl⟩,h.frozen 0,h.frozen 1,h.frozen 2,h.frozen 3,h.frozen 4,h.frozen 5,h.frozen 6,h.frozen 7⟩
theorem Imp.rev5 (p q r t u s:Asr):Imp (p*(q*(r*(t*(u*s))))) (u*(t*(r*(q*(p*s))))) :=
  ((Imp.under p (Imp.fourth q r t u s)).trans (Imp.swap p u _)).trans (Imp.under u ((Imp.fourth p q r t s).trans (Imp.under t ((Imp.third p q r s).trans (Imp.under r (Imp.swap p q s))))))
theorem Imp.exI {α:Type} {p:α→Asr} (x:α):Imp (p x) (Asr.ex p):=fun w fp h=>⟨fp,⟨x,h⟩,fun _ hb=>hb⟩
section
variable {w0 w:World} {R:Asr} {g:Nat} {C:Nat→List Int} {x:Lay}
abbrev memF (g:Nat) (C:Nat→List Int) (x:Lay) (R:Asr):Asr:=blkA 104 g #[.map (some x.m)]*sepR (memL C x) R
theorem Imp.memShut:Imp (memF g C x R) (memA g C*R):=((Imp.under _ (Imp.fold R (memL C x))).trans (Imp.assoc' _ _ _)).trans (Imp.on R (Imp.exI (p:=memX g C) x))
theorem Hold.kindReads (h:Hold w0 w (memF g C x R)) {k:Nat} (hk:1≤k∧k≤8):Reads w ((x.A k).elim 0 (·.block)) (x.A k) (C k).length ((C k).map (Value.int .u64)):=by
  obtain ⟨R',hR,_⟩:=h.memRow hk
  exact hR.rowReads
theorem Hold.kindWord (h:Hold w0 w (memF g C x R)) {k:Nat} (hk:1≤k∧k≤8) (hl:(C k).length=1):∃ gk,x.A k=some ⟨gk,0,none⟩∧∀ w',Hold w0 w' (memF g C x R)→w'.cell? ⟨gk,0,none⟩=some (.int .u64 (w1 C k)):=by
  obtain ⟨R',hR,_⟩:=h.memRow hk
  obtain ⟨gk,hg,_⟩:=Z1v (zs:=C k) (k:=.u64) (A:=x.A k) (cp:=x.c k) (n:=(C k).length) (e:=34) hR (i:=0) (by omega)
  refine ⟨gk,hg,fun w' hw=>?_⟩
  obtain ⟨R2,hR2,_⟩:=hw.memRow hk
  obtain ⟨g2,hg2,hc2,_⟩:=Z1v (zs:=C k) (k:=.u64) (A:=x.A k) (cp:=x.c k) (n:=(C k).length) (e:=34) hR2 (i:=0) (by omega)
  rw [hg] at hg2
  injection hg2 with hg2
  injection hg2 with hg2
  subst hg2
  exact hc2
theorem Hold.kindLook (h:Hold w0 w (memF g C x R)) {k:Nat} (hk:1≤k∧k≤8) {v:Value} (hv:slV C x k=v):(Instr.lookup 102 (.map (some x.m)) (.int .i64 (k:Int)) false).run Tryz.prog w = .ok v w:=by
  have h1:=h.memMap.mapLook (P:=Tryz.prog) Tryz.underlying102 Tryz.underlying3 (.slice none 0 0) Z2n (k:Int)
  rw [Z4u,if_pos (by omega)] at h1
  simpa [hv] using h1
end
set_option maxRecDepth 8000 in
set_option maxHeartbeats 4000000 in
theorem image_any (w0 w:World) (R:Asr) (g:Nat) (C:Nat→List Int) (h:Hold w0 w (memA g C*R)) (hC:COk C) :
    Calls Tryz.prog 20 #[.pointer (some ⟨g,0,none⟩)] w (Zfx w0 R g C):=by
  obtain ⟨x,hX⟩:=h.memOpen
  have hlen:=hC.len
  obtain ⟨g3,s3,hw3⟩:=Hold.kindWord (k:=3) hX (by decide) hC.l3
  obtain ⟨g4,s4,hw4⟩:=Hold.kindWord (k:=4) hX (by decide) hC.l4
  obtain ⟨g5,s5,hw5⟩:=Hold.kindWord (k:=5) hX (by decide) hC.l5
  have s3:slV C x 3 = .slice (some ⟨g3,0,none⟩) 1 (x.c 3):=by unfold slV;rw [s3,hC.l3]
  have s4:slV C x 4 = .slice (some ⟨g4,0,none⟩) 1 (x.c 4):=by unfold slV;rw [s4,hC.l4]
  have s5:slV C x 5 = .slice (some ⟨g5,0,none⟩) 1 (x.c 5):=by unfold slV;rw [s5,hC.l5]
  have h1:Hold w0 _ (blkA 36 w.heap.size #[.slice none 0 0,.slice none 0 0,.int .u64 0,.int .u64 0,.int .u64 0,.slice none 0 0,.slice none 0 0,.slice none 0 0]*memF g C x R):=hX.newBlk
  have HS1:=hid (And.intro s3 (And.intro s4 s5))
  have HW:=hid (And.intro hw3 (And.intro hw4 hw5))
  have HL:=hid hlen
  clear s3 s4 s5 hw3 hw4 hw5 hlen hX h
  go_enter Tryz.func20,Tryz.ntmps20
  go_wp2_with fail
  generalize w.heap.size=gr at h1 ⊢
  obtain ⟨s3,s4,s5⟩:=HS1.out
  obtain ⟨hw3,hw4,hw5⟩:=HW.out
  have hlen:=HL.out
  have HS:=hid h1.drew
  have HC:=hid h1.drew
  have HB:=hid h1.drop.drew
  clear h1
  refine Z01 [52] (by kernel_rfl) ?_
  refine Z05 (fun w'=>Hold w0 w' (blkA 36 gr #[.slice none 0 0,.slice none 0 0,.int .u64 0,.int .u64 0,.int .u64 0,.slice none 0 0,.slice none 0 0,.slice none 0 0]*memF g C x R)) (fun _ _=>trivial) _ _ _ _ ?_
  refine' wbk [true,true,true,true,true,false,true,true,true,true,true,false,true,true,true,true,true,true,true,true,true,true,true,true,true,true,true,true,true,true,true,true,true,true,true,true,true,true,false,true,true,true,true,true,false,true,true,true,true,true] 58 HS.out (fun wq hq=>?_) ?_;rotate_left
  · simp only [Z00]
    have c0:wq.cell? ⟨g,0,none⟩=some (.map (some x.m)):=hq.drop.blk.some_ rfl
    have d3:=hw3 wq hq.drop
    have d4:=hw4 wq hq.drop
    have d5:=hw5 wq hq.drop
    have l1:(Instr.lookup 102 (.map (some x.m)) (.int .i64 1) false).run Tryz.prog wq = .ok (.slice (x.A 1) (C 1).length (x.c 1)) wq:=hq.drop.kindLook (k:=1) (by decide) rfl
    have l2:(Instr.lookup 102 (.map (some x.m)) (.int .i64 2) false).run Tryz.prog wq = .ok (.slice (x.A 2) (C 2).length (x.c 2)) wq:=hq.drop.kindLook (k:=2) (by decide) rfl
    have l3:(Instr.lookup 102 (.map (some x.m)) (.int .i64 3) false).run Tryz.prog wq = .ok (.slice (some ⟨g3,0,none⟩) 1 (x.c 3)) wq:=hq.drop.kindLook (k:=3) (by decide) s3
    have l4:(Instr.lookup 102 (.map (some x.m)) (.int .i64 4) false).run Tryz.prog wq = .ok (.slice (some ⟨g4,0,none⟩) 1 (x.c 4)) wq:=hq.drop.kindLook (k:=4) (by decide) s4
    have l5:(Instr.lookup 102 (.map (some x.m)) (.int .i64 5) false).run Tryz.prog wq = .ok (.slice (some ⟨g5,0,none⟩) 1 (x.c 5)) wq:=hq.drop.kindLook (k:=5) (by decide) s5
    have l6:(Instr.lookup 102 (.map (some x.m)) (.int .i64 6) false).run Tryz.prog wq = .ok (.slice (x.A 6) (C 6).length (x.c 6)) wq:=hq.drop.kindLook (k:=6) (by decide) rfl
    have l7:(Instr.lookup 102 (.map (some x.m)) (.int .i64 7) false).run Tryz.prog wq = .ok (.slice (x.A 7) (C 7).length (x.c 7)) wq:=hq.drop.kindLook (k:=7) (by decide) rfl
    have l8:(Instr.lookup 102 (.map (some x.m)) (.int .i64 8) false).run Tryz.prog wq = .ok (.slice (x.A 8) (C 8).length (x.c 8)) wq:=hq.drop.kindLook (k:=8) (by decide) rfl
    repeat (go_big_quiet_step (fail))
    exact wpQuiet_nil rfl
  refine wbr [false,false,false,false,false,true] (fuel:=6) (fun QB hQB hQX=>?_)
  simp only [Z00]
  go_wp2_with fail
  have hr:=HB.out.kindReads (k:=1) (by decide)
  refine (Z0m _ _ _ _ _ _ hr (by have:=hlen 1;omega)).mono ?_
  rintro e u1 ⟨A1,c1,rfl,ho,hc⟩
  replace HC:=hid (HC.out.newRow hc ho (Nat.le_refl _))
  replace HB:=hid (HB.out.chg0 hc)
  replace HS:=hid (HS.out.chg0 hc)
  clear hr ho hc
  go_wp2_with fail
  refine hQB.out _ _ HS.out ?_
  clear hQB hQX QB
  refine wbr [false,false,false,false,false,false,false,false,false,false,false,true] (fuel:=5) (fun QB hQB hQX=>?_)
  simp only [Z00]
  go_wp2_with fail
  have hr:=HB.out.kindReads (k:=2) (by decide)
  refine (Z0m _ _ _ _ _ _ hr (by have:=hlen 2;omega)).mono ?_
  rintro e u2 ⟨A2,c2,rfl,ho,hc⟩
  replace HC:=hid (HC.out.newRow hc ho (Nat.le_refl _))
  replace HB:=hid (HB.out.chg0 hc)
  replace HS:=hid (HS.out.chg0 hc)
  clear hr ho hc
  go_wp2_with fail
  refine hQB.out _ _ HS.out ?_
  clear hQB hQX QB
  refine wbr [false,false,false,false,false,false,false,false,false,false,false,false,false,false,false,false,false,false,false,false,false,false,false,false,false,false,false,false,false,false,false,false,false,false,false,false,false,false,true] (fuel:=4) (fun QB hQB hQX=>?_)
  simp only [Z00]
  go_wp2_with fail
  have hr:=HB.out.kindReads (k:=6) (by decide)
  refine (Z0m _ _ _ _ _ _ hr (by have:=hlen 6;omega)).mono ?_
  rintro e u6 ⟨A6,c6,rfl,ho,hc⟩
  replace HC:=hid (HC.out.newRow hc ho (Nat.le_refl _))
  replace HB:=hid (HB.out.chg0 hc)
  replace HS:=hid (HS.out.chg0 hc)
  clear hr ho hc
  go_wp2_with fail
  refine hQB.out _ _ HS.out ?_
  clear hQB hQX QB
  refine wbr [false,false,false,false,false,false,false,false,false,false,false,false,false,false,false,false,false,false,false,false,false,false,false,false,false,false,false,false,false,false,false,false,false,false,false,false,false,false,false,false,false,false,false,false,true] (fuel:=3) (fun QB hQB hQX=>?_)
  simp only [Z00]
  go_wp2_with fail
  have hr:=HB.out.kindReads (k:=7) (by decide)
  refine (Z0m _ _ _ _ _ _ hr (by have:=hlen 7;omega)).mono ?_
  rintro e u7 ⟨A7,c7,rfl,ho,hc⟩
  replace HC:=hid (HC.out.newRow hc ho (Nat.le_refl _))
  replace HB:=hid (HB.out.chg0 hc)
  replace HS:=hid (HS.out.chg0 hc)
  clear hr ho hc
  go_wp2_with fail
  refine hQB.out _ _ HS.out ?_
  clear hQB hQX QB
  refine wbr [false,false,false,false,false,false,false,false,false,false,false,false,false,false,false,false,false,false,false,false,false,false,false,false,false,false,false,false,false,false,false,false,false,false,false,false,false,false,false,false,false,false,false,false,false,false,false,false,false,false,true] (fuel:=2) (fun QB hQB hQX=>?_)
  simp only [Z00]
  go_wp2_with fail
  have hr:=HB.out.kindReads (k:=8) (by decide)
  refine (Z0m _ _ _ _ _ _ hr (by have:=hlen 8;omega)).mono ?_
  rintro e u8 ⟨A8,c8,rfl,ho,hc⟩
  replace HC:=hid (HC.out.newRow hc ho (Nat.le_refl _))
  replace HB:=hid (HB.out.chg0 hc)
  replace HS:=hid (HS.out.chg0 hc)
  clear hr ho hc
  go_wp2_with fail
  refine hQB.out _ _ HS.out ?_
  clear hQB hQX QB
  have HF:=hid ((show Hold w0 _ (sepR [numA (.slice A8 (C 8).length c8) (C 8).length (C 8),numA (.slice A7 (C 7).length c7) (C 7).length (C 7),numA (.slice A6 (C 6).length c6) (C 6).length (C 6),numA (.slice A2 (C 2).length c2) (C 2).length (C 2),numA (.slice A1 (C 1).length c1) (C 1).length (C 1),blkA 36 gr #[.slice none 0 0,.slice none 0 0,.int .u64 0,.int .u64 0,.int .u64 0,.slice none 0 0,.slice none 0 0,.slice none 0 0]] (memF g C x R)) from HC.out).nth 5 rfl)
  have hB:=HF.out.blk
  obtain ⟨⟨x0,x1,x2,x3,x4,x5,x6,x7⟩,z0,z1,z2,z3,z4,z5,z6,z7⟩:=blk8 hB
  have h9:=((((((((HF.out.Zm7 0 (.slice A1 (C 1).length c1)).Zm7 1 (.slice A2 (C 2).length c2)).Zm7 2 (.int .u64 (w1 C 3))).Zm7 3 (.int .u64 (w1 C 4))).Zm7 4 (.int .u64 (w1 C 5))).Zm7 5 (.slice A6 (C 6).length c6)).Zm7 6 (.slice A7 (C 7).length c7)).Zm7 7 (.slice A8 (C 8).length c8))
  have H9:=hid h9
  clear hB h9
  refine' wbk [false,false,false,false,false,false,false,false,false,false,false,false,false,false,false,false,false,false,false,false,false,false,false,false,false,false,false,false,false,false,false,false,false,false,false,false,false,false,false,false,false,false,false,false,false,false,false,false,false,false,false,true] 58 HS.out (fun wq hq=>?_) ?_;rotate_left
  · simp only [Z00]
    repeat (go_big_quiet_step (fail))
    exact wpQuiet_nil rfl
  refine wbb [false,false,false,false,false,false,false,false,false,false,false,false,false,false,false,false,false,false,false,false,false,false,false,false,false,false,false,false,false,false,false,false,false,false,false,false,false,false,false,false,false,false,false,false,false,false,false,false,false,false,false,false,true] (fuel:=0) (fun QB hQB hQX=>?_)
  simp only [Z00]
  go_wp2_with fail
  have h9:=H9.out
  generalize hW:World.setCell _ _ _=W9 at h9 ⊢
  have H9b:=hid h9
  clear hW H9 h9 x0 x1 x2 x3 x4 x5 x6 x7 z0 z1 z2 z3 z4 z5 z6 z7
  refine hQB.out _ _ ?_
  refine Z07 (by kernel_rfl) ?_
  refine Z02 (by kernel_rfl) ?_ _
  go_wp2_with fail
  obtain ⟨⟨y0,y1,y2,y3,y4,y5,y6,y7⟩,_⟩:=blk8 H9b.out.blk
  have hfin:Hid (Zfx w0 R g C (.returned (.agg #[.slice A1 (C 1).length c1,.slice A2 (C 2).length c2,.int .u64 (w1 C 3),.int .u64 (w1 C 4),.int .u64 (w1 C 5),.slice A6 (C 6).length c6,.slice A7 (C 7).length c7,.slice A8 (C 8).length c8])) W9) :=
    hid ⟨⟨0,fun k=>match k with | 1=>A1 | 2=>A2 | 6=>A6 | 7=>A7 | _=>A8,fun k=>match k with | 1=>c1 | 2=>c2 | 6=>c6 | 7=>c7 | _=>c8⟩,rfl,(H9b.out.drop.imp (Imp.rev5 _ _ _ _ _ _)).imp (Imp.under _ (Imp.under _ (Imp.under _ (Imp.under _ (Imp.under _ ((Imp.drop _ _).trans Imp.memShut))))))⟩
  exact bodyPost_ret (v:=.agg #[.slice A1 (C 1).length c1,.slice A2 (C 2).length c2,.int .u64 (w1 C 3),.int .u64 (w1 C 4),.int .u64 (w1 C 5),.slice A6 (C 6).length c6,.slice A7 (C 7).length c7,.slice A8 (C 8).length c8]) (by simp [results,Tryz.results20,go_sem,y0,y1,y2,y3,y4,y5,y6,y7]) rfl hfin.out
def Z0d (w0:World) (R:Asr) (a:Acc) (e:Ending) (w':World):Prop:=e = .returned a.val∧Hold w0 w' R
theorem Zic {C:Nat→List Int} {cell index:Int} (hh:hasC C cell index) (kind v:Int):opA C kind cell index v true=⟨kind,cell,index,valC C cell index,v,true⟩∧opC C cell index v true=setK C cell.toNat index.toNat v∧opE C cell index=0 :=
  ⟨if_pos hh,if_pos ⟨hh,rfl⟩,if_pos hh⟩
theorem Zen (c:Cfg):(Z7a c).length=nbl c:=by simp [Z7a]
theorem Zf2 (c:Cfg):(Z7b c).length=4:=by simp [Z7b]
theorem Zh3 {c:Cfg} {th:Nat} {init:List Int} (hc:Z0p c=0) (h2:th≤16) (hl:(init.length:Int)=c.words) (k:Nat):(newC c th init k).length≤1000:=by
  have h:=Z1l hc
  have hn:=Zcf h
  have:=h.w;have:=h.o
  unfold newC
  split <;> simp [Z0l,Zf2,Zen] <;> omega
theorem COk.newC {c:Cfg} {th:Nat} {init:List Int} (hc:Z0p c=0) (h2:th≤16) (hl:(init.length:Int)=c.words):COk (newC c th init):=⟨fun k=>Zh3 hc h2 hl k,rfl,rfl,rfl⟩
section
variable {w0 w:World} {R:Asr}
theorem Hold.Zma {t:TypeId} {g:Nat} {a0 a1 a2 a3 a4 a5:Value} (h:Hold w0 w (blkA t g #[a0,a1,a2,a3,a4,a5]*R)) (u0 u1 u2 u3 u4 u5:Value) :
    Hold w0 ((((((w.setCell ⟨g,0,none⟩ u0).setCell ⟨g,1,none⟩ u1).setCell ⟨g,2,none⟩ u2).setCell ⟨g,3,none⟩ u3).setCell ⟨g,4,none⟩ u4).setCell ⟨g,5,none⟩ u5) (blkA t g #[u0,u1,u2,u3,u4,u5]*R) :=
  ((((((h.Zm7 0 u0).Zm7 1 u1).Zm7 2 u2).Zm7 3 u3).Zm7 4 u4).Zm7 5 u5)
end
theorem COk.has4 {C:Nat→List Int} (h:COk C):hasC C 4 0:=⟨by decide,by rw [show getC C 4=C 4 from Zf5 (k:=4) (by decide) (by decide),h.l4];decide⟩
theorem COk.has5 {C:Nat→List Int} (h:COk C):hasC C 5 0:=⟨by decide,by rw [show getC C 5=C 5 from Zf5 (k:=5) (by decide) (by decide),h.l5];decide⟩
abbrev tuA (g:Nat) (taken:Bool) (tk:Int) (dn:Bool):Asr:=blkA 225 g #[.bool taken,.int .u64 tk,.bool dn]
theorem Zbz (w0 w:World) (R:Asr) (h:Hold w0 w R):Calls Tryz.prog 157 #[] w fun e w'=>∃ g,e = .returned (.pointer (some ⟨g,0,none⟩))∧Hold w0 w' (tuA g false 0 false*R):=by
  have H:=hid (h.newBlk (t:=225) (cs:=#[.bool false,.int .u64 0,.bool false]))
  clear h
  go_enter Tryz.func157,Tryz.ntmps157
  go_wp2
  go_ret
  exact ⟨_,rfl,H.out⟩
theorem Z4j (w0 w:World) (R:Asr) (g:Nat) (taken:Bool) (tk:Int) (dn:Bool) (h:Hold w0 w (tuA g taken tk dn*R)):Calls Tryz.prog 159 #[.pointer (some ⟨g,0,none⟩)] w fun e w'=>e = .returned (.bool dn)∧w=w':=by
  have q2:=h.blk.some_ (i:=2) rfl
  clear h
  go_enter Tryz.func159,Tryz.ntmps159
  go_wp2
  go_ret
  exact ⟨rfl,rfl⟩
theorem Zaa (w0 w:World) (R:Asr) (g:Nat) (tk:Int) (dn:Bool) (h:Hold w0 w (tuA g true tk dn*R)) (h0:0≤tk) (h1:tk≤9223372036854775807):Calls Tryz.prog 97 #[.pointer (some ⟨g,0,none⟩)] w fun e w'=>e = .returned (.int .i64 tk)∧w=w':=by
  have q0:=h.blk.some_ (i:=0) rfl
  have q1:=h.blk.some_ (i:=1) rfl
  clear h
  go_enter Tryz.func97,Tryz.ntmps97
  go_wp2
  go_ret
  exact ⟨rfl,rfl⟩
set_option maxHeartbeats 2000000 in
theorem Zdv (w0 w:World) (R:Asr) (m:Nat) (C:Nat→List Int) (tk:Int) (h:Hold w0 w (memA m C*R)) (hC:COk C) (h0:0≤tk) (h1:tk≤9223372036854775806) :
    Calls Tryz.prog 96 #[.pointer (some ⟨m,0,none⟩),.int .i64 tk] w (Z0d w0 (memA m (opC C 5 0 (tk + 1) true)*R) (opA C 2 5 0 (tk + 1) true)):=by
  obtain ⟨a,ha⟩:∃ a,a=opA C 2 5 0 (tk + 1) true:=⟨_,rfl⟩
  rw [← ha]
  have HA:=hid ha
  have HK:=hid hC
  have h2:=(nb h).swap
  have H2:=hid h2
  clear ha hC h h2
  go_enter Tryz.func96,Tryz.ntmps96
  go_wp2_with fail
  have h2:=H2.out
  generalize hW:World.alloc _ _=W at h2 ⊢
  generalize w.heap.size=gr at h2 ⊢
  clear hW H2
  refine (Z13 w0 _ _ m C 5 0 (tk + 1) h2 (by omega) HK.out.len).mono ?_
  rintro e w1 ⟨rfl,h3⟩
  rw [← HA.out]
  generalize opE C 5 0=er
  obtain ⟨⟨x0,x1,x2,x3,x4,x5⟩,z0,z1,z2,z3,z4,z5⟩:=Z09 h3.swap.blk
  have hlt:gr < w1.heap.size:=h3.swap.blk.lt
  have hne:gr ≠ w1.heap.size:=by omega
  have h4:=(h3.swap.Zma (.int .i64 a.kind) (.int .i64 a.cell) (.int .i64 a.index) (.int .u64 a.got) (.int .u64 a.put) (.bool a.done)).alloc (.cells #[.int .i64 a.kind,.int .i64 a.cell,.int .i64 a.index,.int .u64 a.got,.int .u64 a.put,.bool a.done] 50)
  have H4:=hid h4
  clear h2 h3 h4
  go_wp2_with fail
  have h4:=H4.out
  generalize hW:World.alloc _ _=W4 at h4 ⊢
  clear hW H4 x0 x1 x2 x3 x4 x5 z0 z1 z2 z3 z4 z5
  obtain ⟨⟨y0,y1,y2,y3,y4,y5⟩,_⟩:=Z09 h4.blk
  have hfin:Hid (Z0d w0 (memA m (opC C 5 0 (tk + 1) true)*R) a (.returned a.val) W4):=hid ⟨rfl,h4.drop⟩
  exact bodyPost_ret (v:=a.val) (by simp [results,Tryz.results96,go_sem,y0,y1,y2,y3,y4,y5]) rfl hfin.out
set_option maxRecDepth 8000 in
set_option maxHeartbeats 4000000 in
theorem Z77 (w0 w:World) (R:Asr) (g m:Nat) (C:Nat→List Int) (tk:Int) (h:Hold w0 w (tuA g false tk false*(memA m C*R))) (hC:COk C) :
    Calls Tryz.prog 158 #[.pointer (some ⟨g,0,none⟩),.pointer (some ⟨m,0,none⟩)] w
      (Z0d w0 (tuA g true (valC C 4 0) false*(memA m (opC C 4 0 (IntKind.u64.wrap (valC C 4 0 + 1)) true)*R)) ⟨4,4,0,valC C 4 0,IntKind.u64.wrap (valC C 4 0 + 1),true⟩):=by
  obtain ⟨a,ha⟩:∃ a:Acc,a=⟨4,4,0,valC C 4 0,IntKind.u64.wrap (valC C 4 0 + 1),true⟩:=⟨_,rfl⟩
  have hop:opA C 4 4 0 (IntKind.u64.wrap (valC C 4 0 + 1)) true=a:=by rw [ha];exact (Zic hC.has4 4 _).1
  have hgot:a.got=valC C 4 0:=by rw [ha]
  obtain ⟨C',hC'⟩:∃ C',C'=opC C 4 0 (IntKind.u64.wrap (valC C 4 0 + 1)) true:=⟨_,rfl⟩
  rw [← ha,← hC',← hgot]
  have HA:=hid hop
  have HC':=hid hC'
  have HK:=hid hC
  have h1:=(nb h).newBlk (t:=50) (cs:=#[.int .i64 0,.int .i64 0,.int .i64 0,.int .u64 0,.int .u64 0,.bool false])
  simp only [World.size_alloc] at h1
  have q0:=(h1.pk3 [2,0,1]).blk.some_ (i:=0) rfl
  have q2:=(h1.pk3 [2,0,1]).blk.some_ (i:=2) rfl
  have H1:=hid h1
  have n1:=h.blk.lt
  have n2:g ≠ w.heap.size:=by omega
  have n3:g ≠ w.heap.size + 1:=by omega
  have p0:=h.blk.some_ (i:=0) rfl
  have p2:=h.blk.some_ (i:=2) rfl
  clear h h1 ha hop hC' hC hgot q0 q2
  go_enter Tryz.func158,Tryz.ntmps158
  go_wp2_with fail
  have h1:=H1.out
  generalize hW:World.alloc _ _=W at h1 ⊢
  generalize w.heap.size + 1=ga at h1 ⊢
  generalize w.heap.size=gr at h1 ⊢
  clear hW H1 n1 n2 n3 p0 p2
  refine (Zjy w0 _ _ m C 4 0 1 (h1.pk4 [3,0,1,2]) (by omega) HK.out.len).mono ?_
  rintro e w1 ⟨rfl,h2⟩
  rw [HA.out]
  rw [← HC'.out] at h2
  generalize opE C 4 0=er
  have h3:Hold w0 w1 (blkA 50 ga #[.int .i64 0,.int .i64 0,.int .i64 0,.int .u64 0,.int .u64 0,.bool false]*(tuA g false tk false*(blkA 50 gr #[.int .i64 0,.int .i64 0,.int .i64 0,.int .u64 0,.int .u64 0,.bool false]*(memA m C'*R)))):=h2.pk4 [1,3,2,0]
  obtain ⟨⟨x0,x1,x2,x3,x4,x5⟩,z0,z1,z2,z3,z4,z5⟩:=Z09 h3.blk
  have H4:=hid (h3.Zma (.int .i64 a.kind) (.int .i64 a.cell) (.int .i64 a.index) (.int .u64 a.got) (.int .u64 a.put) (.bool a.done)).swap
  clear h1 h2 h3
  go_wp2_with fail
  have h4:=H4.out
  generalize hW:World.setCell _ _ _=W4 at h4 ⊢
  clear hW H4 x0 x1 x2 x3 x4 x5 z0 z1 z2 z3 z4 z5
  replace h4:=h4.drew
  refine Z01 [9] (by kernel_rfl) ?_
  refine Z05 (fun w'=>∃ (b:Bool) (Z:Asr),Hold w0 w' (tuA g b tk false*(blkA 50 ga #[.int .i64 a.kind,.int .i64 a.cell,.int .i64 a.index,.int .u64 a.got,.int .u64 a.put,.bool a.done]*Z))) (fun _ _=>trivial) _ _ _ _ ?_
  refine' wbk [true,true,true,true,true,true] 46 ⟨_,_,h4⟩ (fun wq hq=>?_) ?_;rotate_left
  · simp only [Z00]
    obtain ⟨b,Z,hq⟩:=hq
    have q3:=hq.drop.blk.some_ (i:=3) rfl
    repeat (go_big_quiet_step (fail))
    exact wpQuiet_nil rfl
  refine wbr [false,false,false,false,false,false,true] (fuel:=3) (fun QB hQB hQX=>?_)
  simp only [Z00]
  replace h4:=h4.undrew
  have q0:=h4.blk.some_ (i:=0) (u:=.bool false) rfl
  have q1:=h4.blk.some_ (i:=1) (u:=.int .u64 tk) rfl
  have z0:=h4.blk.frozen 0
  have z1:=h4.blk.frozen 1
  have h5:=(h4.Zm7 0 (.bool true)).Zm7 1 (.int .u64 a.got)
  have H5:=hid h5
  clear h5
  go_wp2_with fail
  refine hQB.out _ _ ⟨_,_,(h4.Zm7 0 (.bool true)).drew⟩ ?_
  clear hQB hQX QB
  refine' wbt [false,false,false,false,false,false,false,true,true] 46 ⟨_,_,(h4.Zm7 0 (.bool true)).drew⟩ (fun wq _=>?_) ?_;rotate_left
  · simp only [Z00]
    repeat (go_big_quiet_step (fail))
    exact wpQuiet_nil rfl
  refine wbb [false,false,false,false,false,false,false,false,false,true] (fuel:=0) (fun QB hQB hQX=>?_)
  simp only [Z00]
  go_wp2_with fail
  refine hQB.out _ _ ?_
  clear hQB hQX QB
  refine Z07 (by kernel_rfl) ?_
  refine Z02 (by kernel_rfl) ?_ _
  clear h4
  clear q0 q1 z0 z1
  have h5:=H5.out
  generalize hW:World.setCell _ _ _=W5 at h5 ⊢
  clear hW H5
  have h7:Hold w0 W5 (tuA g true a.got false*(blkA 50 ga #[.int .i64 a.kind,.int .i64 a.cell,.int .i64 a.index,.int .u64 a.got,.int .u64 a.put,.bool a.done]*(blkA 50 gr #[.int .i64 0,.int .i64 0,.int .i64 0,.int .u64 0,.int .u64 0,.bool false]*(memA m C'*R)))):=h5
  clear h5
  obtain ⟨⟨x0,x1,x2,x3,x4,x5⟩,z0,z1,z2,z3,z4,z5⟩:=Z09 (h7.pk3 [2,0,1]).blk
  obtain ⟨⟨y0,y1,y2,y3,y4,y5⟩,_⟩:=Z09 (h7.pk2 [1,0]).blk
  have H8:=hid ((h7.pk3 [2,0,1]).Zma (.int .i64 a.kind) (.int .i64 a.cell) (.int .i64 a.index) (.int .u64 a.got) (.int .u64 a.put) (.bool a.done))
  clear h7
  go_wp2_with fail
  have h8:=H8.out
  generalize hW:World.setCell _ _ _=W8 at h8 ⊢
  clear hW H8 x0 x1 x2 x3 x4 x5 z0 z1 z2 z3 z4 z5 y0 y1 y2 y3 y4 y5
  obtain ⟨⟨y0,y1,y2,y3,y4,y5⟩,_⟩:=Z09 h8.blk
  have hfin:Hid (Z0d w0 (tuA g true a.got false*(memA m C'*R)) a (.returned a.val) W8.drew):=hid ⟨rfl,(h8.pk3 [1]).drew⟩
  exact bodyPost_ret (v:=a.val) (by simp [results,Tryz.results158,go_sem,y0,y1,y2,y3,y4,y5]) rfl hfin.out
set_option maxRecDepth 8000 in
set_option maxHeartbeats 4000000 in
theorem Z2j (w0 w:World) (R:Asr) (g m:Nat) (C:Nat→List Int) (tk:Int) (h:Hold w0 w (tuA g true tk false*(memA m C*R))) (hC:COk C) :
    Calls Tryz.prog 158 #[.pointer (some ⟨g,0,none⟩),.pointer (some ⟨m,0,none⟩)] w
      (Z0d w0 (tuA g true tk (valC C 5 0 == tk)*(memA m C*R)) ⟨1,5,0,valC C 5 0,valC C 5 0,true⟩):=by
  obtain ⟨a,ha⟩:∃ a:Acc,a=⟨1,5,0,valC C 5 0,valC C 5 0,true⟩:=⟨_,rfl⟩
  have hop:opA C 1 5 0 (valC C 5 0) true=a:=by rw [ha];exact (Zic hC.has5 1 _).1
  have hgot:a.got=valC C 5 0:=by rw [ha]
  rw [← ha,← hgot]
  have HA:=hid hop
  have HK:=hid hC
  have h1:=(nb h).newBlk (t:=50) (cs:=#[.int .i64 0,.int .i64 0,.int .i64 0,.int .u64 0,.int .u64 0,.bool false])
  simp only [World.size_alloc] at h1
  have H1:=hid h1
  have n1:=h.blk.lt
  have n2:g ≠ w.heap.size:=by omega
  have n3:g ≠ w.heap.size + 1:=by omega
  have p0:=h.blk.some_ (i:=0) rfl
  have p2:=h.blk.some_ (i:=2) rfl
  clear h h1 ha hop hC hgot
  go_enter Tryz.func158,Tryz.ntmps158
  go_wp2_with fail
  have h1:=H1.out
  generalize hW:World.alloc _ _=W at h1 ⊢
  generalize w.heap.size + 1=ga at h1 ⊢
  generalize w.heap.size=gr at h1 ⊢
  clear hW H1 n1 n2 n3 p0 p2
  refine (Z1r w0 _ _ m C 5 0 (h1.pk4 [3,0,1,2]) (by omega) HK.out.len).mono ?_
  rintro e w1 ⟨rfl,h2⟩
  rw [HA.out]
  generalize opE C 5 0=er
  have h3:Hold w0 w1 (blkA 50 ga #[.int .i64 0,.int .i64 0,.int .i64 0,.int .u64 0,.int .u64 0,.bool false]*(tuA g true tk false*(blkA 50 gr #[.int .i64 0,.int .i64 0,.int .i64 0,.int .u64 0,.int .u64 0,.bool false]*(memA m C*R)))):=h2.pk4 [1,3,2,0]
  obtain ⟨⟨x0,x1,x2,x3,x4,x5⟩,z0,z1,z2,z3,z4,z5⟩:=Z09 h3.blk
  have H4:=hid (h3.Zma (.int .i64 a.kind) (.int .i64 a.cell) (.int .i64 a.index) (.int .u64 a.got) (.int .u64 a.put) (.bool a.done)).swap
  clear h1 h2 h3
  go_wp2_with fail
  have h4:=H4.out
  generalize hW:World.setCell _ _ _=W4 at h4 ⊢
  clear hW H4 x0 x1 x2 x3 x4 x5 z0 z1 z2 z3 z4 z5
  replace h4:=h4.drew
  refine Z01 [10] (by kernel_rfl) ?_
  refine Z05 (fun w'=>∃ Z,Hold w0 w' (tuA g true tk false*(blkA 50 ga #[.int .i64 a.kind,.int .i64 a.cell,.int .i64 a.index,.int .u64 a.got,.int .u64 a.put,.bool a.done]*Z))) (fun _ _=>trivial) _ _ _ _ ?_
  refine' wbt [true,true,false,true,true,true] 46 ⟨_,h4⟩ (fun wq _=>?_) ?_;rotate_left
  · simp only [Z00]
    repeat (go_big_quiet_step (fail))
    exact wpQuiet_nil rfl
  refine' wbk [false,false,true,false,false,false,true,true] 46 ⟨_,h4⟩ (fun wq hq=>?_) ?_;rotate_left
  · simp only [Z00]
    obtain ⟨Z,hq⟩:=hq
    have q1:=hq.blk.some_ (i:=1) rfl
    have q3:=hq.drop.blk.some_ (i:=3) rfl
    repeat (go_big_quiet_step (fail))
    exact wpQuiet_nil rfl
  refine' wbt [false,false,false,false,false,false,false,false,true,true] 46 ⟨_,h4⟩ (fun wq _=>?_) ?_;rotate_left
  · simp only [Z00]
    repeat (go_big_quiet_step (fail))
    exact wpQuiet_nil rfl
  refine wbb [false,false,false,false,false,false,false,false,false,false,true] (fuel:=0) (fun QB hQB hQX=>?_)
  simp only [Z00]
  replace h4:=h4.undrew
  have q2:=h4.blk.some_ (i:=2) (u:=.bool false) rfl
  have z2:=h4.blk.frozen 2
  have h5:=h4.Zm7 2 (.bool (a.got == tk))
  have H5:=hid h5
  clear h4 h5
  go_wp2_with fail
  refine hQB.out _ _ ?_
  clear hQB hQX QB
  refine Z07 (by kernel_rfl) ?_
  refine Z02 (by kernel_rfl) ?_ _
  clear q2 z2
  have h5:=H5.out
  generalize hW:World.setCell _ _ _=W5 at h5 ⊢
  clear hW H5
  have h7:Hold w0 W5 (tuA g true tk (a.got == tk)*(blkA 50 ga #[.int .i64 a.kind,.int .i64 a.cell,.int .i64 a.index,.int .u64 a.got,.int .u64 a.put,.bool a.done]*(blkA 50 gr #[.int .i64 0,.int .i64 0,.int .i64 0,.int .u64 0,.int .u64 0,.bool false]*(memA m C*R)))):=h5
  clear h5
  obtain ⟨⟨x0,x1,x2,x3,x4,x5⟩,z0,z1,z2,z3,z4,z5⟩:=Z09 (h7.pk3 [2,0,1]).blk
  obtain ⟨⟨y0,y1,y2,y3,y4,y5⟩,_⟩:=Z09 (h7.pk2 [1,0]).blk
  have H8:=hid ((h7.pk3 [2,0,1]).Zma (.int .i64 a.kind) (.int .i64 a.cell) (.int .i64 a.index) (.int .u64 a.got) (.int .u64 a.put) (.bool a.done))
  clear h7
  go_wp2_with fail
  have h8:=H8.out
  generalize hW:World.setCell _ _ _=W8 at h8 ⊢
  clear hW H8 x0 x1 x2 x3 x4 x5 z0 z1 z2 z3 z4 z5 y0 y1 y2 y3 y4 y5
  obtain ⟨⟨y0,y1,y2,y3,y4,y5⟩,_⟩:=Z09 h8.blk
  have hfin:Hid (Z0d w0 (tuA g true tk (a.got == tk)*(memA m C*R)) a (.returned a.val) W8.drew):=hid ⟨rfl,(h8.pk3 [1]).drew⟩
  exact bodyPost_ret (v:=a.val) (by simp [results,Tryz.results158,go_sem,y0,y1,y2,y3,y4,y5]) rfl hfin.out
end Go.Proofs.YtmlfangeanmmeaaGreatDoor
