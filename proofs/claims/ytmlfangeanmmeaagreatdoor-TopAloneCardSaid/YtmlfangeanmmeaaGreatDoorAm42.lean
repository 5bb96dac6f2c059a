/-
 What the proof of TopAlone leans on, part 42 of 49: Ql, Qx. No statement of its own.
-/
import Derived.Test.YtmlfangeanmmeaaGreatDoorAm31
import Derived.Test.YtmlfangeanmmeaaGreatDoorAm32
import Derived.Test.YtmlfangeanmmeaaGreatDoorAm33
import Derived.Test.YtmlfangeanmmeaaGreatDoorAm36
import Derived.Test.YtmlfangeanmmeaaGreatDoorAm41
set_option maxHeartbeats 16000000
set_option maxRecDepth 8000
set_option linter.unusedVariables false
namespace Go.Proofs.YtmlfangeanmmeaaGreatDoor
open Go.RowKit
section
variable {w0 w:World} {R:Asr} {t n cp:Nat} {c:Cfg} {x:ThR} {i:InsR} {A:Option Addr}
def LcQ (w0:World) (t:Nat) (c:Cfg) (x:ThR) (i:InsR) (n:Nat) (R:Asr) (e:Ending) (w':World):Prop:=∃(rg:Nat->Int) (pc:Int),(pc=x.pc+1\/isJ i.op=true/\pc=x.pc+1+i.imm)/\e = .returned (.tuple #[])/\Hold w0 w' (thA t c {x with regs:=rg,pc:=pc,done:=pc==(n:Int)}*R)
theorem Zd7 (h:Hold w0 w (thA t c x*R)) (h1:i.op=0\/i.op=1\/i.op=2\/i.op=3\/i.op=4\/i.op=5\/i.op=6\/i.op=17) (hr:(0<=i.a/\i.a<8)/\(0<=i.b/\i.b<8)/\(0<=i.c/\i.c<8)) (him:0<=i.imm/\i.imm<=1000) (hfn:i.op=3->i.imm=0\/i.imm=1\/i.imm=5\/i.imm=8\/i.imm=11\/i.imm=12) (hc:x.code = .slice A n cp) (h0:0<=x.pc/\x.pc<=1000000) :
  Calls Tryz.prog 70 #[ptrV t,i.val] w (LcQ w0 t c x i n R):=by
 have H1:=hid (h.newBlk (t:=28) (cs:=i.cells));have HC:=hid hc;have HFN:=hid hfn;obtain⟨r,hra⟩:∃r:Nat,i.a=(r:Int):=⟨i.a.toNat,by omega⟩;obtain⟨r1,hrb⟩:∃r:Nat,i.b=(r:Int):=⟨i.b.toNat,by omega⟩;obtain⟨r2,hrc⟩:∃r:Nat,i.c=(r:Int):=⟨i.c.toNat,by omega⟩;have hr8:r<8:=by omega
 have hb8:r1<8:=by omega
 have hc8:r2<8:=by omega
 have k0:(0:Int)<=(r:Int):=by omega
 have k1:(r:Int)<8:=by omega
 have k2:(0:Int)<=(r1:Int):=by omega
 have k3:(r1:Int)<8:=by omega
 have k4:(0:Int)<=(r2:Int):=by omega
 have k5:(r2:Int)<8:=by omega
 obtain⟨pc,hpc⟩:∃pc,pc=x.pc:=⟨_,rfl⟩;obtain⟨im,him2⟩:∃im,im=i.imm:=⟨_,rfl⟩;obtain⟨op,hop⟩:∃op,op=i.op:=⟨_,rfl⟩;obtain⟨v0,hv0⟩:∃v,v=x.regs r:=⟨_,rfl⟩;obtain⟨v1,hv1⟩:∃v,v=x.regs r1:=⟨_,rfl⟩;obtain⟨v2,hv2⟩:∃v,v=x.regs r2:=⟨_,rfl⟩;obtain⟨oc,hoc⟩:∃v,v=x.outcome:=⟨_,rfl⟩;rw[<- hpc] at h0;rw[<- him2] at him;rw[<- hop] at h1;have hS:∀gi w' R',Hold w0 w' (blkA 28 gi i.cells*(thA t c x*R'))->w'.cell? ⟨gi,1,none⟩=some (.int .i64 (r:Int))/\w'.cell? ⟨gi,2,none⟩=some (.int .i64 (r1:Int))/\w'.cell? ⟨gi,3,none⟩=some (.int .i64 (r2:Int))/\w'.cell? ⟨gi,4,none⟩=some (.int .i64 im)/\w'.cell? ⟨t,33+r,none⟩=some (.int .u64 v0)/\w'.cell? ⟨t,33+r1,none⟩=some (.int .u64 v1)/\w'.cell? ⟨t,33+r2,none⟩=some (.int .u64 v2)/\w'.cell? ⟨t,41,none⟩=some (.int .i64 oc):=fun gi w' R' h=>by
  refine⟨?_,?_,?_,?_,?_,?_,?_,?_⟩
  ·rw[<- hra];exact h.blk.some_ (i:=1) rfl
  ·rw[<- hrb];exact h.blk.some_ (i:=2) rfl
  ·rw[<- hrc];exact h.blk.some_ (i:=3) rfl
  ·rw[him2];exact h.blk.some_ (i:=4) rfl
  ·rw[hv0];exact h.drop.th_regs hr8
  ·rw[hv1];exact h.drop.th_regs hb8
  ·rw[hv2];exact h.drop.th_regs hc8
  ·rw[hoc];exact h.drop.th_outcome
 have HS:=hid hS;have hE:∀(pc':Int) (rg:Nat->Int) (w':World),(pc'=pc+1\/isJ op=true/\pc'=pc+1+im)->Hold w0 w' (thA t c {x with regs:=rg}*R)->Calls Tryz.prog 34 #[ptrV t,.int .i64 pc'] w' fun e w''=>e = .returned (.tuple #[])/\Hid (LcQ w0 t c x i n R e w''):=fun pc' rg w' hp h=>by
  refine(Zfm (n:=n) (cp:=cp) (A:=A) (p:=pc') h hc).mono fun e w'' he=>⟨he.1,hid ⟨rg,pc',?_,he.1,he.2⟩⟩;rw[<- hpc,<- him2,<- hop];exact hp
 have HE:=hid hE;have HOP:=hid hop;have HP:=hid hpc;have HFN:=hid (show op=3->im=0\/im=1\/im=5\/im=8\/im=11\/im=12 by rw[hop,him2];exact hfn);clear h hr hc hpc him2 hra hrb hrc hv0 hv1 hv2 hoc hS hE hfn;have q1:=H1.out.drop.th_pc;rw[<- HP.out] at q1;go_enter Tryz.func70,Tryz.ntmps70;go_upto_region 1 with fail
 have h2:=H1.out;generalize hW:w.alloc _=W at h2 q1 |-;generalize w.heap.size=gi at h2 |-;clear hW H1;have q0:W.cell? ⟨gi,0,none⟩=some (.int .i64 op):=by rw[hop];exact h2.blk.some_ (i:=0) rfl
 clear hop;rcases h1 with rfl|rfl|rfl|rfl|rfl|rfl|rfl|rfl
 ·clear HFN
  have h3:Hold w0 W (thA t c {x with regs:=x.regs}*R):=h2.drop;go_upto_region 20 with fail
  clear q0 q1;have HT:=hid (HE.out _ _ _ (.inl rfl) h3);clear h3;go_wp2_with fail;refine HT.out.mono ?_;rintro e w5 ⟨rfl,hL⟩;clear HT;go_wp2_with fail;refine bodyPost_end (results_none rfl _ _ _) rfl ?_;exact hL.out
 ·clear HFN
  go_upto_region 5 with fail;replace h2:=h2.drew;clear q0 q1;refine Z01 [8] (by kernel_rfl) ?_;generalize hW:W.drew=W1 at h2 |-;clear hW;refine Z04 (fun w'=>w'.cell? ⟨gi,1,none⟩=some (.int .i64 (r:Int))/\w'.cell? ⟨gi,2,none⟩=some (.int .i64 (r1:Int))/\w'.cell? ⟨gi,3,none⟩=some (.int .i64 (r2:Int))/\w'.cell? ⟨gi,4,none⟩=some (.int .i64 im)/\w'.cell? ⟨t,33+r,none⟩=some (.int .u64 v0)/\w'.cell? ⟨t,33+r1,none⟩=some (.int .u64 v1)/\w'.cell? ⟨t,33+r2,none⟩=some (.int .u64 v2)/\w'.cell? ⟨t,41,none⟩=some (.int .i64 oc)) (fun _ _=>trivial) _ _ _ _ ?_;refine' wbz [true,true,false,true,false,false,true] 114 (HS.out _ _ _ h2) ?_;refine' wbk [false,false,true,false,true,true,false,true] 114 (HS.out _ _ _ h2) (fun wq hq=>?_) ?_;rotate_left
  ·simp only[Z08]
   obtain⟨q2,q3,q4,q5,q6,q7,q8,q9⟩:=hq
   repeat (go_big_quiet_step (fail))
   exact wpQuiet_nil rfl
  refine wbj 8 (fuel:=0) (fun QB hQB hQX=>?_);have p1:=h2.drop.th_regs hr8;have z1:=h2.drop.thZ (33+r);have H2:=hid ((h2.drop).th_regs_set hr8 (im));clear h2;go_wp2_with fail;refine hQB.out _ _ ?_;clear hQB hQX QB p1 z1 HS;refine Z06 (by kernel_rfl) ?_;refine Z02 (by kernel_rfl) ?_ _;have h3:=H2.out;go_upto_region 20 with fail
  generalize hW:World.setCell _ _ _=W2 at h3 |-;clear hW H2;have HT:=hid (HE.out _ _ _ (.inl rfl) h3);clear h3;go_wp2_with fail;refine HT.out.mono ?_;rintro e w5 ⟨rfl,hL⟩;clear HT;go_wp2_with fail;refine bodyPost_end (results_none rfl _ _ _) rfl ?_;exact hL.out
 ·clear HFN
  go_upto_region 7 with fail;replace h2:=h2.drew;clear q0 q1;refine Z01 [11] (by kernel_rfl) ?_;generalize hW:W.drew=W1 at h2 |-;clear hW;refine Z04 (fun w'=>w'.cell? ⟨gi,1,none⟩=some (.int .i64 (r:Int))/\w'.cell? ⟨gi,2,none⟩=some (.int .i64 (r1:Int))/\w'.cell? ⟨gi,3,none⟩=some (.int .i64 (r2:Int))/\w'.cell? ⟨gi,4,none⟩=some (.int .i64 im)/\w'.cell? ⟨t,33+r,none⟩=some (.int .u64 v0)/\w'.cell? ⟨t,33+r1,none⟩=some (.int .u64 v1)/\w'.cell? ⟨t,33+r2,none⟩=some (.int .u64 v2)/\w'.cell? ⟨t,41,none⟩=some (.int .i64 oc)) (fun _ _=>trivial) _ _ _ _ ?_;refine' wbz [true,true,false,true,true,false,true,false,false,true] 114 (HS.out _ _ _ h2) ?_;refine' wbk [false,false,true,false,false,true,false,true,true,false,true] 114 (HS.out _ _ _ h2) (fun wq hq=>?_) ?_;rotate_left
  ·simp only[Z08]
   obtain⟨q2,q3,q4,q5,q6,q7,q8,q9⟩:=hq
   repeat (go_big_quiet_step (fail))
   exact wpQuiet_nil rfl
  refine wbj 11 (fuel:=0) (fun QB hQB hQX=>?_);have p1:=h2.drop.th_regs hr8;have z1:=h2.drop.thZ (33+r);have H2:=hid ((h2.drop).th_regs_set hr8 (v1));clear h2;go_wp2_with fail;refine hQB.out _ _ ?_;clear hQB hQX QB p1 z1 HS;refine Z06 (by kernel_rfl) ?_;refine Z02 (by kernel_rfl) ?_ _;have h3:=H2.out;go_upto_region 20 with fail
  generalize hW:World.setCell _ _ _=W2 at h3 |-;clear hW H2;have HT:=hid (HE.out _ _ _ (.inl rfl) h3);clear h3;go_wp2_with fail;refine HT.out.mono ?_;rintro e w5 ⟨rfl,hL⟩;clear HT;go_wp2_with fail;refine bodyPost_end (results_none rfl _ _ _) rfl ?_;exact hL.out
 ·have HFA:=hid (HFN.out rfl)
  clear HFN;go_upto_region 9 with fail
  replace h2:=h2.drew;clear q0 q1;refine Z01 [23] (by kernel_rfl) ?_;generalize hW:W.drew=W1 at h2 |-;clear hW;refine Z04 (fun w'=>w'.cell? ⟨gi,1,none⟩=some (.int .i64 (r:Int))/\w'.cell? ⟨gi,2,none⟩=some (.int .i64 (r1:Int))/\w'.cell? ⟨gi,3,none⟩=some (.int .i64 (r2:Int))/\w'.cell? ⟨gi,4,none⟩=some (.int .i64 im)/\w'.cell? ⟨t,33+r,none⟩=some (.int .u64 v0)/\w'.cell? ⟨t,33+r1,none⟩=some (.int .u64 v1)/\w'.cell? ⟨t,33+r2,none⟩=some (.int .u64 v2)/\w'.cell? ⟨t,41,none⟩=some (.int .i64 oc)) (fun _ _=>trivial) _ _ _ _ ?_;refine' wbz [true,true,false,true,false,true,true,false,true,false,false,true,true,false,true,false,false,false,false,false,false,true] 114 (HS.out _ _ _ h2) ?_;refine' wbk [false,false,true,false,true,false,false,true,false,true,true,false,false,true,false,true,true] 114 (HS.out _ _ _ h2) (fun wq hq=>?_) ?_;rotate_left
  ·simp only[Z08]
   obtain⟨q2,q3,q4,q5,q6,q7,q8,q9⟩:=hq
   repeat (go_big_quiet_step (fail))
   exact wpQuiet_nil rfl
  refine wbi 17 (fuel:=5) (fun QB hQB hQX=>?_);go_wp2_with fail;refine(alu_any _ _ _ _ HFA.out).mono ?_;rintro e w' ⟨v,rfl,hv⟩;replace h2:Hold w0 w' (blkA 28 gi i.cells*(thA t c x*R)):=by
   rcases hv with rfl|rfl
   ·exact h2
   ·exact h2.drew
  clear hv;go_wp2_with fail;refine hQB.out _ _ (HS.out _ _ _ h2) ?_;clear hQB hQX QB;refine' wbz [false,false,false,false,false,false,false,false,false,false,false,false,false,false,false,false,false,false,true,true,true,false,true] 114 (HS.out _ _ _ h2) ?_;refine wbj 23 (fuel:=0) (fun QB hQB hQX=>?_);have p1:=h2.drop.th_regs hr8;have z1:=h2.drop.thZ (33+r);have H2:=hid ((h2.drop).th_regs_set hr8 (v));clear h2;go_wp2_with fail;refine hQB.out _ _ ?_;clear hQB hQX QB p1 z1 HS;refine Z06 (by kernel_rfl) ?_;refine Z02 (by kernel_rfl) ?_ _;have h3:=H2.out;go_upto_region 20 with fail
  generalize hW:World.setCell _ _ _=W2 at h3 |-;clear hW H2;have HT:=hid (HE.out _ _ _ (.inl rfl) h3);clear h3;go_wp2_with fail;refine HT.out.mono ?_;rintro e w5 ⟨rfl,hL⟩;clear HT;go_wp2_with fail;refine bodyPost_end (results_none rfl _ _ _) rfl ?_;exact hL.out
 ·clear HFN
  have q5:=(HS.out _ _ _ h2).2.2.2.1;have h3:Hold w0 W (thA t c {x with regs:=x.regs}*R):=h2.drop;go_upto_region 20 with fail
  clear q0 q1 q5;have HT:=hid (HE.out _ _ _ (.inr ⟨rfl,rfl⟩) h3);clear h3;go_wp2_with fail;refine HT.out.mono ?_;rintro e w5 ⟨rfl,hL⟩;clear HT;go_wp2_with fail;refine bodyPost_end (results_none rfl _ _ _) rfl ?_;exact hL.out
 ·clear HFN
  go_upto_region 15 with fail;have h3:Hold w0 W.drew (thA t c {x with regs:=x.regs}*R):=h2.drop.drew;replace h2:=h2.drew;clear q0 q1;have HSS:=hid (HS.out _ _ _ h2);clear h2;refine Z01 [] (by kernel_rfl) ?_;generalize hW:W.drew=W1 at h3 HSS |-;clear hW;refine Z04 (fun w'=>w'.cell? ⟨gi,1,none⟩=some (.int .i64 (r:Int))/\w'.cell? ⟨gi,2,none⟩=some (.int .i64 (r1:Int))/\w'.cell? ⟨gi,3,none⟩=some (.int .i64 (r2:Int))/\w'.cell? ⟨gi,4,none⟩=some (.int .i64 im)/\w'.cell? ⟨t,33+r,none⟩=some (.int .u64 v0)/\w'.cell? ⟨t,33+r1,none⟩=some (.int .u64 v1)/\w'.cell? ⟨t,33+r2,none⟩=some (.int .u64 v2)/\w'.cell? ⟨t,41,none⟩=some (.int .i64 oc)) (fun _ _=>trivial) _ _ _ _ ?_;refine' wbk [true,true,true,true,true,true,true] 114 HSS.out (fun wq hq=>?_) ?_;rotate_left
  ·simp only[Z08]
   obtain⟨q2,q3,q4,q5,q6,q7,q8,q9⟩:=hq
   repeat (go_big_quiet_step (fail))
   exact wpQuiet_nil rfl
  refine Z02 (by kernel_rfl) ?_ _;have q5:=HSS.out.2.2.2.1;clear HSS HS
  by_cases hz:v0=0
  ·have ez:(v0==0)=true:=beq_iff_eq.2 hz
   have ez2:(v0 != 0)=false:=by rw[hz];rfl
   clear hz;go_upto_region 20 with fail
   clear q5 ez ez2;have HT:=hid (HE.out _ _ _ (.inr ⟨rfl,rfl⟩) h3);clear h3;go_wp2_with fail;refine HT.out.mono ?_;rintro e w5 ⟨rfl,hL⟩;clear HT;go_wp2_with fail;refine bodyPost_end (results_none rfl _ _ _) rfl ?_;exact hL.out
  ·have ez:(v0==0)=false:=beq_eq_false_iff_ne.2 hz
   have ez2:(v0 != 0)=true:=bne_iff_ne.2 hz;clear hz;go_upto_region 20 with fail
   clear q5 ez ez2;have HT:=hid (HE.out _ _ _ (.inl rfl) h3);clear h3;go_wp2_with fail;refine HT.out.mono ?_;rintro e w5 ⟨rfl,hL⟩;clear HT;go_wp2_with fail;refine bodyPost_end (results_none rfl _ _ _) rfl ?_;exact hL.out
 ·clear HFN
  go_upto_region 18 with fail;have h3:Hold w0 W.drew (thA t c {x with regs:=x.regs}*R):=h2.drop.drew;replace h2:=h2.drew;clear q0 q1;have HSS:=hid (HS.out _ _ _ h2);clear h2;refine Z01 [] (by kernel_rfl) ?_;generalize hW:W.drew=W1 at h3 HSS |-;clear hW;refine Z04 (fun w'=>w'.cell? ⟨gi,1,none⟩=some (.int .i64 (r:Int))/\w'.cell? ⟨gi,2,none⟩=some (.int .i64 (r1:Int))/\w'.cell? ⟨gi,3,none⟩=some (.int .i64 (r2:Int))/\w'.cell? ⟨gi,4,none⟩=some (.int .i64 im)/\w'.cell? ⟨t,33+r,none⟩=some (.int .u64 v0)/\w'.cell? ⟨t,33+r1,none⟩=some (.int .u64 v1)/\w'.cell? ⟨t,33+r2,none⟩=some (.int .u64 v2)/\w'.cell? ⟨t,41,none⟩=some (.int .i64 oc)) (fun _ _=>trivial) _ _ _ _ ?_;refine' wbk [true,true,true,true,true,true,true] 114 HSS.out (fun wq hq=>?_) ?_;rotate_left
  ·simp only[Z08]
   obtain⟨q2,q3,q4,q5,q6,q7,q8,q9⟩:=hq
   repeat (go_big_quiet_step (fail))
   exact wpQuiet_nil rfl
  refine Z02 (by kernel_rfl) ?_ _;have q5:=HSS.out.2.2.2.1;clear HSS HS
  by_cases hz:v0=0
  ·have ez:(v0==0)=true:=beq_iff_eq.2 hz
   have ez2:(v0 != 0)=false:=by rw[hz];rfl
   clear hz;go_upto_region 20 with fail
   clear q5 ez ez2;have HT:=hid (HE.out _ _ _ (.inl rfl) h3);clear h3;go_wp2_with fail;refine HT.out.mono ?_;rintro e w5 ⟨rfl,hL⟩;clear HT;go_wp2_with fail;refine bodyPost_end (results_none rfl _ _ _) rfl ?_;exact hL.out
  ·have ez:(v0==0)=false:=beq_eq_false_iff_ne.2 hz
   have ez2:(v0 != 0)=true:=bne_iff_ne.2 hz;clear hz;go_upto_region 20 with fail
   clear q5 ez ez2;have HT:=hid (HE.out _ _ _ (.inr ⟨rfl,rfl⟩) h3);clear h3;go_wp2_with fail;refine HT.out.mono ?_;rintro e w5 ⟨rfl,hL⟩;clear HT;go_wp2_with fail;refine bodyPost_end (results_none rfl _ _ _) rfl ?_;exact hL.out
 ·clear HFN
  go_upto_region 11 with fail;replace h2:=h2.drew;clear q0 q1;refine Z01 [11] (by kernel_rfl) ?_;generalize hW:W.drew=W1 at h2 |-;clear hW;refine Z04 (fun w'=>w'.cell? ⟨gi,1,none⟩=some (.int .i64 (r:Int))/\w'.cell? ⟨gi,2,none⟩=some (.int .i64 (r1:Int))/\w'.cell? ⟨gi,3,none⟩=some (.int .i64 (r2:Int))/\w'.cell? ⟨gi,4,none⟩=some (.int .i64 im)/\w'.cell? ⟨t,33+r,none⟩=some (.int .u64 v0)/\w'.cell? ⟨t,33+r1,none⟩=some (.int .u64 v1)/\w'.cell? ⟨t,33+r2,none⟩=some (.int .u64 v2)/\w'.cell? ⟨t,41,none⟩=some (.int .i64 oc)) (fun _ _=>trivial) _ _ _ _ ?_;refine' wbz [true,true,false,true,true,true,true,false,false,true] 114 (HS.out _ _ _ h2) ?_;refine' wbk [false,false,true,false,false,false,false,true,true,false,true] 114 (HS.out _ _ _ h2) (fun wq hq=>?_) ?_;rotate_left
  ·simp only[Z08]
   obtain⟨q2,q3,q4,q5,q6,q7,q8,q9⟩:=hq
   repeat (go_big_quiet_step (fail))
   exact wpQuiet_nil rfl
  refine wbj 11 (fuel:=0) (fun QB hQB hQX=>?_);have p1:=h2.drop.th_regs hr8;have z1:=h2.drop.thZ (33+r);have H2:=hid ((h2.drop).th_regs_set hr8 (IntKind.u64.wrap oc));clear h2;go_wp2_with fail;refine hQB.out _ _ ?_;clear hQB hQX QB p1 z1 HS;refine Z06 (by kernel_rfl) ?_;refine Z02 (by kernel_rfl) ?_ _;have h3:=H2.out;go_upto_region 20 with fail
  generalize hW:World.setCell _ _ _=W2 at h3 |-;clear hW H2;have HT:=hid (HE.out _ _ _ (.inl rfl) h3);clear h3;go_wp2_with fail;refine HT.out.mono ?_;rintro e w5 ⟨rfl,hL⟩;clear HT;go_wp2_with fail;refine bodyPost_end (results_none rfl _ _ _) rfl ?_;exact hL.out
end
section
variable {w0 w:World} {R F:Asr} {t g n cp:Nat} {c:Cfg} {x:ThR} {i:InsR} {A:Option Addr} {m:Value} {Q:Int->ThR->Asr->Prop}
theorem Zkq {ι:Type} {Q1:ι->Asr} (h:Hold w0 w (F*(thA t c x*R))) (h1:i.op=10\/i.op=11\/i.op=14\/i.op=15\/i.op=8\/i.op=9)
  (hr:∀F w',Hold w0 w' (F*(thA t c x*R))->Calls Tryz.prog 67 #[ptrV t,i.val] w' (RqP w0 (fun j=>F*(thA t c x*Q1 j))))
  (hs:∀F j w',Hold w0 w' (F*(thA t c x*Q1 j))->Calls Tryz.prog 37 #[ptrV t,m] w' (AdZ w0 t c F Q)) :
  Calls Tryz.prog 39 #[ptrV t,m,i.val] w (AdZ w0 t c F Q):=by
 have HR:=hid hr;have HS:=hid hs;have H1:=hid (((h.pk2 [1,0]).newBlk (t:=28) (cs:=i.cells)).newBlk (t:=52) (cs:=#[.int .i64 0,.int .i64 0,.int .i64 0,.int .i64 0,.int .i64 0,.int .i64 0,.int .u64 0,.int .u64 0,.bool false]));obtain⟨op,hop⟩:∃op,op=i.op:=⟨_,rfl⟩;have HOP:=hid hop;rw[<- hop] at h1;clear h hr hs hop;go_enter Tryz.func39,Tryz.ntmps39;go_upto_region 1 with fail
 have h2:=H1.out;rw[show (w.alloc (.cells i.cells 28)).heap.size=w.heap.size+1 by simp] at h2;generalize hW:World.alloc _ _=W at h2 |-;generalize w.heap.size=gi at h2 |-;clear hW H1;obtain⟨gs,hgs⟩:∃gs,gs=gi+1:=⟨_,rfl⟩;rw[<- hgs] at h2 |-;clear hgs;have q0:W.cell? ⟨gi,0,none⟩=some (.int .i64 op):=by have:=h2.drop.blk.some_ (i:=0) (u:=.int .i64 i.op) rfl;rw[<- HOP.out] at this;exact this
 have hb:=h2.drop.blk;have h3:Hold w0 W ((blkA 52 gs #[.int .i64 0,.int .i64 0,.int .i64 0,.int .i64 0,.int .i64 0,.int .i64 0,.int .u64 0,.int .u64 0,.bool false]*F)*(thA t c x*R)):=(h2.pk4 [0,3,2]).join;have HRR:=hid (HR.out _ _ h3);clear h2 h3 HR;rcases h1 with rfl|rfl|rfl|rfl|rfl|rfl
 all_goals
  go_wp2_with (refine Z03 rfl 28 _ rfl gi _ _ rfl Tryz.isAgg28 _ Tryz.sizeOf28 hb rfl ?_);refine HRR.out.mono ?_;rintro e w3 ⟨j,rfl,h3⟩;have HSS:=hid (HS.out _ _ _ h3);clear HRR hb q0 h3;go_wp2_with fail;refine HSS.out.mono ?_;rintro e w6 ⟨ph,att,a,v,l,X,Y,hQ,rfl,hl,h7⟩;have h8:=(h7.pk3 [2,0,1]).part;have HQ:=hid (And.intro hQ hl);clear h7 hQ hl HSS;go_wp2_with (refine Z00 rfl 52 _ _ rfl gs _ _ (stC 0 ph att a) rfl rfl _ Tryz.sizeOf52 h8 rfl rfl rfl ?_;intro w7 h11);have HF:Hid (AdZ w0 t c F Q (.returned (.tuple #[stV 0 ph att a,v])) w7):=hid ⟨ph,att,a,v,l,X,Y,HQ.out.1,rfl,HQ.out.2,h11.drop.pk3 [1,2,0]⟩;exact bodyPost_ret (Z05 Tryz.results39 _ rfl Tryz.isAgg52 _ Tryz.sizeOf52 h11.blk rfl) rfl HF.out
theorem Zgo (h:Hold w0 w (F*(thA t c x*R))) (h1:i.op=12\/i.op=13)
  (hs:∀F w',Hold w0 w' (F*(thA t c x*R))->Calls Tryz.prog 68 #[ptrV t,m,i.val] w' (AdZ w0 t c F Q)) :
  Calls Tryz.prog 39 #[ptrV t,m,i.val] w (AdZ w0 t c F Q):=by
 have HS:=hid hs;have H1:=hid (((h.pk2 [1,0]).newBlk (t:=28) (cs:=i.cells)).newBlk (t:=52) (cs:=#[.int .i64 0,.int .i64 0,.int .i64 0,.int .i64 0,.int .i64 0,.int .i64 0,.int .u64 0,.int .u64 0,.bool false]));obtain⟨op,hop⟩:∃op,op=i.op:=⟨_,rfl⟩;have HOP:=hid hop;rw[<- hop] at h1;clear h hs hop;go_enter Tryz.func39,Tryz.ntmps39;go_upto_region 1 with fail
 have h2:=H1.out;rw[show (w.alloc (.cells i.cells 28)).heap.size=w.heap.size+1 by simp] at h2;generalize hW:World.alloc _ _=W at h2 |-;generalize w.heap.size=gi at h2 |-;clear hW H1;obtain⟨gs,hgs⟩:∃gs,gs=gi+1:=⟨_,rfl⟩;rw[<- hgs] at h2 |-;clear hgs;have q0:W.cell? ⟨gi,0,none⟩=some (.int .i64 op):=by have:=h2.drop.blk.some_ (i:=0) (u:=.int .i64 i.op) rfl;rw[<- HOP.out] at this;exact this
 have hb:=h2.drop.blk;have h3:Hold w0 W ((blkA 52 gs #[.int .i64 0,.int .i64 0,.int .i64 0,.int .i64 0,.int .i64 0,.int .i64 0,.int .u64 0,.int .u64 0,.bool false]*F)*(thA t c x*R)):=(h2.pk4 [0,3,2]).join;have HSS:=hid (HS.out _ _ h3);clear h2 h3 HS;rcases h1 with rfl|rfl
 all_goals
  go_wp2_with (refine Z03 rfl 28 _ rfl gi _ _ rfl Tryz.isAgg28 _ Tryz.sizeOf28 hb rfl ?_);refine HSS.out.mono ?_;rintro e w6 ⟨ph,att,a,v,l,X,Y,hQ,rfl,hl,h7⟩;have h8:=(h7.pk3 [2,0,1]).part;have HQ:=hid (And.intro hQ hl);clear h7 hQ hl HSS hb q0;go_wp2_with (refine Z00 rfl 52 _ _ rfl gs _ _ (stC 0 ph att a) rfl rfl _ Tryz.sizeOf52 h8 rfl rfl rfl ?_;intro w7 h11);have HF:Hid (AdZ w0 t c F Q (.returned (.tuple #[stV 0 ph att a,v])) w7):=hid ⟨ph,att,a,v,l,X,Y,HQ.out.1,rfl,HQ.out.2,h11.drop.pk3 [1,2,0]⟩;exact bodyPost_ret (Z05 Tryz.results39 _ rfl Tryz.isAgg52 _ Tryz.sizeOf52 h11.blk rfl) rfl HF.out
theorem Zgp (h:Hold w0 w (F*(thA t c x*R))) (h1:i.op=16) (hx0:x.id=0) (hx1:x.threads=1)
  (hs:∀F gf w',Hold w0 w' (F*(thA t c {x with fence:=ptrV gf}*(feA gf 0 1 false 0 0*R)))->Calls Tryz.prog 35 #[ptrV t,m] w' (WtZ w0 t c F Q)) :
  Calls Tryz.prog 39 #[ptrV t,m,i.val] w (AdZ w0 t c F Q):=by
 have HS:=hid hs;have HX:=hid (And.intro hx0 hx1);have H1:=hid (((h.pk2 [1,0]).newBlk (t:=28) (cs:=i.cells)).newBlk (t:=52) (cs:=#[.int .i64 0,.int .i64 0,.int .i64 0,.int .i64 0,.int .i64 0,.int .i64 0,.int .u64 0,.int .u64 0,.bool false]));obtain⟨op,hop⟩:∃op,op=i.op:=⟨_,rfl⟩;have HOP:=hid hop;rw[<- hop] at h1;clear h hs hx0 hx1 hop;go_enter Tryz.func39,Tryz.ntmps39;go_upto_region 1 with fail
 have h2:=H1.out;rw[show (w.alloc (.cells i.cells 28)).heap.size=w.heap.size+1 by simp] at h2;generalize hW:World.alloc _ _=W at h2 |-;generalize w.heap.size=gi at h2 |-;clear hW H1;obtain⟨gs,hgs⟩:∃gs,gs=gi+1:=⟨_,rfl⟩;rw[<- hgs] at h2 |-;clear hgs;have q0:W.cell? ⟨gi,0,none⟩=some (.int .i64 op):=by have:=h2.drop.blk.some_ (i:=0) (u:=.int .i64 i.op) rfl;rw[<- HOP.out] at this;exact this
 have hb:=h2.drop.blk;subst h1;clear HOP;go_upto_region 19 with fail
 have h3:Hold w0 W.drew (thA t c x*(blkA 52 gs #[.int .i64 0,.int .i64 0,.int .i64 0,.int .i64 0,.int .i64 0,.int .i64 0,.int .u64 0,.int .u64 0,.bool false]*(F*R))):=(h2.pk4 [2,0,3]).drew;clear h2 hb q0;have hS:∀w' R',Hold w0 w' (thA t c x*R')->w'.cell? ⟨t,29,none⟩=some (.int .i64 0)/\w'.cell? ⟨t,30,none⟩=some (.int .i64 1):=fun w' R' h=>by
  refine⟨?_,?_⟩
  ·rw[<- HX.out.1];exact h.th_id
  ·rw[<- HX.out.2];exact h.th_threads
 have HSS:=hid hS;clear hS;refine Z01 [13] (by kernel_rfl) ?_;generalize hW:W.drew=W1 at h3 |-;clear hW;refine Z04 (fun w'=>w'.cell? ⟨t,29,none⟩=some (.int .i64 0)/\w'.cell? ⟨t,30,none⟩=some (.int .i64 1)) (fun _ _=>trivial) _ _ _ _ ?_;refine' wbk [true,true,true,true,true,true,true,true,true] 103 (HSS.out _ _ h3) (fun wq hq=>?_) ?_;rotate_left
 ·simp only[Z08]
  obtain⟨q1,q2⟩:=hq
  repeat (go_big_quiet_step (fail))
  exact wpQuiet_nil rfl
 refine wbi 9 (fuel:=4) (fun QB hQB hQX=>?_);go_wp2_with fail;refine(Zkp w0 _ _ 0 1 h3).mono ?_;rintro e w3 ⟨gf,rfl,h4⟩;clear h3;go_wp2_with fail;refine hQB.out _ _ (HSS.out _ _ h4.drop) ?_;clear hQB hQX QB;refine' wbz [false,false,false,false,false,false,false,false,false,false,true,true,true] 103 (HSS.out _ _ h4.drop) ?_;refine wbj 13 (fuel:=0) (fun QB hQB hQX=>?_);have p1:=h4.drop.th_fence;have z1:=h4.drop.thZ 14;have H5:=hid (h4.swap.th_fence_set (ptrV gf));clear h4;go_wp2_with fail;refine hQB.out _ _ ?_;clear hQB hQX QB p1 z1 HSS;refine Z06 (by kernel_rfl) ?_;refine Z02 (by kernel_rfl) ?_ _;go_upto_region 20 with fail
 have h5:=H5.out;generalize hW:World.setCell _ _ _=W5 at h5 |-;clear hW H5;have HW:=hid (HS.out _ _ _ ((h5.pk4 [2,3,0,1]).join));clear h5 HS;go_wp2_with fail;refine HW.out.mono ?_;rintro e w6 ⟨ph,att,a,X,Y,hQ,rfl,h7⟩;have h8:=h7.part;have HQ:=hid hQ;clear h7 hQ HW;go_wp2_with (refine Z00 rfl 52 _ _ rfl gs _ _ (stC 0 ph att a) rfl rfl _ Tryz.sizeOf52 h8 rfl rfl rfl ?_;intro w7 h11);have HF:Hid (AdZ w0 t c F Q (.returned (.tuple #[stV 0 ph att a,.slice none 0 0])) w7):=hid ⟨ph,att,a,_,[],X,Y,HQ.out,rfl,Nat.zero_le _,(h11.drop.swap).nilEv⟩;exact bodyPost_ret (Z05 Tryz.results39 _ rfl Tryz.isAgg52 _ Tryz.sizeOf52 h11.blk rfl) rfl HF.out
theorem Zhs (h:Hold w0 w (F*(thA t c x*R))) (h1:i.op=0\/i.op=1\/i.op=2\/i.op=3\/i.op=4\/i.op=5\/i.op=6\/i.op=17) (hr:(0<=i.a/\i.a<8)/\(0<=i.b/\i.b<8)/\(0<=i.c/\i.c<8)) (him:0<=i.imm/\i.imm<=1000) (hfn:i.op=3->i.imm=0\/i.imm=1\/i.imm=5\/i.imm=8\/i.imm=11\/i.imm=12) (hc:x.code = .slice A n cp) (h0:0<=x.pc/\x.pc<=1000000) (ha:x.attempt = .pointer none\/x.attempt=ptrV g)
  (hQ:∀rg pc,(pc=x.pc+1\/isJ i.op=true/\pc=x.pc+1+i.imm)->Q 0 {x with regs:=rg,pc:=pc,done:=pc==(n:Int)} R) :
  Calls Tryz.prog 39 #[ptrV t,m,i.val] w (AdZ w0 t c F Q):=by
 have HQ:=hid hQ;have HA:=hid ha;have HL:=fun w' F' (h:Hold w0 w' (thA t c x*F'))=>hid (Zd7 h h1 hr him hfn hc h0);have H1:=hid (((h.pk2 [1,0]).newBlk (t:=28) (cs:=i.cells)).newBlk (t:=52) (cs:=#[.int .i64 0,.int .i64 0,.int .i64 0,.int .i64 0,.int .i64 0,.int .i64 0,.int .u64 0,.int .u64 0,.bool false]));obtain⟨op,hop⟩:∃op,op=i.op:=⟨_,rfl⟩;have HOP:=hid hop;rw[<- hop] at h1;clear h hr him hfn hc h0 ha hQ hop;go_enter Tryz.func39,Tryz.ntmps39;go_upto_region 1 with fail
 have h2:=H1.out;rw[show (w.alloc (.cells i.cells 28)).heap.size=w.heap.size+1 by simp] at h2;generalize hW:World.alloc _ _=W at h2 |-;generalize w.heap.size=gi at h2 |-;clear hW H1;obtain⟨gs,hgs⟩:∃gs,gs=gi+1:=⟨_,rfl⟩;rw[<- hgs] at h2 |-;clear hgs;have q0:W.cell? ⟨gi,0,none⟩=some (.int .i64 op):=by have:=h2.drop.blk.some_ (i:=0) (u:=.int .i64 i.op) rfl;rw[<- HOP.out] at this;exact this
 have hb:=h2.drop.blk;have h3:Hold w0 W (thA t c x*(blkA 52 gs #[.int .i64 0,.int .i64 0,.int .i64 0,.int .i64 0,.int .i64 0,.int .i64 0,.int .u64 0,.int .u64 0,.bool false]*(F*R))):=h2.pk4 [2,0,3];have HLL:=HL _ _ h3;clear h2 h3 HL;rcases h1 with rfl|rfl|rfl|rfl|rfl|rfl|rfl|rfl
 all_goals
  go_upto_region 22 with(refine Z03 rfl 28 _ rfl gi _ _ rfl Tryz.isAgg28 _ Tryz.sizeOf28 hb rfl ?_);refine HLL.out.mono ?_;rintro e w4 ⟨rg,pc,hpc,rfl,h4⟩;have HP:=hid (HQ.out rg pc hpc);clear HLL hb q0 hpc;have q1:=h4.Zlw;have q2:=h4.th_count;have h5:=h4.pk2 [1,0];clear h4;rcases HA.out with ha|ha
  ·rw[show ({x with regs:=rg,pc:=pc,done:=pc==(n:Int)}:ThR).attempt=x.attempt from rfl,ha] at q1
   clear ha;go_wp2_with (refine Z00 rfl 52 _ _ rfl gs _ _ (stC 0 0 0 acc0) rfl rfl _ Tryz.sizeOf52 h5 rfl rfl rfl ?_;intro w7 h11);have HF:Hid (AdZ w0 t c F Q (.returned (.tuple #[stV 0 0 0 acc0,.slice none 0 0])) w7):=hid ⟨0,0,acc0,_,[],_,R,HP.out,rfl,Nat.zero_le _,h11.drop.nilEv⟩;exact bodyPost_ret (Z05 Tryz.results39 _ rfl Tryz.isAgg52 _ Tryz.sizeOf52 h11.blk rfl) rfl HF.out
  ·rw[show ({x with regs:=rg,pc:=pc,done:=pc==(n:Int)}:ThR).attempt=x.attempt from rfl,ha] at q1
   clear ha;go_wp2_with (refine Z00 rfl 52 _ _ rfl gs _ _ (stC 0 0 x.count acc0) rfl rfl _ Tryz.sizeOf52 h5 rfl rfl rfl ?_;intro w7 h11);have HF:Hid (AdZ w0 t c F Q (.returned (.tuple #[stV 0 0 x.count acc0,.slice none 0 0])) w7):=hid ⟨0,x.count,acc0,_,[],_,R,HP.out,rfl,Nat.zero_le _,h11.drop.nilEv⟩;exact bodyPost_ret (Z05 Tryz.results39 _ rfl Tryz.isAgg52 _ Tryz.sizeOf52 h11.blk rfl) rfl HF.out
theorem Zgq (h:Hold w0 w (F*(thA t c x*R))) (h1:i.op=7) (htr:0<=x.tries/\x.tries<=1000000) (hct:0<=x.count/\x.count<=1000000)
  (hs:∀F g gs gl ge w',Hold w0 w' (F*(thA t c {x with begin_:=x.pc,saved:=x.regs,tries:=x.tries+1,attempt:=ptrV g,seen:=.slice none 0 0,count:=x.count+1}*(atA g c {Z32 gs gl x.id with state:=1,at_:=2,enter:=ptrV ge}*(enA ge x.id 0 0*(stA gs (Z09 c.reads) []*(lgA gl (newL c.writes)*R))))))->Calls Tryz.prog 37 #[ptrV t,m] w' (AdZ w0 t c F Q)) :
  Calls Tryz.prog 39 #[ptrV t,m,i.val] w (AdZ w0 t c F Q):=by
 have H1:=hid (((h.pk2 [1,0]).newBlk (t:=28) (cs:=i.cells)).newBlk (t:=52) (cs:=#[.int .i64 0,.int .i64 0,.int .i64 0,.int .i64 0,.int .i64 0,.int .i64 0,.int .u64 0,.int .u64 0,.bool false]));have HS:=hid hs;have HOP:=hid h1;clear h hs h1;obtain⟨tr,htr2⟩:∃tr,tr=x.tries:=⟨_,rfl⟩;obtain⟨ct,hct2⟩:∃ct,ct=x.count:=⟨_,rfl⟩;have HT:=hid (And.intro htr2 hct2);rw[<- htr2] at htr;rw[<- hct2] at hct;clear htr2 hct2;go_enter Tryz.func39,Tryz.ntmps39;go_upto_region 1 with fail
 have h2:=H1.out;rw[show (w.alloc (.cells i.cells 28)).heap.size=w.heap.size+1 by simp] at h2;generalize hW:World.alloc _ _=W at h2 |-;generalize w.heap.size=gi at h2 |-;clear hW H1;obtain⟨gs,hgs⟩:∃gs,gs=gi+1:=⟨_,rfl⟩;rw[<- hgs] at h2 |-;clear hgs;have q0:W.cell? ⟨gi,0,none⟩=some (.int .i64 7):=by have:=h2.drop.blk.some_ (i:=0) (u:=.int .i64 i.op) rfl;rw[HOP.out] at this;exact this
 replace h2:Hold w0 W (blkA 52 gs #[.int .i64 0,.int .i64 0,.int .i64 0,.int .i64 0,.int .i64 0,.int .i64 0,.int .u64 0,.int .u64 0,.bool false]*(thA t c x*(F*R))):=h2.imp (Imp.under _ (Imp.drop _ _));go_upto_region 3 with fail
 go_cut [] (fun wx=>Hold w0 wx (blkA 52 gs #[.int .i64 0,.int .i64 0,.int .i64 0,.int .i64 0,.int .i64 0,.int .i64 0,.int .u64 0,.int .u64 0,.bool false]*(thA t c {x with begin_:=x.pc,saved:=x.regs}*(F*R))))
 case first =>
  clear q0;replace h2:=h2.swap.drew;obtain⟨R1,hR1⟩:∃R1,R1=blkA 52 gs #[.int .i64 0,.int .i64 0,.int .i64 0,.int .i64 0,.int .i64 0,.int .i64 0,.int .u64 0,.int .u64 0,.bool false]*(F*R):=⟨_,rfl⟩;rw[<- hR1] at h2;have hS:∀w' b0 sv0,Hold w0 w' (thA t c {x with begin_:=b0,saved:=sv0}*R1)->w'.cell? ⟨t,32,none⟩=some (.int .i64 x.pc):=fun w' b0 sv0 h=>h.th_pc;have HS2:=hid hS;have HR1:=hid hR1;clear hR1 hS;have h:Hold w0 W.drew (fnA 116 t 46 (thF c {x with begin_:=x.begin_,saved:=x.saved})*R1):=h2;clear h2;refine Z01 [] (by kernel_rfl) ?_;generalize hW:W.drew=W1 at h |-;clear hW;refine Z04 (fun w'=>w'.cell? ⟨t,32,none⟩=some (.int .i64 x.pc)) (fun _ _=>trivial) _ _ _ _ ?_;refine' wby [true,true,true,true,true,true,true,true,true,true,true] 103 (HS2.out _ _ _ h) ?_;refine wbi 11 (fuel:=8) (fun QB hQB hQX=>?_);go_wp2_with (refine Z0l rfl 61 _ rfl t 33 116 46 _ #[.int .u64 (x.regs 0),.int .u64 (x.regs 1),.int .u64 (x.regs 2),.int .u64 (x.regs 3),.int .u64 (x.regs 4),.int .u64 (x.regs 5),.int .u64 (x.regs 6),.int .u64 (x.regs 7)] rfl Tryz.isAgg61 8 Tryz.sizeOf61 h rfl (by decide) ?_);refine hQB.out _ _ (HS2.out _ _ _ h) ?_;clear hQB hQX QB;refine' wby [false,false,false,false,false,false,false,false,false,false,false,false,true,true,true] 103 (HS2.out _ _ _ h) ?_;refine wbi 15 (fuel:=4) (fun QB hQB hQX=>?_);have p1:=Hold.th_begin_ h;have z1:=Hold.thZ h 1;have H:=hid (Hold.th_begin__set h x.pc);clear h;go_wp2_with fail;refine hQB.out _ _ (HS2.out _ _ _ H.out) ?_;clear hQB hQX QB p1 z1;have h:=H.out;generalize hW:World.setCell _ _ _=W2 at h |-;clear hW H;refine' wby [false,false,false,false,false,false,false,false,false,false,false,false,false,false,false,false,true,true,true] 103 (HS2.out _ _ _ h) ?_;refine wbi 19 (fuel:=0) (fun QB hQB hQX=>?_);go_wp2_with (refine Z0q rfl 61 _ _ rfl t 2 116 46 _ #[.int .u64 (x.regs 0),.int .u64 (x.regs 1),.int .u64 (x.regs 2),.int .u64 (x.regs 3),.int .u64 (x.regs 4),.int .u64 (x.regs 5),.int .u64 (x.regs 6),.int .u64 (x.regs 7)] rfl rfl _ Tryz.sizeOf61 h rfl (by decide) rfl ?_;intro w5 h5)
  first|(have hh:Hold w0 _ (thA t c {x with begin_:=x.pc,saved:=x.saved}*R1):=h;have h6:Hold w0 w5 (thA t c {x with begin_:=x.pc,saved:=x.regs}*R1):=Hold.Zm4 h5 (by kernel_rfl))|(have hh:Hold w0 _ (thA t c {x with begin_:=x.begin_,saved:=x.saved}*R1):=h;have h6:Hold w0 w5 (thA t c {x with begin_:=x.begin_,saved:=x.regs}*R1):=Hold.Zm4 h5 (by kernel_rfl))
  clear hh;refine hQB.out _ _ (HS2.out _ _ _ h6) ?_;clear hQB hQX QB h5 h;have h:=h6;clear h6;refine Z02 (by kernel_rfl) ?_ _;rw[HR1.out] at h;go_wp2_with fail;go_meet;exact Hold.swap h
 case rest =>
 clear h2 q0
 rename World=>w3
 have h3:=hcut.swap;clear hcut;have p1:=h3.th_tries;rw[show ({x with begin_:=x.pc,saved:=x.regs}:ThR).tries=x.tries from rfl,<- HT.out.1] at p1;have z1:=h3.thZ 10;have H4:=hid (h3.th_tries_set (tr+1));clear h3;go_upto_region 5 with fail
 have h4:=H4.out;generalize hW:World.setCell _ _ _=W4 at h4 |-;clear hW H4 p1 z1;have hst:=Zba h4 (by rw[show ({x with begin_:=x.pc,saved:=x.regs,tries:=tr+1}:ThR).count=x.count from rfl,<- HT.out.2];exact hct);have HST:=hid hst;clear h4 hst;go_wp2_with fail;refine HST.out.mono ?_;rintro e w5 ⟨g,gst,gl,ge,rfl,h5⟩;have h6:Hold w0 w5 (blkA 52 gs #[.int .i64 0,.int .i64 0,.int .i64 0,.int .i64 0,.int .i64 0,.int .i64 0,.int .u64 0,.int .u64 0,.bool false]*(thA t c {x with begin_:=x.pc,saved:=x.regs,tries:=x.tries+1,attempt:=ptrV g,seen:=.slice none 0 0,count:=x.count+1}*(atA g c {Z32 gst gl x.id with state:=1,at_:=2,enter:=ptrV ge}*(enA ge x.id 0 0*(stA gst (Z09 c.reads) []*(lgA gl (newL c.writes)*(F*R))))))):=by
  have h7:=h5.pk6 [5,0,1,2,3,4];rw[HT.out.1] at h7;exact h7
 have HSS:=hid (HS.out _ _ _ _ _ _ ((h6.pk7 [0,6,1,2,3,4,5]).join));clear h5 h6 HST;go_wp2_with fail;refine HSS.out.mono ?_;rintro e w6 ⟨ph,att,a,v,l,X,Y,hQ,rfl,hl,h7⟩;have h8:=(h7.pk3 [2,0,1]).part;have HQ:=hid (And.intro hQ hl);clear h7 hQ hl HSS;go_wp2_with (refine Z00 rfl 52 _ _ rfl gs _ _ (stC 0 ph att a) rfl rfl _ Tryz.sizeOf52 h8 rfl rfl rfl ?_;intro w7 h11);have HF:Hid (AdZ w0 t c F Q (.returned (.tuple #[stV 0 ph att a,v])) w7):=hid ⟨ph,att,a,v,l,X,Y,HQ.out.1,rfl,HQ.out.2,h11.drop.pk3 [1,2,0]⟩;exact bodyPost_ret (Z05 Tryz.results39 _ rfl Tryz.isAgg52 _ Tryz.sizeOf52 h11.blk rfl) rfl HF.out
end
end Go.Proofs.YtmlfangeanmmeaaGreatDoor
