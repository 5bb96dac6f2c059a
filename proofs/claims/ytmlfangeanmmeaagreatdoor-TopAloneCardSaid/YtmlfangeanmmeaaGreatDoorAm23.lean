/-
 What the proof of TopAlone leans on, part 23 of 49: Nl. No statement of its own.
-/
import Derived.Test.YtmlfangeanmmeaaGreatDoorAm1
import Derived.Test.YtmlfangeanmmeaaGreatDoorAm6
import Derived.Test.YtmlfangeanmmeaaGreatDoorAm10
import Derived.Test.YtmlfangeanmmeaaGreatDoorAm11
import Derived.Deep.DeepCutAuto
import Derived.Deep.CutBlock
set_option maxHeartbeats 16000000
set_option maxRecDepth 8000
set_option linter.unusedVariables false
namespace Go.Proofs.YtmlfangeanmmeaaGreatDoor
open Go.RowKit
structure CfS (c:Cfg):Prop where
 ok:Z18 c=0
 c0:0<=c.c0/\c.c0<=2
 c1:0<=c.c1/\c.c1<=2
 c2:c.c2=0
 c3:c.c3=0
 words:1<=c.words/\c.words<=64
 orecs:1<=c.orecs/\c.orecs<=64
 base:0<=c.base/\c.base+c.c0+c.c1*2<=c.words
def fst (c:Cfg) (b:Int):Int:=if b<c.c0 then c.base+b else c.base+c.c0+(b - c.c0)*2
def clsS (c:Cfg) (b:Int):Int:=if b<c.c0 then 0 else 1
theorem CfS.nbl {c:Cfg} (h:CfS c):(nbl c:Int)=c.c0+c.c1:=by
 rw[Zbt (Z14 h.ok)];have h2:=h.c2;have h3:=h.c3;unfold Z0n;omega
theorem Zel {c:Cfg} (h:CfS c) {b:Int} (h0:0<=b) (h1:b<(nbl c:Nat)):0<=fst c b/\fst c b<c.words/\(clsS c b=1->fst c b+1<c.words):=by
 rw[h.nbl] at h1;have hb:=h.base;have h2:=h.c0;have h3:=h.c1;unfold fst clsS
 split
 ·exact⟨by omega,by omega,fun h=>by cases h⟩
 ·exact⟨by omega,by omega,fun _=>by omega⟩
def LocQ (w:World) (k f:Int) (e:Ending) (w':World):Prop:=e = .returned (.tuple #[.int .i64 k,.int .i64 f])/\Chg [] w w'
theorem Zkf (w:World) {c:Cfg} (hc:CfS c) {b:Int} (h0:0<=b) (h1:b<(nbl c:Nat)):Calls Tryz.prog 137 #[c.val,.int .i64 b] w (LocQ w (clsS c b) (fst c b)):=by
 rw[hc.nbl] at h1;have hok:=hc.ok;have hb:=hc.base;have h2:=hc.c0;have h3:=hc.c1;have h4:=hc.words;have i0:∀w,(Instr.index 30 (.agg #[.int .i64 c.c0,.int .i64 c.c1,.int .i64 c.c2,.int .i64 c.c3]) (.int .i64 0)).run Tryz.prog w = .ok (.int .i64 c.c0) w:=fun _=>by kernel_rfl
 have i1:∀w,(Instr.index 30 (.agg #[.int .i64 c.c0,.int .i64 c.c1,.int .i64 c.c2,.int .i64 c.c3]) (.int .i64 1)).run Tryz.prog w = .ok (.int .i64 c.c1) w:=fun _=>by kernel_rfl
 have C0:=hid ((Chg.refl [] w).alloc (.cells c.cells 32));have hb0:=Blk.new w 32 c.cells;have HCK:=hid (check_any (w.alloc (.cells c.cells 32)) c);have HF:Hid ((b<c.c0->clsS c b=0/\fst c b=c.base+b)/\(¬ b<c.c0->clsS c b=1/\fst c b=c.base+c.c0+(b - c.c0)*2)):=hid ⟨fun h=>by unfold clsS fst;rw[if_pos h,if_pos h];exact⟨rfl,rfl⟩,fun h=>by unfold clsS fst;rw[if_neg h,if_neg h];exact⟨rfl,rfl⟩⟩;generalize clsS c b=kk at HF |-;generalize fst c b=ff at HF |-;obtain⟨n0,hn0⟩:∃n,n=c.c0:=⟨_,rfl⟩;obtain⟨n1,hn1⟩:∃n,n=c.c1:=⟨_,rfl⟩;obtain⟨bs,hbs⟩:∃n,n=c.base:=⟨_,rfl⟩;have HN:=hid (And.intro hn0 (And.intro hn1 hbs));rw[<- hn0,<- hn1,<- hbs] at hb;rw[<- hn0] at h1 h2 i0 HF;rw[<- hn1] at h1 h3 i1;rw[<- hn0] at i1;rw[<- hn1] at i0;rw[<- hbs] at HF;have e0:decide (b<0)=false:=decide_eq_false (by omega);have HK:=hid hok;clear hc hok hn0 hn1 hbs;go_enter Tryz.func137,Tryz.ntmps137;go_wp2_with fail;refine HCK.out.mono ?_;rintro e w1 ⟨rfl,hc1⟩;rw[HK.out];have C1:=hid (C0.out.trans hc1 (by simp));obtain⟨q0,q1,q2,q3,q4,q5,q6,q7,q8,q9,q10,q11,q12⟩:=Z0v (hb0.chg hc1 (by simp));clear hb0 hc1 C0 HCK q0 q1 q7 q8 q9 q10 q11 q12;rw[<- HN.out.2.2] at q2;rw[<- HN.out.1] at q3;rw[<- HN.out.2.1] at q4;clear HN HK
 by_cases hlt:b<n0
 ·have e1:decide (b<n0)=true:=decide_eq_true hlt
  obtain⟨rfl,rfl⟩:=HF.out.1 (by omega);clear HF;go_wp2_with fail;refine wp_loop_rounds 2 ?_;rw[rounds_succ];go_upto_region 8 with fail
  refine Z01 [] (by kernel_rfl) ?_;refine' wby [true,true,true,true,true,true,true,true] 41 trivial ?_;refine Z02 (by kernel_rfl) ?_ _;go_wp2_with fail
  go_ret2
  exact⟨rfl,C1.out.drew⟩
 ·have e1:decide (b<n0)=false:=decide_eq_false hlt
  have e2:decide (b - n0<n1)=true:=decide_eq_true (by omega);obtain⟨rfl,rfl⟩:=HF.out.2 (by omega);clear HF;go_wp2_with fail;refine wp_loop_rounds 3 ?_;rw[rounds_succ];go_wp2_with fail;rw[rounds_succ];go_upto_region 8 with fail
  refine Z01 [] (by kernel_rfl) ?_;refine' wby [true,true,true,true,true,true,true,true] 41 trivial ?_;refine Z02 (by kernel_rfl) ?_ _;go_wp2_with fail
  go_ret2
  exact⟨rfl,C1.out.drew⟩
theorem Z82 (w:World) {c:Cfg} (hc:CfS c) {b:Int} (h0:0<=b) (h1:b<(nbl c:Nat)):Calls Tryz.prog 83 #[c.val,.int .i64 b] w fun e w'=>e = .returned (.int .i64 (clsS c b))/\Chg [] w w':=by
 have C0:=hid ((Chg.refl [] w).alloc (.cells c.cells 32));have HL:=hid (Zkf (w.alloc (.cells c.cells 32)) hc h0 h1);obtain⟨q0,q1,q2,q3,q4,q5,q6,q7,q8,q9,q10,q11,q12⟩:=Z0v (Blk.new w 32 c.cells);clear hc h0 h1;go_enter Tryz.func83,Tryz.ntmps83;go_wp2_with fail;refine HL.out.mono ?_;rintro e w1 ⟨rfl,hc1⟩;have C1:=hid (C0.out.trans hc1 (by simp));clear hc1 HL q0 q1 q2 q3 q4 q5 q6 q7 q8 q9 q10 q11 q12;go_wp2_with fail;go_ret;exact⟨rfl,C1.out⟩
theorem Zal (w:World) {c:Cfg} (hc:CfS c) {b:Int} (h0:0<=b) (h1:b<(nbl c:Nat)):Calls Tryz.prog 220 #[c.val,.int .i64 b] w fun e w'=>e = .returned (.int .i64 (fst c b))/\Chg [] w w':=by
 have C0:=hid ((Chg.refl [] w).alloc (.cells c.cells 32));have HL:=hid (Zkf (w.alloc (.cells c.cells 32)) hc h0 h1);obtain⟨q0,q1,q2,q3,q4,q5,q6,q7,q8,q9,q10,q11,q12⟩:=Z0v (Blk.new w 32 c.cells);clear hc h0 h1;go_enter Tryz.func220,Tryz.ntmps220;go_wp2_with fail;refine HL.out.mono ?_;rintro e w1 ⟨rfl,hc1⟩;have C1:=hid (C0.out.trans hc1 (by simp));clear hc1 HL q0 q1 q2 q3 q4 q5 q6 q7 q8 q9 q10 q11 q12;go_wp2_with fail;go_ret;exact⟨rfl,C1.out⟩
def Zl2 (w:World) (c:Cfg) (e:Ending) (w':World):Prop:=∃b:Int,e = .returned (.int .i64 b)/\(b=-1\/0<=b/\b<(nbl c:Nat))/\Chg [] w w'
theorem Zko (w:World) {c:Cfg} (hc:CfS c) (ad:Int):Calls Tryz.prog 194 #[c.val,.int .u64 ad] w (Zl2 w c):=by
 have C0:=hid ((Chg.refl [] w).alloc (.cells c.cells 32));have HB:=hid (Blk.new w 32 c.cells);have HK:=hid (blocks_any (w.alloc (.cells c.cells 32)) c hc.ok);have HF:∀w' (b:Nat),b<nbl c->Hid (Calls Tryz.prog 220 #[c.val,.int .i64 (b:Int)] w' fun e w2=>e = .returned (.int .i64 (fst c b))/\Chg [] w' w2):=fun w' b hb=>hid (Zal w' hc (Int.natCast_nonneg b) (by omega));have hn4:nbl c<=64:=Z55 (Z14 hc.ok);obtain⟨n,hn⟩:∃n,n=nbl c:=⟨_,rfl⟩;unfold Zl2;rw[<- hn] at hn4 HK HF |-;clear hc hn;go_enter Tryz.func194,Tryz.ntmps194;go_upto_region 1 with fail
 have C0:=C0.out;have hb:=HB.out;generalize w.alloc _=W at C0 hb HK |-;generalize w.heap.size=gc at hb |-;clear HB;have HBB:=hid hb;obtain⟨q0,q1,q2,q3,q4,q5,q6,q7,q8,q9,q10,q11,q12⟩:=Z0v hb;have C1:=hid C0;clear C0 hb;go_wp2_with fail;refine HK.out.mono ?_;rintro e w1 ⟨rfl,hc1⟩;have C2:=hid (C1.out.trans hc1 (by simp));have HB2:=hid (HBB.out.chg hc1 (by simp));clear hc1 HK HBB C1 q0 q1 q2 q3 q4 q5 q6 q7 q8 q9 q10 q11 q12;go_wp2_with fail;go_loopw [8] (fun v8 wr=>∃b:Nat,b<=n/\v8 = .int .i64 (b:Int)/\Blk wr gc 32 c.cells/\Chg [] w wr) (fun v _=>n - (intOf v).toNat)
 case atStart=>exact⟨0,Nat.zero_le _,rfl,HB2.out,C2.out⟩
 case round =>
  clear HB2 C2;obtain⟨b,hbn,rfl,hb,hC⟩:=hrel
  by_cases hlt:b<n
  ·have e1:decide ((b:Int)<(n:Int))=true:=decide_eq_true (by omega)
   have e1':decide (b<n)=true:=decide_eq_true hlt;have HQ:=HF wr b hlt;obtain⟨q0,q1,q2,q3,q4,q5,q6,q7,q8,q9,q10,q11,q12⟩:=Z0v hb;have HBB:=hid hb;have HCC:=hid hC;clear hb hC;go_wp2_with fail;refine HQ.out.mono ?_;rintro e w2 ⟨rfl,hc1⟩;have C2:=hid (HCC.out.trans hc1 (by simp));have HB2:=hid (HBB.out.chg hc1 (by simp));clear hc1 HQ HBB HCC q0 q1 q2 q3 q4 q5 q6 q7 q8 q9 q10 q11 q12;generalize fst c b=f
   by_cases hf:IntKind.u64.wrap f=ad
   ·have e2:(IntKind.u64.wrap f==ad)=true:=beq_iff_eq.2 hf
    clear hf;go_wp2_with fail;go_ret;exact⟨(b:Int),rfl,.inr ⟨by omega,by omega⟩,C2.out⟩
   ·have e2:(IntKind.u64.wrap f==ad)=false:=beq_eq_false_iff_ne.2 hf
    clear hf;go_wp2_with fail;go_roundw
    case rel=>exact⟨b+1,by omega,by go_num,HB2.out,C2.out⟩
    case measure=>simp[intOf];omega
  ·obtain rfl:b=n:=by omega
   have e1:decide ((b:Int)<(b:Int))=false:=decide_eq_false (by omega);have HCC:=hid hC;clear hC;go_wp2_with fail;go_ret;exact⟨-1,rfl,.inl rfl,HCC.out⟩
end Go.Proofs.YtmlfangeanmmeaaGreatDoor
