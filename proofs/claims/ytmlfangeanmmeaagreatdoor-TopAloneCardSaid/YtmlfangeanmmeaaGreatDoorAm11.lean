/-
 What the proof of TopAlone leans on, part 11 of 49: Lists. No statement of its own.
-/
import Derived.Test.YtmlfangeanmmeaaGreatDoorAm1
import Derived.Test.YtmlfangeanmmeaaGreatDoorAm10
import Derived.Laws.MakeOwn
set_option maxHeartbeats 16000000
set_option maxRecDepth 8000
set_option linter.unusedVariables false
namespace Go.Proofs.YtmlfangeanmmeaaGreatDoor
open Go.RowKit
structure CfgOk (c:Cfg):Prop where
 w:1<=c.words/\c.words<=64
 o:1<=c.orecs/\c.orecs<=64
 k0:0<=c.c0/\c.c0<=64
 k1:0<=c.c1/\c.c1<=64
 k2:0<=c.c2/\c.c2<=64
 k3:0<=c.c3/\c.c3<=64
 n:Z0n c<=64
theorem Z14 {c:Cfg} (h:Z18 c=0):CfgOk c:=by
 rcases Z3t c with⟨_,hE⟩|⟨_,_,hE⟩|⟨⟨h1,h2⟩,⟨h3,h4,h5⟩,_⟩
 ·omega
 ·omega
 ·obtain⟨⟨a,b,d,e⟩,f⟩:=Z7s h3
  exact⟨win_true.1 h1,win_true.1 h2,win_true.1 a,win_true.1 b,win_true.1 d,win_true.1 e,f⟩
def cnt (c:Cfg):Nat->Nat
 | 0=>c.c0.toNat
 | 1=>c.c1.toNat
 | 2=>c.c2.toNat
 | _=>c.c3.toNat
def psum (c:Cfg):Nat->Nat
 | 0=>0
 | k+1=>psum c k+cnt c k
def nbl (c:Cfg):Nat:=psum c 4
theorem Zbt {c:Cfg} (h:CfgOk c):(nbl c:Int)=Z0n c:=by
 have:=h.k0;have:=h.k1;have:=h.k2;have:=h.k3;simp only[nbl,psum,cnt,Z0n];omega
theorem Z55 {c:Cfg} (h:CfgOk c):nbl c<=64:=by have:=Zbt h;have:=h.n;omega
theorem Z35 (c:Cfg) {j k:Nat} (h:j<=k):psum c j<=psum c k:=by
 induction k with
 | zero => obtain rfl:j=0:=by omega
           exact Nat.le_refl _
 | succ k ih =>
  rcases Nat.lt_or_ge j (k+1) with h'|h'
  ·exact Nat.le_trans (ih (by omega)) (by simp[psum])
  ·obtain rfl:j=k+1:=by omega
   exact Nat.le_refl _
def cls (c:Cfg) (b:Nat):Nat:=if b<psum c 1 then 0 else if b<psum c 2 then 1 else if b<psum c 3 then 2 else 3
theorem Z9b {c:Cfg} {b k:Nat} (hk:k<4) (h1:psum c k<=b) (h2:b<psum c (k+1)):cls c b=k:=by
 unfold cls;obtain h|h|h|h:k=0\/k=1\/k=2\/k=3:=by omega
 all_goals subst h
 ·rw[if_pos h2]
 ·have:=Z35 c (show 1<=1 by omega)
  rw[if_neg (by omega),if_pos h2]
 ·have:=Z35 c (show 1<=2 by omega)
  rw[if_neg (by omega),if_neg (by omega),if_pos h2]
 ·have:=Z35 c (show 1<=3 by omega)
  have:=Z35 c (show 2<=3 by omega);rw[if_neg (by omega),if_neg (by omega),if_neg (by omega)]
theorem Zks {c:Cfg} {b k:Nat} (hk:k<4) (h1:psum c k<=b):k<=cls c b:=by
 unfold cls;have:=Z35 c (show 1<=2 by omega);have:=Z35 c (show 2<=3 by omega);obtain h|h|h|h:k=0\/k=1\/k=2\/k=3:=by omega
 all_goals subst h
 ·omega
 ·rw[if_neg (by omega)];split <;> (try split) <;> omega
 ·rw[if_neg (by omega),if_neg (by omega)];split <;> omega
 ·rw[if_neg (by omega),if_neg (by omega),if_neg (by omega)];omega
def nx (c:Cfg) (b:Nat):Int:=if b+1<nbl c/\cls c (b+1)=cls c b then (b:Int)+2 else 0
theorem Zlk {c:Cfg} {b k:Nat} (hk:k<4) (h1:psum c k<=b) (h2:b+1<psum c (k+1)):nx c b=(b:Int)+2:=by
 have hn:=Z35 c (show k+1<=4 by omega);unfold nx;rw[if_pos ⟨by unfold nbl;omega,by rw[Z9b hk (by omega) h2,Z9b hk h1 (by omega)]⟩]
theorem Zdx {c:Cfg} {b k:Nat} (hk:k<4) (h1:psum c k<=b) (h2:b+1=psum c (k+1)):nx c b=0:=by
 unfold nx;rw[if_neg];rintro⟨h3,h4⟩;rw[Z9b hk h1 (by omega)] at h4;have hk3:k+1<4:=by
  rcases Nat.lt_or_ge (k+1) 4 with h|h
  ·exact h
  ·obtain rfl:k=3:=by omega
   change b+1=psum c 4 at h2;unfold nbl at h3;omega
 have:=Zks (c:=c) hk3 (show psum c (k+1)<=b+1 by omega);omega
def Z38 (c:Cfg) (k:Nat):Int:=if 0<cnt c k then (psum c k:Int)+1 else 0
def Z21 (c:Cfg) (k:Nat):List Int:=(List.range 4).map fun i=>if i<k then Z38 c i else 0
def Z2g (c:Cfg) (b:Nat):List Int:=(List.range (nbl c)).map fun i=>if i<b then nx c i else 0
def Z5h (c:Cfg):List Int:=(List.range 4).map (Z38 c)
def Z45 (c:Cfg):List Int:=(List.range (nbl c)).map (nx c)
theorem Z47 {n k:Nat} (f g:Nat->Int) (v:Int) (hk:k<n) (hv:g k=v) (he:∀i,i<n->i≠k->g i=f i):((List.range n).map f).set k v=(List.range n).map g:=by
 refine List.ext_getElem (by simp) fun i h1 h2=>?_;simp only[List.getElem_set,List.getElem_map,List.getElem_range];simp at h2
 split
 ·subst_vars;rfl
 ·rw[he i h2 (by omega)]
theorem Z37 {n:Nat} (f g:Nat->Int) (he:∀i,i<n->g i=f i):(List.range n).map f=(List.range n).map g :=
 List.map_congr_left fun i hi=>(he i (List.mem_range.1 hi)).symm
theorem Z8z (c:Cfg):List.replicate 4 (0:Int)=Z21 c 0:=by simp[Z21,List.range,List.range.loop,List.replicate]
theorem Zaj (c:Cfg) {k:Nat} (hk:k<4):(Z21 c k).set k (Z38 c k)=Z21 c (k+1) :=
 Z47 _ _ _ hk (by simp) fun i _ hi=>by
  by_cases h:i<k
  ·simp[h,show i<k+1 by omega]
  ·simp[h,show ¬ i<k+1 by omega]
theorem Z90 (c:Cfg):Z21 c 4=Z5h c:=Z37 _ _ fun i hi=>by simp[hi]
theorem Za5 (c:Cfg):List.replicate (nbl c) (0:Int)=Z2g c 0:=by
 unfold Z2g;simp;exact(List.eq_replicate_iff.2 ⟨by simp,by simp⟩).symm
theorem Zck (c:Cfg) {b:Nat} (hb:b<nbl c):(Z2g c b).set b (nx c b)=Z2g c (b+1) :=
 Z47 _ _ _ hb (by simp) fun i _ hi=>by
  by_cases h:i<b
  ·simp[h,show i<b+1 by omega]
  ·simp[h,show ¬ i<b+1 by omega]
theorem Z61 (c:Cfg) {b:Nat} (h:nx c b=0):Z2g c b=Z2g c (b+1):=Z37 _ _ fun i _=>by
 by_cases h1:i<b
 ·simp[h1,show i<b+1 by omega]
 ·by_cases h2:i=b
  ·subst h2;simp[h]
  ·simp[h1,show ¬ i<b+1 by omega]
theorem Zcl (c:Cfg):Z2g c (psum c 4)=Z45 c:=Z37 _ _ fun i hi=>by simp[nbl] at hi;simp[hi]
theorem blocks_any (w:World) (c:Cfg) (h:Z18 c=0):Calls Tryz.prog 46 #[c.val] w fun e w'=>e = .returned (.int .i64 (nbl c:Nat))/\Chg [] w w':=by
 have hc:=Z14 h;have hn:=Zbt hc;have hn2:=hc.n;have k0:=hc.k0;have k1:=hc.k1;have k2:=hc.k2;have k3:=hc.k3;have hok:Z0d c=true:=by unfold Z0d;simp only[Bool.and_eq_true,win_true];exact⟨⟨⟨k0,k1⟩,k2⟩,k3⟩
 have Hn:=hid hn;have H:=hid h;have Hok:=hid hok;clear h hc hn hok;go_enter Tryz.func46,Tryz.ntmps46;go_wp2_with fail;refine(check_any _ c).mono ?_;rintro e w1 ⟨rfl,hc1⟩;rw[H.out];have b1:=(Blk.new w 32 c.cells).chg hc1 (by simp);obtain⟨q0,q1,q2,q3,q4,q5,q6,q7,q8,q9,q10,q11,q12⟩:=Z0v b1;have C1:=hid (((Chg.refl [] w).alloc _).trans hc1 (by simp));clear b1 hc1;go_wp2_with fail;refine(heap_any _ c).mono ?_;rintro e w2 ⟨⟨a,b,rfl,hab,_⟩,hc2⟩;obtain⟨rfl,rfl⟩:=hab Hok.out;rw[<- Hn.out];have C2:=hid (C1.out.trans hc2 (by simp));clear hab hc2 C1;go_wp2_with fail;go_ret;exact⟨rfl,C2.out⟩
theorem rblocks_any (w:World) (c:Cfg) (h:Z18 c=0):Calls Tryz.prog 26 #[c.val] w fun e w'=>e = .returned (.int .i64 (nbl c:Nat))/\Chg [] w w':=by
 have hc:=Z14 h;have hn:=Zbt hc;have hn2:=hc.n;have k0:=hc.k0;have k1:=hc.k1;have k2:=hc.k2;have k3:=hc.k3;unfold Z0n at hn;have Hn:=hid hn;have H:=hid h;clear h hc hn;go_enter Tryz.func26,Tryz.ntmps26;go_wp2_with fail;refine(rcheck_any _ c).mono ?_;rintro e w1 ⟨rfl,hc1⟩;rw[H.out];have b1:=(Blk.new w 32 c.cells).chg hc1 (by simp);obtain⟨q0,q1,q2,q3,q4,q5,q6,q7,q8,q9,q10,q11,q12⟩:=Z0v b1;have C1:=hid (((Chg.refl [] w).alloc _).trans hc1 (by simp));clear b1 hc1;go_wp2_with fail;go_ret;exact⟨Z0u Hn.out.symm,C1.out⟩
theorem head_any (w:World) (t:Int) (h0:-1<=t) (h1:t<64):Calls Tryz.prog 47 #[.int .i64 0,.int .i64 t] w fun e w'=>e = .returned (.tuple #[.int .u64 (t+1),.int .i64 0])/\w=w':=by
 go_enter Tryz.func47,Tryz.ntmps47;go_wp2
 go_ret2
 refine⟨?_,rfl⟩;simp
theorem Z7u:(Tryz.prog.info? 34).map (fun i=>(i.zero,i.size,i.bytes))=some (some (.int .u64 0),1,8):=by kernel_rfl
theorem Z1p {zs:List Int} {k:IntKind} {w0 w:World} {R:Asr} {e n cp:Nat} {A:Option Addr} (h:Hold w0 w (rowA e (.slice A n cp) n (zs.map (Value.int k))*R)) {i:Nat} (hi:i<n) :
  ∃g,A=some ⟨g,0,none⟩/\w.cell? ⟨g,i,none⟩=some (.int k (zs.getD i 0))/\w.frozen? ⟨g,i,none⟩=false/\∀u,Hold w0 (w.setCell ⟨g,i,none⟩ (.int k u)) (rowA e (.slice A n cp) n ((zs.set i u).map (Value.int k))*R):=by
 obtain⟨g,hA,hc,hf,hs⟩:=h.setRow hi;have hl:i<zs.length:=by have:=h.row.1;simp at this;omega
 refine⟨g,hA,?_,hf,fun u=>?_⟩
 ·rw[hc];simp[List.getD,List.getElem?_eq_getElem hl]
 ·have:=hs (.int k u);rwa [<- List.map_set] at this
theorem Zgh (n0 n1 n2 n3:Int) (w:World):(Instr.index 30 (.agg #[.int .i64 n0,.int .i64 n1,.int .i64 n2,.int .i64 n3]) (.int .i64 0)).run Tryz.prog w = .ok (.int .i64 n0) w:=by kernel_rfl
theorem Zgg (n0 n1 n2 n3:Int) (w:World):(Instr.index 30 (.agg #[.int .i64 n0,.int .i64 n1,.int .i64 n2,.int .i64 n3]) (.int .i64 1)).run Tryz.prog w = .ok (.int .i64 n1) w:=by kernel_rfl
theorem Zgf (n0 n1 n2 n3:Int) (w:World):(Instr.index 30 (.agg #[.int .i64 n0,.int .i64 n1,.int .i64 n2,.int .i64 n3]) (.int .i64 2)).run Tryz.prog w = .ok (.int .i64 n2) w:=by kernel_rfl
theorem Zge (n0 n1 n2 n3:Int) (w:World):(Instr.index 30 (.agg #[.int .i64 n0,.int .i64 n1,.int .i64 n2,.int .i64 n3]) (.int .i64 3)).run Tryz.prog w = .ok (.int .i64 n3) w:=by kernel_rfl
def Zfb (w0:World) (R:Asr) (c:Cfg) (e:Ending) (w':World):Prop :=
 ∃H X ch cx,e = .returned (.tuple #[.slice H 4 ch,.slice X (nbl c) cx])/\Hold w0 w' (rowA 34 (.slice H 4 ch) 4 ((Z5h c).map (Value.int .u64))*(rowA 34 (.slice X (nbl c) cx) (nbl c) ((Z45 c).map (Value.int .u64))*R))
theorem Zfe {x:Int} (h0:0<=x) (h1:x<=1000000):IntKind.u64.wrap x=x:=by rw[IntKind.wrap_u64];omega
theorem lists_any (w0 w:World) (R:Asr) (c:Cfg) (h:Z18 c=0) (hR:Hold w0 w R):Calls Tryz.prog 30 #[c.val] w (Zfb w0 R c):=by
 obtain⟨iU,hiU,hzU0,hzU1,hzU2⟩:=info_parts Z7u;have hc:=Z14 h;have hn64:=Z55 hc;have ix:∀(k:Nat),k<4->∀w,(Instr.index 30 (.agg #[.int .i64 c.c0,.int .i64 c.c1,.int .i64 c.c2,.int .i64 c.c3]) (.int .i64 k)).run Tryz.prog w = .ok (.int .i64 (cnt c k:Nat)) w:=by
  intro k hk w;have k0:=hc.k0;have k1:=hc.k1;have k2:=hc.k2;have k3:=hc.k3;obtain h|h|h|h:k=0\/k=1\/k=2\/k=3:=by omega
  all_goals subst h
  ·rw[show ((cnt c 0:Nat):Int)=c.c0 by simp only[cnt];omega];exact Zgh _ _ _ _ _
  ·rw[show ((cnt c 1:Nat):Int)=c.c1 by simp only[cnt];omega];exact Zgg _ _ _ _ _
  ·rw[show ((cnt c 2:Nat):Int)=c.c2 by simp only[cnt];omega];exact Zgf _ _ _ _ _
  ·rw[show ((cnt c 3:Nat):Int)=c.c3 by simp only[cnt];omega];exact Zge _ _ _ _ _
 have hcn:∀k,k<4->psum c (k+1)<=nbl c:=fun k hk=>Z35 c (by omega);have HC:=hid hc;have HE:=hid h;have IX:=hid ix;have CN:=hid hcn;clear h hc ix hcn;go_enter Tryz.func30,Tryz.ntmps30;go_wp2_with (at_make;refine wpList_make_full _ rfl _ _ 33 rfl _ 34 iU (.int .u64 0) 1 Tryz.underlying33 hiU hzU0 hzU1 .i64 .i64 (4:Int) (4:Int) 4 rfl rfl rfl rfl (by rw[hzU2];omega) (by unfold maxLen;omega) (Nat.le_refl _) ?_);intro w1 hown hgrow;have h1:=(hR.newBlk (t:=32) (cs:=c.cells)).make hown hgrow (by simp);obtain⟨q0,q1,q2,q3,q4,q5,q6,q7,q8,q9,q10,q11,q12⟩:=Z0v h1.swap.blk;generalize (some ⟨w.heap.size+1,0,none⟩:Option Addr)=H at h1 |-;generalize w.heap.size=gc at h1 q0 q1 q2 q3 q4 q5 q6 q7 q8 q9 q10 q11 q12 |-;clear hown hgrow hR;go_wp2_with fail;refine(blocks_any _ c HE.out).mono ?_;rintro e w2 ⟨rfl,hc2⟩;have h2:=h1.chg0 hc2;clear h1 hc2 q0 q1 q2 q3 q4 q5 q6 q7 q8 q9 q10 q11 q12;obtain⟨n,hn⟩:∃n,n=nbl c:=⟨_,rfl⟩;rw[<- hn] at hn64 |-;have Hn:=hid hn;clear hn;go_wp2_with (at_make;refine wpList_make_full _ rfl _ _ 33 rfl _ 34 iU (.int .u64 0) 1 Tryz.underlying33 hiU hzU0 hzU1 .i64 .i64 (n:Int) (n:Int) n rfl rfl rfl rfl (by rw[hzU2];omega) (by unfold maxLen;omega) (Nat.le_refl _) ?_);intro w3 hown hgrow;have h3:=h2.make hown hgrow (Nat.le_refl _);obtain⟨q0,q1,q2,q3,q4,q5,q6,q7,q8,q9,q10,q11,q12⟩:=Z0v h3.third.blk;generalize (some ⟨w2.heap.size,0,none⟩:Option Addr)=X at h3 |-;have h4:Hold w0 w3 (rowA 34 (.slice X n n) n ((Z2g c (psum c 0)).map (Value.int .u64))*(rowA 34 (.slice H 4 4) 4 ((Z21 c 0).map (Value.int .u64))*(blkA 32 gc c.cells*R))):=by
  rw[show psum c 0=0 from rfl,<- Za5,<- Z8z,<- Hn.out];exact h3
 clear h2 h3 hown hgrow;go_wp2_with fail;clear q0 q1 q2 q3 q4 q5 q6 q7 q8 q9 q10 q11 q12;go_loopw [4,15] (fun f i wr=>∃k:Nat,k<=4/\i = .int .i64 k/\f = .int .i64 (psum c k:Nat)/\Hold w0 wr (rowA 34 (.slice X n n) n ((Z2g c (psum c k)).map (Value.int .u64))*(rowA 34 (.slice H 4 4) 4 ((Z21 c k).map (Value.int .u64))*(blkA 32 gc c.cells*R)))) (fun _ i _=>4 - (intOf i).toNat)
 case atStart=>exact⟨0,by omega,rfl,rfl,h4⟩
 case round =>
  obtain⟨k,hk,rfl,rfl,h5⟩:=hrel;clear h4
  by_cases hlt:k<4
  ·have e1 : decide ((k:Int)<4)=true:=decide_eq_true (by omega)
   have hix:=IX.out k hlt;have hcn:=CN.out k hlt;rw[<- Hn.out] at hcn;have hps:psum c (k+1)=psum c k+cnt c k:=rfl;obtain⟨m,hm⟩:∃m,m=cnt c k:=⟨_,rfl⟩;obtain⟨f,hf⟩:∃f,f=psum c k:=⟨_,rfl⟩;have hh0:Z38 c k=if 0<m then (f:Int)+1 else 0:=by rw[hm,hf];rfl
   rw[<- hm] at hps hix;rw[<- hf] at hps h5 |-;have Hm:=hid hm;have Hf:=hid hf;have Hps:=hid hps;have Hh0:=hid hh0;have hfm:f+m<=n:=by omega
   obtain⟨gh,hH,hch,hfh,hsh⟩:=Z1p h5.swap (i:=k) hlt;have h6:=hsh (Z38 c k);rw[Zaj c hlt] at h6;have H6:=hid h6.swap;subst hH;clear hm hf hps hh0 hcn h5 h6 hsh;have b0:(0:Int)<=(k:Int):=by omega
   have b1:(k:Int)<4:=by omega
   by_cases hm0:0<m
   ·have hh : Z38 c k=(f:Int)+1:=by rw[Hh0.out,if_pos hm0]
    rw[hh] at H6;have e2:decide ((0:Int)<(m:Int))=true:=decide_eq_true (by omega);clear hh;go_wp2_with (go_at_call 47;refine(head_any _ _ (by omega) (by omega)).mono ?_;rintro e w' ⟨rfl,rfl⟩);obtain⟨wo,rfl⟩:∃wo:World,wo=wr:=⟨_,rfl⟩;clear hch hfh;go_loopw [8] (fun i wr=>∃b:Nat,f<=b/\b<=f+(m - 1)/\i = .int .i64 b/\Hold w0 wr (rowA 34 (.slice X n n) n ((Z2g c b).map (Value.int .u64))*(rowA 34 (.slice (some ⟨gh,0,none⟩) 4 4) 4 ((Z21 c (k+1)).map (Value.int .u64))*(blkA 32 gc c.cells*R)))) (fun i _=>f+m - (intOf i).toNat)
    case atStart=>exact⟨f,Nat.le_refl _,by omega,rfl,H6.out⟩
    case round =>
     obtain⟨b,hb1,hb2,rfl,h7⟩:=hrel;clear H6
     by_cases hbm:b+1<f+m
     ·have e3:decide ((b:Int)<(f:Int)+(m:Int) - 1)=true:=decide_eq_true (by omega)
      have hnx:nx c b=(b:Int)+2:=Zlk hlt (by rw[<- Hf.out];omega) (by rw[Hps.out];omega);obtain⟨gx,hX,hcx,hfx,hsx⟩:=Z1p h7 (i:=b) (by omega);have h8:=hsx (nx c b);rw[Zck c (by rw[<- Hn.out];omega),hnx] at h8;have hwr:IntKind.u64.wrap ((b:Int)+2)=(b:Int)+2:=Zfe (by omega) (by omega);have H8:=hid h8;have Hwr:=hid hwr;have b2:(0:Int)<=(b:Int):=by omega
      have b3:(b:Int)<(n:Int):=by omega
      subst hX;clear hnx h7 h8 hsx hwr;go_wp2_with fail
      try rw[Hwr.out]
      go_roundw
      case rel=>exact⟨b+1,by omega,by omega,by go_num,H8.out⟩
      case measure=>simp[intOf];omega
     ·have e3:decide ((b:Int)<(f:Int)+(m:Int) - 1)=false:=decide_eq_false (by omega)
      have h8:Hold w0 wr (rowA 34 (.slice X n n) n ((Z2g c (psum c (k+1))).map (Value.int .u64))*(rowA 34 (.slice (some ⟨gh,0,none⟩) 4 4) 4 ((Z21 c (k+1)).map (Value.int .u64))*(blkA 32 gc c.cells*R))):=by
       rw[Hps.out]
       by_cases hm1:0<m
       ·have hnx:nx c b=0:=Zdx hlt (by rw[<- Hf.out];omega) (by rw[Hps.out];omega)
        rw[show f+m=b+1 by omega,<- Z61 c hnx];exact h7
       ·rw[show f+m=b by omega];exact h7
      have H8:=hid h8;have hpf:((f:Int)+(m:Int))=((psum c (k+1):Nat):Int):=by rw[Hps.out];omega
      have Hpf:=hid hpf;clear h7 h8 hpf;go_wp2_with fail;rw[Hpf.out];go_roundw
      case rel=>exact⟨k+1,by omega,by go_num,rfl,H8.out⟩
      case measure=>simp[intOf];omega
   ·obtain rfl:m=0:=by omega
    have hh:Z38 c k=0:=by rw[Hh0.out,if_neg (by omega)]
    rw[hh] at H6;clear hh;go_wp2_with (go_at_call 47;refine(head_any _ _ (by omega) (by omega)).mono ?_;rintro e w' ⟨rfl,rfl⟩);obtain⟨wo,rfl⟩:∃wo:World,wo=wr:=⟨_,rfl⟩;clear hch hfh;go_loopw [8] (fun i wr=>∃b:Nat,f<=b/\b<=f+(0 - 1)/\i = .int .i64 b/\Hold w0 wr (rowA 34 (.slice X n n) n ((Z2g c b).map (Value.int .u64))*(rowA 34 (.slice (some ⟨gh,0,none⟩) 4 4) 4 ((Z21 c (k+1)).map (Value.int .u64))*(blkA 32 gc c.cells*R)))) (fun i _=>f+0 - (intOf i).toNat)
    case atStart=>exact⟨f,Nat.le_refl _,by omega,rfl,H6.out⟩
    case round =>
     obtain⟨b,hb1,hb2,rfl,h7⟩:=hrel;clear H6
     by_cases hbm:b+1<f+0
     ·exfalso;omega
     ·have e3:decide ((b:Int)<(f:Int)+((0:Nat):Int) - 1)=false:=decide_eq_false (by omega)
      have h8:Hold w0 wr (rowA 34 (.slice X n n) n ((Z2g c (psum c (k+1))).map (Value.int .u64))*(rowA 34 (.slice (some ⟨gh,0,none⟩) 4 4) 4 ((Z21 c (k+1)).map (Value.int .u64))*(blkA 32 gc c.cells*R))):=by
       rw[Hps.out]
       by_cases hm1:0<0
       ·have hnx:nx c b=0:=Zdx hlt (by rw[<- Hf.out];omega) (by rw[Hps.out];omega)
        rw[show f+0=b+1 by omega,<- Z61 c hnx];exact h7
       ·rw[show f+0=b by omega];exact h7
      have H8:=hid h8;have hpf:(f:Int)=((psum c (k+1):Nat):Int):=by rw[Hps.out];omega
      have Hpf:=hid hpf;clear h7 h8 hpf;go_wp2_with fail;rw[Hpf.out];go_roundw
      case rel=>exact⟨k+1,by omega,by go_num,rfl,H8.out⟩
      case measure=>simp[intOf];omega
  ·obtain rfl:k=4:=by omega
   have h6:Hold w0 wr (rowA 34 (.slice H 4 4) 4 ((Z5h c).map (Value.int .u64))*(rowA 34 (.slice X n n) n ((Z45 c).map (Value.int .u64))*R)):=by
    rw[<- Z90,<- Zcl];exact h5.swap.imp (Imp.under _ (Imp.under _ (Imp.drop _ _)))
   have H6:=hid h6;clear h5 h6;go_wp2_with fail
   go_ret2
   exact⟨H,X,4,n,by rw[Hn.out];rfl,by rw[<- Hn.out];exact H6.out⟩
end Go.Proofs.YtmlfangeanmmeaaGreatDoor
