/-
 What the proof of TopAlone leans on, part 36 of 49: Qs, Qw, Qr, Ng, Ne. No statement of its own.
-/
import Derived.Test.YtmlfangeanmmeaaGreatDoorAm2
import Derived.Test.YtmlfangeanmmeaaGreatDoorAm6
import Derived.Test.YtmlfangeanmmeaaGreatDoorAm19
import Derived.Test.YtmlfangeanmmeaaGreatDoorAm33
import Derived.Test.YtmlfangeanmmeaaGreatDoorAm34
set_option maxHeartbeats 16000000
set_option maxRecDepth 8000
set_option linter.unusedVariables false
namespace Go.Proofs.YtmlfangeanmmeaaGreatDoor
open Go.RowKit
def StZ (w0:World) (t:Nat) (c:Cfg) (F:Asr) (Q:Int->ThR->Asr->Prop) (e:Ending) (w':World):Prop:=∃ph att a v l X Y,Q ph X Y/\e = .returned (.tuple #[stV 0 ph att a,v,.bool true])/\List.length l<=1/\Hold w0 w' (evA v l*(thA t c X*(F*Y)))
def WtZ (w0:World) (t:Nat) (c:Cfg) (F:Asr) (Q:Int->ThR->Asr->Prop) (e:Ending) (w':World):Prop:=∃ph att a X Y,Q ph X Y/\e = .returned (stV 0 ph att a)/\Hold w0 w' (F*(thA t c X*Y))
section
variable {w0 w:World} {R F:Asr} {t g n cp k:Nat} {c:Cfg} {x:ThR} {p:List InsR} {i:InsR} {A:Option Addr} {m:Value}
abbrev HTC (w0 w:World) (F:Asr) (t:Nat) (c:Cfg) (x:ThR) (A:Option Addr) (cp:Nat) (p:List InsR) (R:Asr):Prop:=Hold w0 w (F*(thA t c x*(Z0a (.slice A p.length cp) p*R)))
def BrZ (w0:World) (t g:Nat) (c:Cfg) (x:ThR) (A:Option Addr) (cp:Nat) (p:List InsR) (R:Asr) (i:InsR) (m:Value) (Q:Int->ThR->Asr->Prop):Prop :=
 ((∃gf,x.fence=ptrV gf)/\∀F w,HTC w0 w F t c x A cp p R->Calls Tryz.prog 35 #[ptrV t,m] w (WtZ w0 t c F Q)) \/
 (x.fence = .pointer none /\
  ((x.attempt=ptrV g/\(∀F w,HTC w0 w F t c x A cp p R->Calls Tryz.prog 36 #[ptrV g] w fun e w'=>e = .returned (.bool true)/\w=w')/\∀F w,HTC w0 w F t c x A cp p R->Calls Tryz.prog 37 #[ptrV t,m] w (AdZ w0 t c F Q)) \/
   (x.attempt=ptrV g/\x.strong=true/\(∀F w,HTC w0 w F t c x A cp p R->Calls Tryz.prog 36 #[ptrV g] w fun e w'=>e = .returned (.bool false)/\w=w') /\
     ∃K:ThR->Asr->Prop,(∀F w,HTC w0 w F t c x A cp p R->Calls Tryz.prog 38 #[ptrV t,i.val] w fun e w'=>e = .returned (.tuple #[])/\∃x2 R2,K x2 R2/\HTC w0 w' F t c x2 A cp p R2) /\
      ∀x2 R2,K x2 R2->∀F w,HTC w0 w F t c x2 A cp p R2->Calls Tryz.prog 37 #[ptrV t,m] w (AdZ w0 t c F Q)) \/
   ((x.attempt = .pointer none\/x.attempt=ptrV g/\x.strong=false/\∀F w,HTC w0 w F t c x A cp p R->Calls Tryz.prog 36 #[ptrV g] w fun e w'=>e = .returned (.bool false)/\w=w')/\∀F w,HTC w0 w F t c x A cp p R->Calls Tryz.prog 39 #[ptrV t,m,i.val] w (AdZ w0 t c F Q))))
theorem Z3d {Q:Int->ThR->Asr->Prop} (h:HTC w0 w F t c x A cp p R) (hcd:x.code = .slice A p.length cp) (hpc:x.pc=(k:Int)) (hi:p[k]?=some i) (hdone:x.done=false) (hid0:∀ph X Y,Q ph X Y->X.id=0) (hbr:BrZ w0 t g c x A cp p R i m Q) :
  Calls Tryz.prog 19 #[ptrV t,m] w (StZ w0 t c F Q):=by
 have HX:=hid (And.intro hcd (And.intro hpc (And.intro hi hdone)));have HI:=hid hid0;have HBR:=hid hbr;have H1:=hid ((h.pk3 [1,2,0]).newBlk (t:=52) (cs:=#[.int .i64 0,.int .i64 0,.int .i64 0,.int .i64 0,.int .i64 0,.int .i64 0,.int .u64 0,.int .u64 0,.bool false]));clear h hcd hpc hi hdone hbr hid0;go_enter Tryz.func19,Tryz.ntmps19;go_upto_region 1 with fail
 have h1:=H1.out;generalize hW:w.alloc _=W at h1 |-;generalize w.heap.size=gr at h1 |-;clear hW H1;have q:=h1.drop.th_done;rw[HX.out.2.2.2] at q;go_upto_region 3 with fail
 have h2:=(h1.newBlk (t:=52) (cs:=#[.int .i64 0,.int .i64 0,.int .i64 0,.int .i64 0,.int .i64 0,.int .i64 0,.int .u64 0,.int .u64 0,.bool false]));clear h1 q;go_upto_region 5 with fail
 generalize hW:W.alloc _=W2 at h2 |-;generalize W.heap.size=gs at h2 |-;clear hW;obtain⟨gc,hA,hcap,-⟩:=(h2.pk4 [3]).codeAt HX.out.2.2.1;subst hA;have hkl:k<p.length:=(List.getElem?_eq_some_iff.1 HX.out.2.2.1).1;have hS:∀w' R',Hold w0 w' (thA t c x*(Z0a (.slice (some ⟨gc,0,none⟩) p.length cp) p*R'))->w'.cell? ⟨t,31,none⟩=some (.slice (some ⟨gc,0,none⟩) p.length cp)/\w'.cell? ⟨t,32,none⟩=some (.int .i64 (k:Int))/\CodeAt w' gc k i:=by
  intro w' R' h;refine⟨?_,?_,h.drop.code HX.out.2.2.1⟩
  ·have:=h.th_code;rw[HX.out.1] at this;exact this
  ·have:=h.th_pc;rw[HX.out.2.1] at this;exact this
 have HS2:=hid hS;clear hS;have H2:=hid h2;replace h2:=h2.drew;refine Z01 [12] (by kernel_rfl) ?_;refine Z04 (fun w'=>w'.cell? ⟨t,31,none⟩=some (.slice (some ⟨gc,0,none⟩) p.length cp)/\w'.cell? ⟨t,32,none⟩=some (.int .i64 (k:Int))/\CodeAt w' gc k i) (fun _ _=>trivial) _ _ _ _ ?_;refine' wbk [true,true,true,true,true,true,true,true,true,true,true] 99 (HS2.out _ _ (h2.pk4 [2,3,0,1])) (fun wq hq=>?_) ?_;rotate_left
 ·simp only[Z08]
  obtain⟨q1,q2,q3,q4,q5,q6,q7⟩:=hq
  repeat (go_big_quiet_step (fail))
  exact wpQuiet_nil rfl
 refine wbi 11 (fuel:=1) (fun QB hQB hQX=>?_);go_wp2_with fail;have h3:=(h2.newBlk (t:=28) (cs:=#[.int .i64 0,.int .i64 0,.int .i64 0,.int .i64 0,.int .i64 0]));refine hQB.out _ _ (HS2.out _ _ (h3.pk5 [3,4,0,1,2])) ?_;clear hQB hQX QB h2;refine wbj 12 (fuel:=0) (fun QB hQB hQX=>?_);have qs:=h3.blk.some_ (i:=0) rfl;go_wp2_with fail;refine hQB.out _ _ ?_;clear hQB hQX QB;refine Z06 (by kernel_rfl) ?_;refine Z02 (by kernel_rfl) ?_ _;have h4:Hold w0 _ (blkA 28 W2.heap.size i.cells*(blkA 52 gs #[.int .i64 0,.int .i64 0,.int .i64 0,.int .i64 0,.int .i64 0,.int .i64 0,.int .u64 0,.int .u64 0,.bool false]*(blkA 52 gr #[.int .i64 0,.int .i64 0,.int .i64 0,.int .i64 0,.int .i64 0,.int .i64 0,.int .u64 0,.int .u64 0,.bool false]*(thA t c x*(Z0a (.slice (some ⟨gc,0,none⟩) p.length cp) p*(F*R)))))):=(H2.out.newBlk (t:=28) (cs:=#[.int .i64 i.op,.int .i64 i.a,.int .i64 i.b,.int .i64 i.c,.int .i64 i.imm])).drew;generalize hW:World.drew _=W3 at h4 |-;generalize W2.heap.size=gi at h4 |-;clear hW HS2 H2 h3 qs;go_upto_block 0 with fail
 go_cut [8] (fun v wx=>∃(Av:Option Addr) (nv cv:Nat) (ph att:Int) (a:Acc) (l:List EvR) (X:ThR) (Y:Asr),v = .slice Av nv cv/\l.length<=1/\Q ph X Y/\Hold w0 wx (blkA 52 gs (stC 0 ph att a)*(blkA 52 gr #[.int .i64 0,.int .i64 0,.int .i64 0,.int .i64 0,.int .i64 0,.int .i64 0,.int .u64 0,.int .u64 0,.bool false]*(evA (.slice Av nv cv) l*(thA t c X*(F*Y))))))
 case first =>
  have h5:HTC w0 W3 ((blkA 52 gs #[.int .i64 0,.int .i64 0,.int .i64 0,.int .i64 0,.int .i64 0,.int .i64 0,.int .u64 0,.int .u64 0,.bool false]*blkA 52 gr #[.int .i64 0,.int .i64 0,.int .i64 0,.int .i64 0,.int .i64 0,.int .i64 0,.int .u64 0,.int .u64 0,.bool false])*F) t c x (some ⟨gc,0,none⟩) cp p R:=((h4.pk6 [1,2,5,3,4]).join).join;have q1:=(h4.pk4 [3]).th_fence;have q2:=(h4.pk4 [3]).Zlw;have q3:=(h4.pk4 [3]).th_strong;have qb:=h4.blk;clear h4;have HFIN:=hid (show ∀(ph:Int) (v:Value) (l:List EvR) (X:ThR) (Y:Asr) (w':World),Q ph X Y->List.length l<=1->Hold w0 w' (evA v l*(thA t c X*(((blkA 52 gs #[.int .i64 0,.int .i64 0,.int .i64 0,.int .i64 0,.int .i64 0,.int .i64 0,.int .u64 0,.int .u64 0,.bool false]*blkA 52 gr #[.int .i64 0,.int .i64 0,.int .i64 0,.int .i64 0,.int .i64 0,.int .i64 0,.int .u64 0,.int .u64 0,.bool false])*F)*Y)))->Hid (∃Av nv cv,v = .slice Av nv cv)/\Hold w0 w' (blkA 52 gs #[.int .i64 0,.int .i64 0,.int .i64 0,.int .i64 0,.int .i64 0,.int .i64 0,.int .u64 0,.int .u64 0,.bool false]*(blkA 52 gr #[.int .i64 0,.int .i64 0,.int .i64 0,.int .i64 0,.int .i64 0,.int .i64 0,.int .u64 0,.int .u64 0,.bool false]*(evA v l*(thA t c X*(F*Y))))) from fun ph v l X Y w' hQ hl h7=>by
   have h8:=(((h7.pk3 [2,0,1]).part).part).pk5 [0,1,3,4,2];obtain⟨A,k,hv⟩:=(h8.pk3 [2]).part.Zlt;exact⟨hid ⟨A,_,k,hv⟩,h8⟩)
  rcases HBR.out with⟨⟨gf,hf⟩,hw⟩|⟨hf,⟨ha,hb,hs⟩|⟨ha,hst,hb,K,hk,hs⟩|⟨ha,hs⟩⟩
  ·rw[hf] at q1
   have HW:=hid (hw _ _ h5);clear h5 hw hf q2 q3 HBR qb;go_wp2_with fail;refine HW.out.mono ?_;rintro e w4 ⟨ph,att,a,X,Y,hQ,rfl,h6⟩;have h8:=((h6.pk2 [1,0]).nilEv);obtain⟨-,h9⟩:=HFIN.out _ _ _ _ _ _ hQ (Nat.zero_le _) h8;have HQ:=hid hQ;clear HW q1 h6 h8 hQ;go_wp2_with (refine Z00 rfl 52 _ _ rfl gs _ _ (stC 0 ph att a) rfl rfl _ Tryz.sizeOf52 h9 rfl rfl rfl ?_;intro w5 h10);go_meet;exact⟨none,0,0,ph,att,a,[],X,Y,rfl,Nat.zero_le _,HQ.out,h10⟩
  ·rw[hf] at q1
   rw[ha] at q2;have HB:=hid (hb _ _ h5);have HS:=hid (hs _ _ h5);clear h5 hf ha hb hs q3 HBR qb;go_upto_region 10 with(refine HB.out.mono ?_;rintro e w' ⟨rfl,rfl⟩)
   clear HB q1 q2;go_wp2_with fail;refine HS.out.mono ?_;rintro e w4 ⟨ph,att,a,v,l,X,Y,hQ,rfl,hl,h6⟩;obtain⟨hv,h9⟩:=HFIN.out _ _ _ _ _ _ hQ hl h6;obtain⟨Av,nv,cv,rfl⟩:=hv.out;have HQ:=hid (And.intro hQ hl);clear HS h6 hQ hl hv;go_wp2_with (refine Z00 rfl 52 _ _ rfl gs _ _ (stC 0 ph att a) rfl rfl _ Tryz.sizeOf52 h9 rfl rfl rfl ?_;intro w5 h10);go_meet;exact⟨Av,nv,cv,ph,att,a,l,X,Y,rfl,HQ.out.2,HQ.out.1,h10⟩
  ·rw[hf] at q1
   rw[ha] at q2;rw[hst] at q3;have HB:=hid (hb _ _ h5);have HK:=hid (hk _ _ h5);have HS:=hid hs;clear h5 hf ha hb hs hst hk HBR;go_upto_region 12 with(refine HB.out.mono ?_;rintro e w' ⟨rfl,rfl⟩)
   clear HB q1 q2 q3;go_wp2_with (refine Z03 rfl 28 _ rfl gi _ _ rfl Tryz.isAgg28 _ Tryz.sizeOf28 qb rfl ?_);refine HK.out.mono ?_;rintro e w4 ⟨rfl,x2,R2,hK,h6⟩;have HSS:=hid (HS.out _ _ hK _ _ h6);clear HK HS hK h6 qb;go_wp2_with fail;refine HSS.out.mono ?_;rintro e w5 ⟨ph,att,a,v,l,X,Y,hQ,rfl,hl,h6⟩;obtain⟨hv,h9⟩:=HFIN.out _ _ _ _ _ _ hQ hl h6;obtain⟨Av,nv,cv,rfl⟩:=hv.out;have HQ:=hid (And.intro hQ hl);clear HSS h6 hQ hl hv;go_wp2_with (refine Z00 rfl 52 _ _ rfl gs _ _ (stC 0 ph att a) rfl rfl _ Tryz.sizeOf52 h9 rfl rfl rfl ?_;intro w7 h10);go_meet;exact⟨Av,nv,cv,ph,att,a,l,X,Y,rfl,HQ.out.2,HQ.out.1,h10⟩
  ·rw[hf] at q1
   have HS:=hid (hs _ _ h5);rcases ha with ha|⟨ha,hst,hb⟩
   ·rw[ha] at q2
    clear h5 hf ha hs HBR q3;go_upto_region 6 with fail
    clear q1 q2;go_wp2_with (refine Z03 rfl 28 _ rfl gi _ _ rfl Tryz.isAgg28 _ Tryz.sizeOf28 qb rfl ?_);refine HS.out.mono ?_;rintro e w5 ⟨ph,att,a,v,l,X,Y,hQ,rfl,hl,h6⟩;obtain⟨hv,h9⟩:=HFIN.out _ _ _ _ _ _ hQ hl h6;obtain⟨Av,nv,cv,rfl⟩:=hv.out;have HQ:=hid (And.intro hQ hl);clear HS h6 hQ hl hv qb;go_wp2_with (refine Z00 rfl 52 _ _ rfl gs _ _ (stC 0 ph att a) rfl rfl _ Tryz.sizeOf52 h9 rfl rfl rfl ?_;intro w7 h10);go_meet;exact⟨Av,nv,cv,ph,att,a,l,X,Y,rfl,HQ.out.2,HQ.out.1,h10⟩
   ·rw[ha] at q2
    rw[hst] at q3;have HB:=hid (hb _ _ h5);clear h5 hf ha hs hst hb HBR;go_upto_region 6 with(refine HB.out.mono ?_;rintro e w' ⟨rfl,rfl⟩)
    clear q1 q2 q3 HB;go_wp2_with (refine Z03 rfl 28 _ rfl gi _ _ rfl Tryz.isAgg28 _ Tryz.sizeOf28 qb rfl ?_);refine HS.out.mono ?_;rintro e w5 ⟨ph,att,a,v,l,X,Y,hQ,rfl,hl,h6⟩;obtain⟨hv,h9⟩:=HFIN.out _ _ _ _ _ _ hQ hl h6;obtain⟨Av,nv,cv,rfl⟩:=hv.out;have HQ:=hid (And.intro hQ hl);clear HS h6 hQ hl hv qb;go_wp2_with (refine Z00 rfl 52 _ _ rfl gs _ _ (stC 0 ph att a) rfl rfl _ Tryz.sizeOf52 h9 rfl rfl rfl ?_;intro w7 h10);go_meet;exact⟨Av,nv,cv,ph,att,a,l,X,Y,rfl,HQ.out.2,HQ.out.1,h10⟩
 case rest =>
 clear h4
 rename World=>w6
 obtain⟨Av,nv,cv,ph,att,a,l,X,Y,rfl,hl,hQ,h9⟩:=hcut;have q1:=(h9.pk4 [3]).th_id;rw[HI.out _ _ _ hQ] at q1;have h10:Hold w0 _ (blkA 52 gs (stC 0 ph att a)*(blkA 52 gr #[.int .i64 0,.int .i64 0,.int .i64 0,.int .i64 0,.int .i64 0,.int .i64 0,.int .u64 0,.int .u64 0,.bool false]*(evA (.slice Av nv cv) l*(thA t c X*(F*Y))))):=h9.Zlp 0 (.int .i64 0);have qs:=h9.blk.some_ (i:=0) rfl;have zs:=h9.blk.frozen 0;have H10:=hid h10;have HQ:=hid (And.intro hQ hl);clear h9 h10 hQ hl;go_upto_region 15 with fail
 have h10:=H10.out;generalize hW:World.setCell _ _ _=W6 at h10 |-;clear hW H10 qs zs q1;go_wp2_with (first|(refine Z03 rfl 52 _ rfl gs _ _ rfl Tryz.isAgg52 _ Tryz.sizeOf52 h10.blk rfl ?_)|(refine Z00 rfl 52 _ _ rfl gr _ _ (stC 0 ph att a) rfl rfl _ Tryz.sizeOf52 h10.drop rfl rfl rfl ?_;intro w7 h11));have HF:Hid (StZ w0 t c F Q (.returned (.tuple #[stV 0 ph att a,.slice Av nv cv,.bool true])) w7):=hid ⟨ph,att,a,_,l,X,Y,HQ.out.1,rfl,HQ.out.2,h11.drop⟩;exact bodyPost_ret (Z53 Tryz.results19 _ rfl Tryz.isAgg52 _ Tryz.sizeOf52 h11.blk rfl) rfl HF.out
end
section
variable {w0 w:World} {R F D:Asr} {t g gl m n cp:Nat} {c:Cfg} {x:ThR} {A:Option Addr} {obs:List ObR} {es:List (Int × Int)} {C:Nat->List Int}
def WtB (w0:World) (m:Nat) (c:Cfg) (x:ThR) (es:List (Int × Int)) (C:Nat->List Int) (K:List DM->List (Int × Int)->(Nat->List Int)->Prop) (D:Asr):Prop :=
 (x.drain = .pointer none/\(∃gf,x.fence=ptrV gf/\D=feA gf 0 1 false 0 0)/\∀gs:List Nat,gs.length=(outE (valC C 3 0) es).length->K (List.zipWith qOf gs (outE (valC C 3 0) es)) (Z2h (valC C 3 0) es) C) \/
 ∃(d:Nat) (z z':DM) (qs:List DM) (a:Acc) (C2:Nat->List Int),x.drain=ptrV d/\D=drA c d (z::qs)/\z'.g=z.g/\K (drN z' qs) es C2 /\
  ∀F w',Hold w0 w' (dmA c z*(memA m C*F))->Calls Tryz.prog 84 #[ptrV z.g,ptrV m] w' fun e w2=>e = .returned a.val/\Hold w0 w2 (dmA c z'*(memA m C2*F))
theorem Zb9 {K:List DM->List (Int × Int)->(Nat->List Int)->Prop} {Q:Int->ThR->Asr->Prop} (h:Hold w0 w (F*(thA t c x*(D*(limA gl c es*(memA m C*(obsA x.obs obs*R))))))) (hb:WtB w0 m c x es C K D) (hcf:CfS c) (hlm:x.limbo=ptrV gl) (hC:COk C) (h3:hasC C 3 0) (hck:0<=valC C 3 0/\valC C 3 0<=1000) (hes:es.length<=10000/\∀e∈es,0<=e.1/\e.1<(nbl c:Nat)) (hcd:x.code = .slice A n cp) (hpc:0<=x.pc/\x.pc<=1000000) (hl:obs.length<=100000)
  (hdone:∀ph es' C' ov,ph≠2->K [] es' C'->Q ph {x with fence:=.pointer none,drain:=.pointer none,obs:=ov,pc:=x.pc+1,done:=x.pc+1==(n:Int)} (obsA ov (obs++[⟨x.pc,6,0⟩])*(limA gl c es'*(memA m C'*R))))
  (hbusy:∀ph d z qs es' C',ph≠2->K (z::qs) es' C'->Q ph {x with drain:=ptrV d} (drA c d (z::qs)*(limA gl c es'*(memA m C'*(obsA x.obs obs*R))))) :
  Calls Tryz.prog 35 #[ptrV t,ptrV m] w (WtZ w0 t c F Q):=by
 have HX:=hid (And.intro hlm (And.intro hcd (And.intro hpc hl)));have HM:=hid (And.intro hcf (And.intro hC (And.intro h3 (And.intro hck hes))));have HB:=hid hb;have HD:=hid hdone;have HBU:=hid hbusy;have H1:=hid (((h.pk6 [1,2,3,4,5,0]).newBlk (t:=52) (cs:=#[.int .i64 0,.int .i64 0,.int .i64 0,.int .i64 0,.int .i64 0,.int .i64 0,.int .u64 0,.int .u64 0,.bool false])).newBlk (t:=52) (cs:=#[.int .i64 0,.int .i64 0,.int .i64 0,.int .i64 0,.int .i64 0,.int .i64 0,.int .u64 0,.int .u64 0,.bool false]));clear h hb hcf hlm hC h3 hck hes hcd hpc hl hdone hbusy;go_enter Tryz.func35,Tryz.ntmps35;go_upto_region 2 with fail
 have h2:=H1.out;rw[show (w.alloc (.cells #[.int .i64 0,.int .i64 0,.int .i64 0,.int .i64 0,.int .i64 0,.int .i64 0,.int .u64 0,.int .u64 0,.bool false] 52)).heap.size=w.heap.size+1 by simp] at h2;generalize hW:World.alloc _ _=W at h2 |-;generalize w.heap.size=gr at h2 |-;clear hW H1;obtain⟨gs,hgs⟩:∃gs,gs=gr+1:=⟨_,rfl⟩;rw[<- hgs] at h2 |-;clear hgs;rcases HB.out with⟨hd,⟨gf,hf,rfl⟩,hK⟩|⟨d,z,z',qs,a,C2,hd,rfl,hzg,hK,hst⟩
 ·have HK:=hid hK
  have HE:=hid (And.intro hd hf);have qd:=(h2.pk3 [2]).th_drain;have qf:=(h2.pk3 [2]).th_fence;rw[hd] at qd;rw[hf] at qf;clear HB hd hK hf;obtain⟨a,ha⟩:∃a,opA C 1 3 0 (valC C 3 0) true=a:=⟨_,rfl⟩;have hag:a.got=valC C 3 0:=by rw[<- ha];exact Z1z HM.out.2.2.1 1
  have hac:a.cell=3:=by rw[<- ha];unfold opA;rw[if_pos HM.out.2.2.1]
  have HS:=hid (Z93 w0 W _ gf m C 0 1 0 0 a (h2.pk6 [3,5,0,1,2,4]) HM.out.2.1 (by decide) ha);clear h2 ha;go_upto_if 11 with fail
  go_cut [] (fun wx=>∃(ph:Int) (a:Acc) (d:Nat) (qs:List DM) (es':List (Int × Int)) (C':Nat->List Int),ph≠2/\K qs es' C'/\Hold w0 wx (blkA 52 gs (stC 0 ph 0 a)*(blkA 52 gr #[.int .i64 0,.int .i64 0,.int .i64 0,.int .i64 0,.int .i64 0,.int .i64 0,.int .u64 0,.int .u64 0,.bool false]*(thA t c {x with drain:=ptrV d}*(drA c d qs*(limA gl c es'*(memA m C'*(obsA x.obs obs*(F*R)))))))))
  case first =>
   go_upto_region 3 with fail;clear qd;go_wp2_with fail;refine HS.out.mono ?_;rintro e w3 ⟨rfl,h3⟩;clear HS qf;have h4:Hold w0 w3 (fnA 52 gs 9 (stB 0)*(blkA 52 gr #[.int .i64 0,.int .i64 0,.int .i64 0,.int .i64 0,.int .i64 0,.int .i64 0,.int .u64 0,.int .u64 0,.bool false]*(thA t c x*(feA gf 0 1 true a.got 1*(limA gl c es*(memA m C*(obsA x.obs obs*(F*R)))))))):=by
    rw[Z56 (cs:=#[.int .i64 0,.int .i64 0,.int .i64 0,.int .i64 0,.int .i64 0,.int .i64 0,.int .u64 0,.int .u64 0,.bool false]) (by kernel_rfl)];exact h3.pk6 [2,3,4,0,5,1]
   clear h3;go_upto_region 4 with(refine Z0q rfl 50 _ _ rfl gs 3 52 9 (stB 0) (acD a) rfl rfl _ Tryz.sizeOf50 h4 rfl (by decide) rfl ?_;intro w5 h5)
   have qs1:w5.cell? ⟨gs,1,none⟩=some (.int .i64 0):=Z0g h5 (by decide);have zs:=Z22 h5 1;have H6:=hid (Z0p h5 (i:=1) (by decide) (.int .i64 26));clear h4 h5;go_upto_region 5 with fail
   have h6:=H6.out;generalize hW:World.setCell _ _ _=W6 at h6 |-;clear hW H6 qs1 zs;have q4:W6.cell? ⟨gs,4,none⟩=some (.int .i64 a.cell):=Z0g h6 (by decide);rw[hac] at q4;have qs1:W6.cell? ⟨gs,1,none⟩=some (.int .i64 26):=Z0g h6 (by decide);have zs:=Z22 h6 1;have h7:Hold w0 (W6.setCell ⟨gs,1,none⟩ (.int .i64 25)) (blkA 52 gs (stC 0 25 0 a)*(blkA 52 gr #[.int .i64 0,.int .i64 0,.int .i64 0,.int .i64 0,.int .i64 0,.int .i64 0,.int .u64 0,.int .u64 0,.bool false]*(thA t c x*(feA gf 0 1 true a.got 1*(limA gl c es*(memA m C*(obsA x.obs obs*(F*R)))))))):=by
    have h7:=Z0p h6 (i:=1) (by decide) (.int .i64 25);rw[Z56 (cs:=stC 0 25 0 a) (by kernel_rfl)] at h7;exact h7
   have H7:=hid h7;clear h6 h7;go_upto_region 7 with fail
   have h7:=H7.out;generalize hW:World.setCell _ _ _=W7 at h7 |-;clear hW H7 q4 qs1 zs;have qf:=(h7.pk3 [2]).th_fence;rw[HE.out.2] at qf;have HDN:=hid (Zeo w0 W7 _ gf 0 1 true a.got 1 (h7.pk4 [3,0,1,2]));clear h7;go_upto_region 8 with(refine HDN.out.mono ?_;rintro e w8 ⟨rfl,h8⟩)
   clear HDN qf;replace h8:=h8.drew;have hS:∀w' R',Hold w0 w' (thA t c x*R')->w'.cell? ⟨t,43,none⟩=some (ptrV gl)/\w'.cell? ⟨t,14,none⟩=some (ptrV gf):=fun w' R' h=>by
    refine⟨?_,?_⟩
    ·rw[<- HX.out.1];exact h.th_limbo
    ·rw[<- HE.out.2];exact h.th_fence
   have HSS:=hid hS;clear hS;refine Z01 [15] (by kernel_rfl) ?_;generalize hW:World.drew _=W8 at h8 |-;clear hW;refine Z04 (fun w'=>w'.cell? ⟨t,43,none⟩=some (ptrV gl)/\w'.cell? ⟨t,14,none⟩=some (ptrV gf)) (fun _ _=>trivial) _ _ _ _ ?_;refine' wbk [true,true,true,true,true,true,true,true,true,true] 86 (HSS.out _ _ (h8.pk4 [3])) (fun wq hq=>?_) ?_;rotate_left
   ·simp only[Z08]
    obtain⟨q1,q2⟩:=hq
    repeat (go_big_quiet_step (fail))
    exact wpQuiet_nil rfl
   refine wbi 10 (fuel:=5) (fun QB hQB hQX=>?_);go_wp2_with fail;refine(Zgn w0 _ _ gf 0 1 true a.got 1 h8 (by rw[hag];have:=HM.out.2.2.2.1;omega)).mono ?_;rintro e w' ⟨rfl,rfl⟩;rw[if_pos rfl,hag];go_wp2_with fail;refine hQB.out _ _ (HSS.out _ _ (h8.pk4 [3])) ?_;clear hQB hQX QB;refine wbi 11 (fuel:=4) (fun QB hQB hQX=>?_);go_wp2_with fail;refine(Ze5 w0 _ _ gl c HM.out.1 es (valC C 3 0) (h8.pk5 [4,0,1,2,3]) HM.out.2.2.2.2.1 HM.out.2.2.2.2.2).mono ?_;rintro e w9 ⟨d,gs2,rfl,hgl,h9⟩;have HGL:=hid hgl;clear h8 hgl;go_wp2_with fail;refine hQB.out _ _ (HSS.out _ _ (h9.pk6 [5])) ?_;clear hQB hQX QB;refine' wbz [false,false,false,false,false,false,false,false,false,false,false,false,true,true,true] 86 (HSS.out _ _ (h9.pk6 [5])) ?_;refine wbj 15 (fuel:=0) (fun QB hQB hQX=>?_);have p1:=(h9.pk6 [5]).th_drain;rw[HE.out.1] at p1;have z1:=(h9.pk6 [5]).thZ 15;have H9:=hid ((h9.pk6 [5,3,4,0,1,2]).th_drain_set (ptrV d));clear h9;go_wp2_with fail;refine hQB.out _ _ ?_;clear hQB hQX QB p1 z1 HSS;refine Z06 (by kernel_rfl) ?_;refine Z02 (by kernel_rfl) ?_ _;go_wp2_with fail;go_meet;exact⟨25,a,d,_,_,C,by decide,HK.out gs2 HGL.out,H9.out.pk8 [1,2,0,3,4,6,7]⟩
  case rest =>
  clear HS
  rename World=>w6
  obtain⟨ph,a,d,qs,es',C',hph,hK,h⟩:=hcut;have HK:=hid (And.intro hph hK);have qd:w6.cell? ⟨t,15,none⟩=some (ptrV d):=(h.pk3 [2]).th_drain;have HDD:=hid (Zan w0 w6 _ c d qs (h.pk4 [3,0,1,2]));clear hph hK
  cases qs with
  | cons z qs =>
   go_upto_region 15 with(refine HDD.out.mono ?_;rintro e w' ⟨rfl,rfl⟩);clear HDD qd;go_wp2_with (first|(refine Z03 rfl 52 _ rfl gs _ _ rfl Tryz.isAgg52 _ Tryz.sizeOf52 h.blk rfl ?_)|(refine Z00 rfl 52 _ _ rfl gr _ _ (stC 0 ph 0 a) rfl rfl _ Tryz.sizeOf52 h.drop rfl rfl rfl ?_;intro w7 h11));have HF:Hid (WtZ w0 t c F Q (.returned (stV 0 ph 0 a)) w7):=hid ⟨ph,0,a,_,_,HBU.out ph d z qs es' C' HK.out.1 HK.out.2,rfl,h11.drop.pk6 [5,0,1,2,3,4]⟩;exact bodyPost_ret (Z0j Tryz.results35 _ rfl Tryz.isAgg52 _ Tryz.sizeOf52 h11.blk rfl) rfl HF.out
  | nil =>
   go_upto_region 12 with(refine HDD.out.mono ?_;rintro e w' ⟨rfl,rfl⟩);clear HDD;have h3:=h.pk3 [2,0,1];have p1:=h3.th_fence;have z1:=h3.thZ 14;have p2:=h3.th_drain;have z2:=h3.thZ 15;have H4:=hid ((h3.th_fence_set (.pointer none)).th_drain_set (.pointer none));clear h h3;go_upto_region 13 with fail;have h4:Hold w0 _ (thA t c {x with fence:=.pointer none,drain:=.pointer none}*(blkA 52 gs (stC 0 ph 0 a)*(blkA 52 gr #[.int .i64 0,.int .i64 0,.int .i64 0,.int .i64 0,.int .i64 0,.int .i64 0,.int .u64 0,.int .u64 0,.bool false]*(drA c d []*(limA gl c es'*(memA m C'*(obsA x.obs obs*(F*R)))))))):=H4.out;generalize hW:World.setCell _ _ _=W4 at h4 |-;clear hW H4 p1 z1 p2 z2 qd;have HO:=hid (Z1u (kd:=6) (v:=0) (h4.pk7 [0,6,1,2,3,4,5]) HX.out.2.2.2);clear h4;go_wp2_with fail;refine HO.out.mono ?_;rintro e w5 ⟨rfl,ov,h5⟩;have HN:=hid (Z28 (n:=n) (cp:=cp) (A:=A) h5 HX.out.2.1 HX.out.2.2.1);clear h5 HO;go_wp2_with fail;refine HN.out.mono ?_;rintro e w6 ⟨rfl,h6⟩;have h:=h6.pk8 [2,3,0,1,5,6,7,4];clear h6 HN;go_wp2_with (first|(refine Z03 rfl 52 _ rfl gs _ _ rfl Tryz.isAgg52 _ Tryz.sizeOf52 h.blk rfl ?_)|(refine Z00 rfl 52 _ _ rfl gr _ _ (stC 0 ph 0 a) rfl rfl _ Tryz.sizeOf52 h.drop rfl rfl rfl ?_;intro w7 h11));have HF:Hid (WtZ w0 t c F Q (.returned (stV 0 ph 0 a)) w7):=hid ⟨ph,0,a,_,_,HD.out ph es' C' ov HK.out.1 HK.out.2,rfl,h11.drop.pk5 [4,0,1,2,3] |>.imp (Imp.under _ (Imp.under _ (Imp.under _ (Imp.under _ (Imp.under _ (Imp.drop _ _))))))⟩;exact bodyPost_ret (Z0j Tryz.results35 _ rfl Tryz.isAgg52 _ Tryz.sizeOf52 h11.blk rfl) rfl HF.out
 ·have HK:=hid hK
  have HE:=hid hd;have qd:=(h2.pk3 [2]).th_drain;rw[hd] at qd;have HS:=hid (Zgx w0 W _ c d m C C2 a z z' qs (h2.pk6 [3,5,0,1,2,4]) hzg hst);have hxd:{x with drain:=ptrV d}=x:=by rw[<- hd]
  clear HB hd hK h2 hst hzg;go_upto_if 11 with fail
  go_cut [] (fun wx=>∃(ph:Int) (a:Acc) (d:Nat) (qs:List DM) (es':List (Int × Int)) (C':Nat->List Int),ph≠2/\K qs es' C'/\Hold w0 wx (blkA 52 gs (stC 0 ph 0 a)*(blkA 52 gr #[.int .i64 0,.int .i64 0,.int .i64 0,.int .i64 0,.int .i64 0,.int .i64 0,.int .u64 0,.int .u64 0,.bool false]*(thA t c {x with drain:=ptrV d}*(drA c d qs*(limA gl c es'*(memA m C'*(obsA x.obs obs*(F*R)))))))))
  case first =>
   go_upto_region 9 with fail;go_wp2_with fail;refine HS.out.mono ?_;rintro e w3 ⟨rfl,h3⟩;clear HS qd;have h4:Hold w0 w3 (fnA 52 gs 9 (stB 0)*(blkA 52 gr #[.int .i64 0,.int .i64 0,.int .i64 0,.int .i64 0,.int .i64 0,.int .i64 0,.int .u64 0,.int .u64 0,.bool false]*(thA t c x*(drA c d (drN z' qs)*(limA gl c es*(memA m C2*(obsA x.obs obs*(F*R)))))))):=by
    rw[Z56 (cs:=#[.int .i64 0,.int .i64 0,.int .i64 0,.int .i64 0,.int .i64 0,.int .i64 0,.int .u64 0,.int .u64 0,.bool false]) (by kernel_rfl)];exact h3.pk6 [2,3,4,0,5,1]
   clear h3;go_upto_region 10 with(refine Z0q rfl 50 _ _ rfl gs 3 52 9 (stB 0) (acD a) rfl rfl _ Tryz.sizeOf50 h4 rfl (by decide) rfl ?_;intro w5 h5)
   clear h4;go_wp2_with (refine Z0l rfl 50 _ rfl gs 3 52 9 _ (acD a) rfl Tryz.isAgg50 6 Tryz.sizeOf50 h5 (by rfl) (by decide) ?_);refine(Z1k (a:=a) h5).mono ?_;rintro e w6 ⟨rfl,h6⟩;clear h5;have qs1:w6.cell? ⟨gs,1,none⟩=some (.int .i64 0):=Z0g h6 (by decide);have zs:=Z22 h6 1;have h7:Hold w0 (w6.setCell ⟨gs,1,none⟩ (.int .i64 (Z1q a))) (blkA 52 gs (stC 0 (Z1q a) 0 a)*(blkA 52 gr #[.int .i64 0,.int .i64 0,.int .i64 0,.int .i64 0,.int .i64 0,.int .i64 0,.int .u64 0,.int .u64 0,.bool false]*(thA t c x*(drA c d (drN z' qs)*(limA gl c es*(memA m C2*(obsA x.obs obs*(F*R)))))))):=by
    have h7:=Z0p h6 (i:=1) (by decide) (.int .i64 (Z1q a));rw[Z56 (cs:=stC 0 (Z1q a) 0 a) (by kernel_rfl)] at h7;exact h7
   have H7:=hid h7;clear h6 h7;go_wp2_with fail;go_meet;refine⟨Z1q a,a,d,drN z' qs,es,C2,(Z41 a).1,HK.out,?_⟩;rw[hxd];exact H7.out
  case rest =>
  clear HS
  rename World=>w6
  obtain⟨ph,a,d,qs,es',C',hph,hK,h⟩:=hcut;have HK:=hid (And.intro hph hK);have qd:w6.cell? ⟨t,15,none⟩=some (ptrV d):=(h.pk3 [2]).th_drain;have HDD:=hid (Zan w0 w6 _ c d qs (h.pk4 [3,0,1,2]));clear hph hK
  cases qs with
  | cons z qs =>
   go_upto_region 15 with(refine HDD.out.mono ?_;rintro e w' ⟨rfl,rfl⟩);clear HDD qd;go_wp2_with (first|(refine Z03 rfl 52 _ rfl gs _ _ rfl Tryz.isAgg52 _ Tryz.sizeOf52 h.blk rfl ?_)|(refine Z00 rfl 52 _ _ rfl gr _ _ (stC 0 ph 0 a) rfl rfl _ Tryz.sizeOf52 h.drop rfl rfl rfl ?_;intro w7 h11));have HF:Hid (WtZ w0 t c F Q (.returned (stV 0 ph 0 a)) w7):=hid ⟨ph,0,a,_,_,HBU.out ph d z qs es' C' HK.out.1 HK.out.2,rfl,h11.drop.pk6 [5,0,1,2,3,4]⟩;exact bodyPost_ret (Z0j Tryz.results35 _ rfl Tryz.isAgg52 _ Tryz.sizeOf52 h11.blk rfl) rfl HF.out
  | nil =>
   go_upto_region 12 with(refine HDD.out.mono ?_;rintro e w' ⟨rfl,rfl⟩);clear HDD;have h3:=h.pk3 [2,0,1];have p1:=h3.th_fence;have z1:=h3.thZ 14;have p2:=h3.th_drain;have z2:=h3.thZ 15;have H4:=hid ((h3.th_fence_set (.pointer none)).th_drain_set (.pointer none));clear h h3;go_upto_region 13 with fail;have h4:Hold w0 _ (thA t c {x with fence:=.pointer none,drain:=.pointer none}*(blkA 52 gs (stC 0 ph 0 a)*(blkA 52 gr #[.int .i64 0,.int .i64 0,.int .i64 0,.int .i64 0,.int .i64 0,.int .i64 0,.int .u64 0,.int .u64 0,.bool false]*(drA c d []*(limA gl c es'*(memA m C'*(obsA x.obs obs*(F*R)))))))):=H4.out;generalize hW:World.setCell _ _ _=W4 at h4 |-;clear hW H4 p1 z1 p2 z2 qd;have HO:=hid (Z1u (kd:=6) (v:=0) (h4.pk7 [0,6,1,2,3,4,5]) HX.out.2.2.2);clear h4;go_wp2_with fail;refine HO.out.mono ?_;rintro e w5 ⟨rfl,ov,h5⟩;have HN:=hid (Z28 (n:=n) (cp:=cp) (A:=A) h5 HX.out.2.1 HX.out.2.2.1);clear h5 HO;go_wp2_with fail;refine HN.out.mono ?_;rintro e w6 ⟨rfl,h6⟩;have h:=h6.pk8 [2,3,0,1,5,6,7,4];clear h6 HN;go_wp2_with (first|(refine Z03 rfl 52 _ rfl gs _ _ rfl Tryz.isAgg52 _ Tryz.sizeOf52 h.blk rfl ?_)|(refine Z00 rfl 52 _ _ rfl gr _ _ (stC 0 ph 0 a) rfl rfl _ Tryz.sizeOf52 h.drop rfl rfl rfl ?_;intro w7 h11));have HF:Hid (WtZ w0 t c F Q (.returned (stV 0 ph 0 a)) w7):=hid ⟨ph,0,a,_,_,HD.out ph es' C' ov HK.out.1 HK.out.2,rfl,h11.drop.pk5 [4,0,1,2,3] |>.imp (Imp.under _ (Imp.under _ (Imp.under _ (Imp.under _ (Imp.under _ (Imp.drop _ _))))))⟩;exact bodyPost_ret (Z0j Tryz.results35 _ rfl Tryz.isAgg52 _ Tryz.sizeOf52 h11.blk rfl) rfl HF.out
end
section
variable {w0 w:World} {R:Asr} {t g n cp:Nat} {c:Cfg} {x:ThR} {i:InsR}
def RqG {ι:Type} (w0:World) (P R:Asr) (Q:ι->Asr) (f:FuncId) (args:Array Value):Prop:=∀F w',Hold w0 w' (F*(P*R))->Calls Tryz.prog f args w' fun e w''=>∃j,e = .returned (.int .i64 0)/\Hold w0 w'' (F*(P*Q j))
def RqP {ι:Type} (w0:World) (Q:ι->Asr) (e:Ending) (w':World):Prop:=∃i,e = .returned (.tuple #[])/\Hold w0 w' (Q i)
theorem Zi4 {ι:Type} {Q:ι->Asr} (h:Hold w0 w (thA t c x*R)) (ha:x.attempt=ptrV g) (h1:i.op=10\/i.op=11\/i.op=14\/i.op=15\/i.op=8\/i.op=9) (hr:(0<=i.a/\i.a<8)/\(0<=i.b/\i.b<8)) (him:0<=i.imm/\i.imm<=1000)
  (h10:i.op=10->RqG w0 (thA t c x) R Q 63 #[ptrV g,.int .u64 (adR x i.b.toNat i.imm)])
  (h11:i.op=11->RqG w0 (thA t c x) R Q 65 #[ptrV g,.int .u64 (adR x i.a.toNat i.imm),.int .u64 (x.regs i.b.toNat)])
  (h14:i.op=14->RqG w0 (thA t c x) R Q 121 #[ptrV g,.int .i64 i.imm])
  (h15:i.op=15->RqG w0 (thA t c x) R Q 122 #[ptrV g,.int .u64 (x.regs i.a.toNat)])
  (h8:i.op=8->RqG w0 (thA t c x) R Q 62 #[ptrV g,.int .i64 1])
  (h9:i.op=9->RqG w0 (thA t c x) R Q 62 #[ptrV g,.int .i64 2]) :
  Calls Tryz.prog 67 #[ptrV t,i.val] w (RqP w0 (fun j=>thA t c x*Q j)):=by
 have H1:=hid (h.newBlk (t:=28) (cs:=i.cells));obtain⟨r,hra⟩:∃r:Nat,i.a=(r:Int):=⟨i.a.toNat,by omega⟩;obtain⟨r1,hrb⟩:∃r:Nat,i.b=(r:Int):=⟨i.b.toNat,by omega⟩;have hr8:r<8:=by omega
 have hb8:r1<8:=by omega
 have k0:(0:Int)<=(r:Int):=by omega
 have k1:(r:Int)<8:=by omega
 have k2:(0:Int)<=(r1:Int):=by omega
 have k3:(r1:Int)<8:=by omega
 obtain⟨im,him2⟩:∃im,im=i.imm:=⟨_,rfl⟩;obtain⟨op,hop⟩:∃op,op=i.op:=⟨_,rfl⟩;rw[hra] at h11 h15;rw[hrb] at h10 h11;rw[<- him2] at h10 h11 h14;rw[show ((r:Int)).toNat=r from Int.toNat_natCast r] at h11 h15;rw[show ((r1:Int)).toNat=r1 from Int.toNat_natCast r1] at h10 h11;obtain⟨v0,hv0⟩:∃v,v=x.regs r:=⟨_,rfl⟩;obtain⟨v1,hv1⟩:∃v,v=x.regs r1:=⟨_,rfl⟩;obtain⟨ad0,had0⟩:∃v,v=adR x r im:=⟨_,rfl⟩;obtain⟨ad1,had1⟩:∃v,v=adR x r1 im:=⟨_,rfl⟩;rw[<- had1] at h10;rw[<- had0,<- hv1] at h11;rw[<- hv0] at h15;rw[<- hop] at h1 h10 h11 h14 h15 h8 h9;have h00:0<=im/\im<=1000000:=by omega
 have hS:∀gi w' R',Hold w0 w' (blkA 28 gi i.cells*(thA t c x*R'))->w'.cell? ⟨t,0,none⟩=some (ptrV g)/\w'.cell? ⟨gi,1,none⟩=some (.int .i64 (r:Int))/\w'.cell? ⟨gi,2,none⟩=some (.int .i64 (r1:Int))/\w'.cell? ⟨gi,4,none⟩=some (.int .i64 im)/\w'.cell? ⟨t,33+r,none⟩=some (.int .u64 v0)/\w'.cell? ⟨t,33+r1,none⟩=some (.int .u64 v1) /\
   Calls Tryz.prog 116 #[ptrV t,.int .i64 (r:Int),.int .i64 im] w' (fun e w''=>e = .returned (.int .u64 ad0)/\w''=w')/\Calls Tryz.prog 116 #[ptrV t,.int .i64 (r1:Int),.int .i64 im] w' (fun e w''=>e = .returned (.int .u64 ad1)/\w''=w'):=fun gi w' R' h=>by
  refine⟨?_,?_,?_,?_,?_,?_,?_,?_⟩
  ·rw[<- ha];exact h.drop.Zlw
  ·rw[<- hra];exact h.blk.some_ (i:=1) rfl
  ·rw[<- hrb];exact h.blk.some_ (i:=2) rfl
  ·rw[him2];exact h.blk.some_ (i:=4) rfl
  ·rw[hv0];exact h.drop.th_regs hr8
  ·rw[hv1];exact h.drop.th_regs hb8
  ·rw[had0];exact(Z2o h.drop hr8 h00).mono fun e w'' h=>⟨h.1,h.2.symm⟩
  ·rw[had1];exact(Z2o h.drop hb8 h00).mono fun e w'' h=>⟨h.1,h.2.symm⟩
 have HS:=hid hS;have H10:=hid h10;have H11:=hid h11;have H14:=hid h14;have H15:=hid h15;have H8:=hid h8;have H9:=hid h9;clear h ha hr him him2 hra hrb hv0 hv1 had0 had1 hS h10 h11 h14 h15 h8 h9 h00;go_enter Tryz.func67,Tryz.ntmps67;go_upto_region 1 with fail
 have h2:=H1.out;generalize hW:w.alloc _=W at h2 |-;generalize w.heap.size=gi at h2 |-;clear hW H1;have q0:W.cell? ⟨gi,0,none⟩=some (.int .i64 op):=by rw[hop];exact h2.blk.some_ (i:=0) rfl
 clear hop;rcases h1 with rfl|rfl|rfl|rfl|rfl|rfl
 ·have HA:=hid (H10.out rfl)
  clear H10 H11 H14 H15 H8 H9;go_upto_region 3 with fail
  replace h2:=h2.drew;clear q0;refine Z01 [] (by kernel_rfl) ?_;generalize hW:W.drew=W1 at h2 |-;clear hW;refine Z04 (fun w'=>w'.cell? ⟨t,0,none⟩=some (ptrV g)/\w'.cell? ⟨gi,1,none⟩=some (.int .i64 (r:Int))/\w'.cell? ⟨gi,2,none⟩=some (.int .i64 (r1:Int))/\w'.cell? ⟨gi,4,none⟩=some (.int .i64 im)/\w'.cell? ⟨t,33+r,none⟩=some (.int .u64 v0)/\w'.cell? ⟨t,33+r1,none⟩=some (.int .u64 v1)/\Calls Tryz.prog 116 #[ptrV t,.int .i64 (r:Int),.int .i64 im] w' (fun e w''=>e = .returned (.int .u64 ad0)/\w''=w')/\Calls Tryz.prog 116 #[ptrV t,.int .i64 (r1:Int),.int .i64 im] w' (fun e w''=>e = .returned (.int .u64 ad1)/\w''=w')) (fun _ _=>trivial) _ _ _ _ ?_;refine' wbk [true,true,true,true,true,true,true,true,true,true,true] 84 (HS.out _ _ _ h2) (fun wq hq=>?_) ?_;rotate_left
  ·simp only[Z08]
   obtain⟨q5,q6,q7,q8,q9,qa,qb,qc⟩:=hq
   repeat (first|go_big_quiet_step (fail)|(go_big_quiet_want;go_big_quiet_op;apply Exists.intro;refine⟨?_,?_⟩;(exact qc);go_big_quiet_on))
   exact wpQuiet_nil rfl
  refine wbi 11 (fuel:=0) (fun QB hQB hQX=>?_);go_wp2_with fail;refine(HA.out _ _ h2).mono ?_;rintro e w5 ⟨j,rfl,h5⟩;clear h2;go_wp2_with fail;refine hQB.out _ _ (HS.out _ _ _ h5) ?_;clear hQB hQX QB HS;refine Z02 (by kernel_rfl) ?_ _;have H5:=hid h5.drop;clear h5;go_wp2_with fail;refine bodyPost_end (results_none rfl _ _ _) rfl ?_;exact⟨j,rfl,H5.out⟩
 ·have HA:=hid (H11.out rfl)
  clear H10 H11 H14 H15 H8 H9;go_upto_region 5 with fail
  replace h2:=h2.drew;clear q0;refine Z01 [] (by kernel_rfl) ?_;generalize hW:W.drew=W1 at h2 |-;clear hW;refine Z04 (fun w'=>w'.cell? ⟨t,0,none⟩=some (ptrV g)/\w'.cell? ⟨gi,1,none⟩=some (.int .i64 (r:Int))/\w'.cell? ⟨gi,2,none⟩=some (.int .i64 (r1:Int))/\w'.cell? ⟨gi,4,none⟩=some (.int .i64 im)/\w'.cell? ⟨t,33+r,none⟩=some (.int .u64 v0)/\w'.cell? ⟨t,33+r1,none⟩=some (.int .u64 v1)/\Calls Tryz.prog 116 #[ptrV t,.int .i64 (r:Int),.int .i64 im] w' (fun e w''=>e = .returned (.int .u64 ad0)/\w''=w')/\Calls Tryz.prog 116 #[ptrV t,.int .i64 (r1:Int),.int .i64 im] w' (fun e w''=>e = .returned (.int .u64 ad1)/\w''=w')) (fun _ _=>trivial) _ _ _ _ ?_;refine' wbk [true,true,true,true,true,true,true,true,true,true,true,true,true,true,true,true,true,true,true] 84 (HS.out _ _ _ h2) (fun wq hq=>?_) ?_;rotate_left
  ·simp only[Z08]
   obtain⟨q5,q6,q7,q8,q9,qa,qb,qc⟩:=hq
   repeat (first|go_big_quiet_step (fail)|(go_big_quiet_want;go_big_quiet_op;apply Exists.intro;refine⟨?_,?_⟩;(exact qb);go_big_quiet_on))
   exact wpQuiet_nil rfl
  refine wbi 19 (fuel:=0) (fun QB hQB hQX=>?_);go_wp2_with fail;refine(HA.out _ _ h2).mono ?_;rintro e w5 ⟨j,rfl,h5⟩;clear h2;go_wp2_with fail;refine hQB.out _ _ (HS.out _ _ _ h5) ?_;clear hQB hQX QB HS;refine Z02 (by kernel_rfl) ?_ _;have H5:=hid h5.drop;clear h5;go_wp2_with fail;refine bodyPost_end (results_none rfl _ _ _) rfl ?_;exact⟨j,rfl,H5.out⟩
 ·have HA:=hid (H14.out rfl)
  clear H10 H11 H14 H15 H8 H9;go_upto_region 7 with fail
  replace h2:=h2.drew;clear q0;refine Z01 [] (by kernel_rfl) ?_;generalize hW:W.drew=W1 at h2 |-;clear hW;refine Z04 (fun w'=>w'.cell? ⟨t,0,none⟩=some (ptrV g)/\w'.cell? ⟨gi,1,none⟩=some (.int .i64 (r:Int))/\w'.cell? ⟨gi,2,none⟩=some (.int .i64 (r1:Int))/\w'.cell? ⟨gi,4,none⟩=some (.int .i64 im)/\w'.cell? ⟨t,33+r,none⟩=some (.int .u64 v0)/\w'.cell? ⟨t,33+r1,none⟩=some (.int .u64 v1)/\Calls Tryz.prog 116 #[ptrV t,.int .i64 (r:Int),.int .i64 im] w' (fun e w''=>e = .returned (.int .u64 ad0)/\w''=w')/\Calls Tryz.prog 116 #[ptrV t,.int .i64 (r1:Int),.int .i64 im] w' (fun e w''=>e = .returned (.int .u64 ad1)/\w''=w')) (fun _ _=>trivial) _ _ _ _ ?_;refine' wbk [true,true,true,true,true,true,true] 84 (HS.out _ _ _ h2) (fun wq hq=>?_) ?_;rotate_left
  ·simp only[Z08]
   obtain⟨q5,q6,q7,q8,q9,qa,qb,qc⟩:=hq
   repeat (go_big_quiet_step (fail))
   exact wpQuiet_nil rfl
  refine wbi 7 (fuel:=0) (fun QB hQB hQX=>?_);go_wp2_with fail;refine(HA.out _ _ h2).mono ?_;rintro e w5 ⟨j,rfl,h5⟩;clear h2;go_wp2_with fail;refine hQB.out _ _ (HS.out _ _ _ h5) ?_;clear hQB hQX QB HS;refine Z02 (by kernel_rfl) ?_ _;have H5:=hid h5.drop;clear h5;go_wp2_with fail;refine bodyPost_end (results_none rfl _ _ _) rfl ?_;exact⟨j,rfl,H5.out⟩
 ·have HA:=hid (H15.out rfl)
  clear H10 H11 H14 H15 H8 H9;go_upto_region 9 with fail
  replace h2:=h2.drew;clear q0;refine Z01 [] (by kernel_rfl) ?_;generalize hW:W.drew=W1 at h2 |-;clear hW;refine Z04 (fun w'=>w'.cell? ⟨t,0,none⟩=some (ptrV g)/\w'.cell? ⟨gi,1,none⟩=some (.int .i64 (r:Int))/\w'.cell? ⟨gi,2,none⟩=some (.int .i64 (r1:Int))/\w'.cell? ⟨gi,4,none⟩=some (.int .i64 im)/\w'.cell? ⟨t,33+r,none⟩=some (.int .u64 v0)/\w'.cell? ⟨t,33+r1,none⟩=some (.int .u64 v1)/\Calls Tryz.prog 116 #[ptrV t,.int .i64 (r:Int),.int .i64 im] w' (fun e w''=>e = .returned (.int .u64 ad0)/\w''=w')/\Calls Tryz.prog 116 #[ptrV t,.int .i64 (r1:Int),.int .i64 im] w' (fun e w''=>e = .returned (.int .u64 ad1)/\w''=w')) (fun _ _=>trivial) _ _ _ _ ?_;refine' wbk [true,true,true,true,true,true,true,true,true,true,true,true,true] 84 (HS.out _ _ _ h2) (fun wq hq=>?_) ?_;rotate_left
  ·simp only[Z08]
   obtain⟨q5,q6,q7,q8,q9,qa,qb,qc⟩:=hq
   repeat (go_big_quiet_step (fail))
   exact wpQuiet_nil rfl
  refine wbi 13 (fuel:=0) (fun QB hQB hQX=>?_);go_wp2_with fail;refine(HA.out _ _ h2).mono ?_;rintro e w5 ⟨j,rfl,h5⟩;clear h2;go_wp2_with fail;refine hQB.out _ _ (HS.out _ _ _ h5) ?_;clear hQB hQX QB HS;refine Z02 (by kernel_rfl) ?_ _;have H5:=hid h5.drop;clear h5;go_wp2_with fail;refine bodyPost_end (results_none rfl _ _ _) rfl ?_;exact⟨j,rfl,H5.out⟩
 ·have q1:=(HS.out _ _ _ h2).1
  have HE:=hid (((H8.out rfl) _ _ h2));clear h2 H10 H11 H14 H15 H8 H9;go_wp2_with fail;refine HE.out.mono ?_;rintro e w5 ⟨j,rfl,h5⟩;have H5:=hid h5.drop;clear h5 HE q0 q1;go_wp2_with fail;refine bodyPost_end (results_none rfl _ _ _) rfl ?_;exact⟨j,rfl,H5.out⟩
 ·have q1:=(HS.out _ _ _ h2).1
  have HE:=hid (((H9.out rfl) _ _ h2));clear h2 H10 H11 H14 H15 H8 H9;go_wp2_with fail;refine HE.out.mono ?_;rintro e w5 ⟨j,rfl,h5⟩;have H5:=hid h5.drop;clear h5 HE q0 q1;go_wp2_with fail;refine bodyPost_end (results_none rfl _ _ _) rfl ?_;exact⟨j,rfl,H5.out⟩
end
def MkQ (w0:World) (R:Asr) (o:Int) (e:Ending) (w':World):Prop:=∃x:InsR,e = .returned x.val/\x.op=o/\InsV x/\(isJ o=true->x.imm=0/\x.a=0)/\Hold w0 w' R
theorem InsV.of {o:Nat} (ho:o<18) {a b c imm:Int} (h1:Z5f (Z1r 65 (o:Int)) a) (h2:Z5f (Z1r 66 (o:Int)) b) (h3:Z5f (Z1r 67 (o:Int)) c) (h4:Z8w (o:Int) imm) (h5:0<=imm/\imm<=1000) (h6:o≠3) (h7:o=14->imm<=1):InsV ⟨(o:Int),a,b,c,imm⟩ :=
 ⟨⟨Int.natCast_nonneg o,Int.ofNat_lt.2 ho⟩,h1,h2,h3,h4,h5,fun h=>absurd (show (o:Int)=3 from h) (by omega),fun h=>h7 (by have:(o:Int)=14:=h;omega)⟩
section
variable {w0 w:World} {R:Asr}
theorem Zg9 {o:Nat} (ho:o<18) {n:Int} (hn:0<=n/\n<18446744073709551616) (h:Hold w0 w R):Calls Tryz.prog 41 #[.int .i64 (o:Int),.int .u64 n] w (MkQ w0 R (o:Int)):=by
 have h1:=h.newBlk (t:=28) (cs:=#[.int .i64 0,.int .i64 0,.int .i64 0,.int .i64 0,.int .i64 0]);have H1:=hid h1;unfold MkQ;clear h;go_enter Tryz.func41,Tryz.ntmps41;go_upto_region 1 with fail
 have h1:=H1.out;generalize hW:w.alloc _=W at h1 |-;generalize w.heap.size=gr at h1 |-;clear hW H1;have H1:=hid h1;clear h1;go_upto_region 3 with fail
 have ha:0<=n%4/\n%4<4:=by omega
 have hb:0<=n / 4%4/\n / 4%4<4:=by omega
 have hc:0<=n / 16%4/\n / 16%4<4:=by omega
 have hk:0<=n / 64%1024/\n / 64%1024<1024:=by omega
 generalize n / 4%4=b at hb |-;generalize n / 16%4=c at hc |-;generalize n / 64%1024=k at hk |-;generalize n%4=a at ha |-;have HX:=hid (And.intro ha (And.intro hb (And.intro hc hk)));clear ha hb hc hk
 by_cases h3:o=3
 ·subst h3
  have h2:=H1.out.newBlk (t:=3) (cs:=#[.int .i64 0,.int .i64 1,.int .i64 5,.int .i64 8,.int .i64 11,.int .i64 12]);have hk:=HX.out.2.2.2;have k0:0<=k.tmod 6:=Int.tmod_nonneg 6 hk.1;have k1:k.tmod 6<6:=Int.tmod_lt_of_pos k (by decide);obtain⟨f,hf,q⟩:∃f:Int,(f=0\/f=1\/f=5\/f=8\/f=11\/f=12)/\(W.alloc (.cells #[.int .i64 0,.int .i64 1,.int .i64 5,.int .i64 8,.int .i64 11,.int .i64 12] 3)).cell? ⟨W.heap.size,(k.tmod 6).toNat,none⟩=some (.int .i64 f):=by
   obtain e|e|e|e|e|e:k.tmod 6=0\/k.tmod 6=1\/k.tmod 6=2\/k.tmod 6=3\/k.tmod 6=4\/k.tmod 6=5:=by omega
   all_goals (rw[e];exact⟨_,by first|exact .inl rfl|exact .inr (.inl rfl)|exact .inr (.inr (.inl rfl))|exact .inr (.inr (.inr (.inl rfl)))|exact .inr (.inr (.inr (.inr (.inl rfl))))|exact .inr (.inr (.inr (.inr (.inr rfl)))),h2.blk.some_ rfl⟩)
  have H2:=hid h2.drop;have HF:=hid hf;clear h2 hk hf;go_wp2_with (refine Z00 rfl 28 _ _ rfl gr _ _ _ rfl rfl _ Tryz.sizeOf28 H2.out rfl rfl rfl ?_;intro y2 h4);refine bodyPost_ret (Z0j Tryz.results41 _ rfl Tryz.isAgg28 _ Tryz.sizeOf28 h4.blk rfl) rfl ?_;obtain⟨ha,hb,hc,hk⟩:=HX.out;have hf:=HF.out;exact⟨⟨3,a,b,c,f⟩,rfl,rfl,⟨show (0:Int)<=3/\(3:Int)<18 by decide,show 0<=a/\a<8 by omega,show 0<=b/\b<8 by omega,show 0<=c/\c<8 by omega,show 0<=f/\f<22 by omega,show 0<=f/\f<=1000 by omega,fun _=>hf,fun h=>absurd (show (3:Int)=14 from h) (by decide)⟩,fun h=>absurd h (by decide),h4.drop⟩
 rcases Z1s ho with rfl|rfl|rfl|rfl|rfl|rfl|rfl|rfl|rfl|rfl|rfl|rfl|rfl|rfl|rfl|rfl|rfl|rfl
 all_goals (try exact absurd rfl h3)
 all_goals (
  clear h3 ho;have t3:0<=k.tmod 3/\k.tmod 3<3:=⟨Int.tmod_nonneg 3 HX.out.2.2.2.1,Int.tmod_lt_of_pos k (by decide)⟩;go_wp2_with (refine Z00 rfl 28 _ _ rfl gr _ _ _ rfl rfl _ Tryz.sizeOf28 H1.out rfl rfl rfl ?_;intro y2 h4);refine bodyPost_ret (Z0j Tryz.results41 _ rfl Tryz.isAgg28 _ Tryz.sizeOf28 h4.blk rfl) rfl ?_;obtain⟨ha,hb,hc,hk⟩:=HX.out;have t7:0<=k.tmod 7/\k.tmod 7<7:=⟨Int.tmod_nonneg 7 hk.1,Int.tmod_lt_of_pos k (by decide)⟩;have t5:0<=k.tmod 5/\k.tmod 5<5:=⟨Int.tmod_nonneg 5 hk.1,Int.tmod_lt_of_pos k (by decide)⟩;have t2:0<=(k.tmod 3).tmod 2/\(k.tmod 3).tmod 2<2:=⟨Int.tmod_nonneg 2 t3.1,Int.tmod_lt_of_pos _ (by decide)⟩
  first
   | refine⟨⟨_,0,0,0,0⟩,rfl,rfl,InsV.of (by decide) ?_ ?_ ?_ ?_ (by omega) (by decide) (fun h=>by first|exact absurd h (by decide)|omega),fun _=>⟨rfl,rfl⟩,h4.drop⟩
   | refine⟨⟨_,a,0,0,k.tmod 7⟩,rfl,rfl,InsV.of (by decide) ?_ ?_ ?_ ?_ (by omega) (by decide) (fun h=>by first|exact absurd h (by decide)|omega),fun h=>absurd h (by decide),h4.drop⟩
   | refine⟨⟨_,a,b,0,k.tmod 5⟩,rfl,rfl,InsV.of (by decide) ?_ ?_ ?_ ?_ (by omega) (by decide) (fun h=>by first|exact absurd h (by decide)|omega),fun h=>absurd h (by decide),h4.drop⟩
   | refine⟨⟨_,a,b,0,0⟩,rfl,rfl,InsV.of (by decide) ?_ ?_ ?_ ?_ (by omega) (by decide) (fun h=>by first|exact absurd h (by decide)|omega),fun h=>absurd h (by decide),h4.drop⟩
   | refine⟨⟨_,a,0,0,0⟩,rfl,rfl,InsV.of (by decide) ?_ ?_ ?_ ?_ (by omega) (by decide) (fun h=>by first|exact absurd h (by decide)|omega),fun h=>absurd h (by decide),h4.drop⟩
   | refine⟨⟨_,a,0,0,(k.tmod 3).tmod 2⟩,rfl,rfl,InsV.of (by decide) ?_ ?_ ?_ ?_ (by omega) (by decide) (fun h=>by first|exact absurd h (by decide)|omega),fun h=>absurd h (by decide),h4.drop⟩
   | refine⟨⟨_,a,0,0,k.tmod 3%2⟩,rfl,rfl,InsV.of (by decide) ?_ ?_ ?_ ?_ (by omega) (by decide) (fun h=>by first|exact absurd h (by decide)|omega),fun h=>absurd h (by decide),h4.drop⟩
   | refine⟨⟨_,0,0,0,1+k.tmod 3⟩,rfl,rfl,InsV.of (by decide) ?_ ?_ ?_ ?_ (by omega) (by decide) (fun h=>by first|exact absurd h (by decide)|omega),fun h=>absurd h (by decide),h4.drop⟩
  all_goals (first|exact rfl|exact trivial|(show 0<=a/\a<8;omega)|(show 0<=b/\b<8;omega)|(show (0:Int)<=0/\(0:Int)<8;decide)|(simp[Z8w];try omega)))
end
def Z24 (op:Nat):List UInt8:=([[],[114,105],[114,115],[114,115,116,102],[106],[114,106],[114,106],[97],[],[],[114,115,105],[114,115,105],[114,115,105],[114,115,105],[114,99],[114],[],[114]]:List (List UInt8)).getD op []
abbrev Zkn:Array Value:=#[.string ⟨#[]⟩,.string ⟨#[114,105]⟩,.string ⟨#[114,115]⟩,.string ⟨#[114,115,116,102]⟩,.string ⟨#[106]⟩,.string ⟨#[114,106]⟩,.string ⟨#[114,106]⟩,.string ⟨#[97]⟩,.string ⟨#[]⟩,.string ⟨#[]⟩,.string ⟨#[114,115,105]⟩,.string ⟨#[114,115,105]⟩,.string ⟨#[114,115,105]⟩,.string ⟨#[114,115,105]⟩,.string ⟨#[114,99]⟩,.string ⟨#[114]⟩,.string ⟨#[]⟩,.string ⟨#[114]⟩]
theorem rform_any {w0 w:World} {R:Asr} {o:Nat} (ho:o<18) (h:Hold w0 w R):Calls Tryz.prog 125 #[.int .i64 (o:Int)] w fun e w'=>e = .returned (.string ⟨(Z24 o).toArray⟩)/\Hold w0 w' R:=by
 have h1:=h.newBlk (t:=9) (cs:=Zkn);have q:(w.alloc (.cells Zkn 9)).cell? ⟨w.heap.size,o,none⟩=some (.string ⟨(Z24 o).toArray⟩):=h1.blk.some_ (i:=o) (by rcases Z1s ho with rfl|rfl|rfl|rfl|rfl|rfl|rfl|rfl|rfl|rfl|rfl|rfl|rfl|rfl|rfl|rfl|rfl|rfl <;> rfl);have H1:=hid h1.drop;have o4:(0:Int)<=(o:Int):=by omega
 have o5:(o:Int)<18:=by omega
 clear h h1;go_enter Tryz.func125,Tryz.ntmps125;go_wp2_with fail;go_ret;exact⟨rfl,H1.out⟩
theorem rhas_any (w:World) (l:List UInt8) (c:UInt8) (hl:l.length<=100):Calls Tryz.prog 127 #[.string ⟨l.toArray⟩,.int .u8 (c.toNat:Int)] w fun e w'=>e = .returned (.bool (l.contains c))/\w'=w:=by
 obtain⟨n,hn⟩:∃n,n=l.length:=⟨_,rfl⟩;have es:(⟨l.toArray⟩:ByteArray).size=n:=by rw[hn];rfl
 have HN:=hid hn;go_enter Tryz.func127,Tryz.ntmps127;go_wp2_with fail;go_loopw [5] (fun v5 wr=>∃k:Nat,k<=n/\v5 = .int .i64 (k:Int)/\wr=w/\(∀(j:Nat) x,j<k->l[j]?=some x->x≠c)) (fun v _=>n - (intOf v).toNat)
 case atStart=>exact⟨0,Nat.zero_le _,rfl,rfl,fun j x hj=>absurd hj (Nat.not_lt_zero _)⟩
 case round =>
  obtain⟨k,hk,rfl,rfl,hno⟩:=hrel;have HNO:=hid hno;clear hno
  by_cases hlt:k<n
  ·have e1:decide ((k:Int)<(n:Int))=true:=decide_eq_true (by omega)
   have e1':decide (k<n)=true:=decide_eq_true hlt;have hkl:k<l.length:=by rw[<- hn];exact hlt
   have e1'':decide (k<l.length)=true:=decide_eq_true hkl
   by_cases he:l[k]=c
   ·have e2:((((⟨l.toArray⟩:ByteArray)[k]'hkl).toNat:Int)==(c.toNat:Int))=true:=by
     show ((l[k].toNat:Int)==(c.toNat:Int))=true;rw[he];exact beq_self_eq_true _
    have HC:Hid (l.contains c=true):=hid (by rw[List.contains_iff_mem,<- he];exact List.getElem_mem hkl);go_wp2_with fail;go_ret;exact⟨by rw[HC.out];rfl,rfl⟩
   ·have e2:((((⟨l.toArray⟩:ByteArray)[k]'hkl).toNat:Int)==(c.toNat:Int))=false:=by
     show ((l[k].toNat:Int)==(c.toNat:Int))=false;refine beq_eq_false_iff_ne.2 fun h=>he (UInt8.toNat_inj.1 (by omega))
    have HE:=hid he;clear he;go_wp2_with fail;go_roundw
    case rel =>
     refine⟨k+1,by omega,by go_num,trivial,fun j x hj hx=>?_⟩;rcases Nat.lt_or_ge j k with h1|h1
     ·exact HNO.out j x h1 hx
     ·obtain rfl:j=k:=by omega
      rw[List.getElem?_eq_getElem hkl] at hx;injection hx with hx
      rw[<- hx];exact HE.out
    case measure=>simp[intOf];omega
  ·obtain rfl:k=n:=by omega
   have e1:decide ((k:Int)<(k:Int))=false:=decide_eq_false (by omega);have e1'':decide (k<l.length)=false:=decide_eq_false (by omega);have HC:Hid (l.contains c=false):=hid (by
    cases hc:l.contains c with
    | false=>rfl
    | true =>
     rw[List.contains_iff_mem] at hc;obtain⟨j,hj,e⟩:=List.getElem_of_mem hc;exact absurd e (HNO.out j _ (by omega) (List.getElem?_eq_getElem hj)))
   go_wp2_with fail;go_ret;exact⟨by rw[HC.out];rfl,rfl⟩
theorem rreg_any (w:World) (u:Bool) (r:Int) (h:Z5f u r):Calls Tryz.prog 126 #[.int .i64 r,.bool u] w fun e w'=>e = .returned (.bool true)/\w'=w:=by
 unfold Z5f at h;go_enter Tryz.func126,Tryz.ntmps126
 cases u with
 | true =>
  have h2:0<=r/\r<8:=h;have e1:decide (r >= 0)=true:=decide_eq_true h2.1;have e2:decide (0<=r)=true:=decide_eq_true h2.1;have e3:decide (r<8)=true:=decide_eq_true h2.2;clear h;go_wp2_with fail;go_ret;exact⟨by first|rfl|simp[*],rfl⟩
 | false =>
  have h2:r=0:=h;clear h;subst h2;go_wp2_with fail;go_ret;exact⟨rfl,rfl⟩
theorem Z6y {o:Nat} {imm:Int} (ho:o<18) (hn:Z8w (o:Int) imm) :
  ((Z24 o).contains 114=Z1r 65 (o:Int)/\(Z24 o).contains 115=Z1r 66 (o:Int)/\(Z24 o).contains 116=Z1r 67 (o:Int)/\(Z24 o).contains 106=isJ (o:Int)/\(Z24 o).length<=100) /\
  ((Z24 o).contains 105=true\/(Z24 o).contains 105=false/\((Z24 o).contains 102=true/\0<=imm/\imm<=21\/(Z24 o).contains 102=false/\((Z24 o).contains 106=true/\0<=imm/\imm<=64\/(Z24 o).contains 106=false/\((Z24 o).contains 97=true/\1<=imm/\imm<=8\/(Z24 o).contains 97=false/\((Z24 o).contains 99=true/\0<=imm/\imm<=3\/(Z24 o).contains 99=false/\imm=0))))):=by
 rcases Z1s ho with rfl|rfl|rfl|rfl|rfl|rfl|rfl|rfl|rfl|rfl|rfl|rfl|rfl|rfl|rfl|rfl|rfl|rfl
 all_goals (
  refine⟨⟨rfl,rfl,rfl,rfl,by decide⟩,?_⟩;simp[Z8w] at hn;simp[Z24]
  try omega)
section
variable {w0 w:World} {R:Asr} {i:InsR}
theorem Z4m (hi:InsV i) (h:Hold w0 w R):Calls Tryz.prog 71 #[i.val] w fun e w'=>e = .returned (.int .i64 0)/\Hold w0 w' R:=by
 obtain⟨o,hop,ho⟩:=hi.nat;have hra:=hi.a;have hrb:=hi.b;have hrc:=hi.c;have hn:=hi.n;obtain⟨op,a,b,c,imm⟩:=i;dsimp only at hop hra hrb hrc hn;subst hop;obtain⟨⟨s1,s2,s3,s4,sl⟩,hs⟩:=Z6y ho hn;have H1:=hid (h.newBlk (t:=28) (cs:=#[.int .i64 (o:Int),.int .i64 a,.int .i64 b,.int .i64 c,.int .i64 imm]));have HF:∀w' (R:Asr),Hold w0 w' R->Hid (Calls Tryz.prog 125 #[.int .i64 (o:Int)] w' fun e w2=>e = .returned (.string ⟨(Z24 o).toArray⟩)/\Hold w0 w2 R):=fun w' R h=>hid (rform_any ho h);generalize Z24 o=l at s1 s2 s3 s4 sl hs HF;have h114:Hid (∀w',Calls Tryz.prog 127 #[.string ⟨l.toArray⟩,.int .u8 114] w' fun e w2=>e = .returned (.bool (Z1r 65 (o:Int)))/\w2=w'):=hid fun w'=>s1 ▸ rhas_any w' l 114 sl;have h115:Hid (∀w',Calls Tryz.prog 127 #[.string ⟨l.toArray⟩,.int .u8 115] w' fun e w2=>e = .returned (.bool (Z1r 66 (o:Int)))/\w2=w'):=hid fun w'=>s2 ▸ rhas_any w' l 115 sl;have h116:Hid (∀w',Calls Tryz.prog 127 #[.string ⟨l.toArray⟩,.int .u8 116] w' fun e w2=>e = .returned (.bool (Z1r 67 (o:Int)))/\w2=w'):=hid fun w'=>s3 ▸ rhas_any w' l 116 sl;have h105:Hid (∀w',Calls Tryz.prog 127 #[.string ⟨l.toArray⟩,.int .u8 105] w' fun e w2=>e = .returned (.bool (l.contains 105))/\w2=w'):=hid fun w'=>rhas_any w' l 105 sl;have h102:Hid (∀w',Calls Tryz.prog 127 #[.string ⟨l.toArray⟩,.int .u8 102] w' fun e w2=>e = .returned (.bool (l.contains 102))/\w2=w'):=hid fun w'=>rhas_any w' l 102 sl;have h106:Hid (∀w',Calls Tryz.prog 127 #[.string ⟨l.toArray⟩,.int .u8 106] w' fun e w2=>e = .returned (.bool (l.contains 106))/\w2=w'):=hid fun w'=>rhas_any w' l 106 sl;have h97:Hid (∀w',Calls Tryz.prog 127 #[.string ⟨l.toArray⟩,.int .u8 97] w' fun e w2=>e = .returned (.bool (l.contains 97))/\w2=w'):=hid fun w'=>rhas_any w' l 97 sl;have h99:Hid (∀w',Calls Tryz.prog 127 #[.string ⟨l.toArray⟩,.int .u8 99] w' fun e w2=>e = .returned (.bool (l.contains 99))/\w2=w'):=hid fun w'=>rhas_any w' l 99 sl;have rA:=hid fun w'=>rreg_any w' _ a hra;have rB:=hid fun w'=>rreg_any w' _ b hrb;have rC:=hid fun w'=>rreg_any w' _ c hrc;generalize Z1r 65 (o:Int)=ua at h114 rA;generalize Z1r 66 (o:Int)=ub at h115 rB;generalize Z1r 67 (o:Int)=uc at h116 rC;have o1:decide ((o:Int)<0)=false:=decide_eq_false (by omega);have o2:decide ((o:Int) >= 18)=false:=decide_eq_false (by omega);have o3:decide (18<=(o:Int))=false:=decide_eq_false (by omega);have HS:=hid hs;clear h hi hra hrb hrc hn hs s1 s2 s3 s4;go_enter Tryz.func71,Tryz.ntmps71;go_upto_region 1 with fail
 have h1:=H1.out;generalize hW:w.alloc _=W at h1 |-;generalize w.heap.size=gi at h1 |-;clear hW H1;have HFF:=HF _ _ h1;have p0:W.cell? ⟨gi,0,none⟩=some (.int .i64 (o:Int)):=h1.blk.some_ (i:=0) rfl;clear h1 HF;go_wp2_with fail;refine HFF.out.mono ?_;rintro e w2 ⟨rfl,h2⟩;clear HFF p0;go_upto_region 4 with fail
 replace h2:=h2.drew;refine Z01 [] (by kernel_rfl) ?_;generalize hW:w2.drew=W2 at h2 |-;clear hW;have hS:W2.cell? ⟨gi,1,none⟩=some (.int .i64 a)/\W2.cell? ⟨gi,2,none⟩=some (.int .i64 b)/\W2.cell? ⟨gi,3,none⟩=some (.int .i64 c):=⟨h2.blk.some_ (i:=1) rfl,h2.blk.some_ (i:=2) rfl,h2.blk.some_ (i:=3) rfl⟩;refine Z04 (fun w'=>w'.cell? ⟨gi,1,none⟩=some (.int .i64 a)/\w'.cell? ⟨gi,2,none⟩=some (.int .i64 b)/\w'.cell? ⟨gi,3,none⟩=some (.int .i64 c)) (fun _ _=>trivial) _ _ _ _ ?_;refine' wbk [true,true,true] 64 hS (fun wq hq=>?_) ?_;rotate_left
 ·simp only[Z08]
  obtain⟨q1,q2,q3⟩:=hq
  repeat (go_big_quiet_step (fail))
  exact wpQuiet_nil rfl
 refine wbi 3 (fuel:=18) (fun QB hQB hQX=>?_);go_wp2_with fail;refine(h114.out _).mono ?_;rintro e w' ⟨rfl,rfl⟩;go_wp2_with fail;refine hQB.out _ _ hS ?_;clear hQB hQX QB;refine wbi 4 (fuel:=17) (fun QB hQB hQX=>?_);go_wp2_with fail;refine(rA.out _).mono ?_;rintro e w' ⟨rfl,rfl⟩;go_wp2_with fail;refine hQB.out _ _ hS ?_;clear hQB hQX QB;refine' wby [false,false,false,false,false,true,true,true,true,true] 64 hS ?_;refine wbi 10 (fuel:=11) (fun QB hQB hQX=>?_);go_wp2_with fail;refine(h115.out _).mono ?_;rintro e w' ⟨rfl,rfl⟩;go_wp2_with fail;refine hQB.out _ _ hS ?_;clear hQB hQX QB;refine wbi 11 (fuel:=10) (fun QB hQB hQX=>?_);go_wp2_with fail;refine(rB.out _).mono ?_;rintro e w' ⟨rfl,rfl⟩;go_wp2_with fail;refine hQB.out _ _ hS ?_;clear hQB hQX QB;refine' wby [false,false,false,false,false,false,false,false,false,false,false,false,true,true,true,true,true,true] 64 hS ?_;refine wbi 18 (fuel:=3) (fun QB hQB hQX=>?_);go_wp2_with fail;refine(h116.out _).mono ?_;rintro e w' ⟨rfl,rfl⟩;go_wp2_with fail;refine hQB.out _ _ hS ?_;clear hQB hQX QB;refine wbi 19 (fuel:=2) (fun QB hQB hQX=>?_);go_wp2_with fail;refine(rC.out _).mono ?_;rintro e w' ⟨rfl,rfl⟩;go_wp2_with fail;refine hQB.out _ _ hS ?_;clear hQB hQX QB;refine' wby [false,false,false,false,false,false,false,false,false,false,false,false,false,false,false,false,false,false,false,false,true,true] 64 hS ?_;refine Z02 (by kernel_rfl) ?_ _;have p4:World.cell? _ ⟨gi,4,none⟩=some (.int .i64 imm):=h2.blk.some_ (i:=4) rfl;have H2:=hid h2.drop;clear h2 h114 h115 h116 rA rB rC;rcases HS.out with c1|⟨c1,⟨c2,i1,i2⟩|⟨c2,⟨c3,i1,i2⟩|⟨c3,⟨c4,i1,i2⟩|⟨c4,⟨c5,i1,i2⟩|⟨c5,i1⟩⟩⟩⟩⟩
 case inl =>
  rw[c1] at h105;go_wp2_with fail;refine(h105.out _).mono ?_;rintro e w' ⟨rfl,rfl⟩;go_wp2_with fail;go_ret;exact⟨rfl,H2.out⟩
 all_goals (
  clear HS;have e1:decide (imm<0)=false:=decide_eq_false (by omega)
  (try have e2:decide (imm<1)=false:=decide_eq_false (by omega))
  (try have e3:decide (21<imm)=false:=decide_eq_false (by omega))
  (try have e4:decide (64<imm)=false:=decide_eq_false (by omega))
  (try have e5:decide (8<imm)=false:=decide_eq_false (by omega))
  (try have e6:decide (3<imm)=false:=decide_eq_false (by omega))
  (try have e7:decide (0<imm)=false:=decide_eq_false (by omega))
  rw[c1] at h105;rw[c2] at h102;clear i1;go_wp2_with fail;refine(h105.out _).mono ?_;rintro e w' ⟨rfl,rfl⟩;go_wp2_with fail;refine(h102.out _).mono ?_;rintro e w' ⟨rfl,rfl⟩)
 ·go_wp2_with fail
  go_ret;exact⟨rfl,H2.out⟩
 all_goals (
  rw[c3] at h106;go_wp2_with fail;refine(h106.out _).mono ?_;rintro e w' ⟨rfl,rfl⟩)
 ·go_wp2_with fail
  go_ret;exact⟨rfl,H2.out⟩
 all_goals (
  rw[c4] at h97;go_wp2_with fail;refine(h97.out _).mono ?_;rintro e w' ⟨rfl,rfl⟩)
 ·go_wp2_with fail
  go_ret;exact⟨rfl,H2.out⟩
 all_goals (
  rw[c5] at h99;go_wp2_with fail;refine(h99.out _).mono ?_;rintro e w' ⟨rfl,rfl⟩;go_wp2_with fail;go_ret;exact⟨rfl,H2.out⟩)
theorem Zcj (hi:InsV i) (h:Hold w0 w R):Calls Tryz.prog 72 #[i.val] w fun e w'=>e = .returned (.int .i64 (plcG i.op))/\Hold w0 w' R:=by
 have HC2:∀w' gi,Hold w0 w' (blkA 28 gi i.cells*R)->Hid (Calls Tryz.prog 71 #[i.val] w' fun e w'=>e = .returned (.int .i64 0)/\Hold w0 w' (blkA 28 gi i.cells*R)):=fun w' gi h=>hid (Z4m hi h);obtain⟨o,hop,ho⟩:=hi.nat;have hn:=hi.n;obtain⟨op,a,b,c,imm⟩:=i;dsimp only at hop hn |-;subst hop;have H1:=hid (h.newBlk (t:=28) (cs:=#[.int .i64 (o:Int),.int .i64 a,.int .i64 b,.int .i64 c,.int .i64 imm]));clear h hi hn;go_enter Tryz.func72,Tryz.ntmps72;go_upto_region 1 with fail
 have h1:=H1.out;generalize hW:w.alloc _=W at h1 |-;generalize w.heap.size=gi at h1 |-;clear hW H1;have hb:=h1.blk;have HCC:=HC2 _ _ h1;clear h1;go_wp2_with (refine Z03 rfl 28 _ rfl gi _ _ rfl Tryz.isAgg28 _ Tryz.sizeOf28 hb rfl ?_);refine HCC.out.mono ?_;rintro e w2 ⟨rfl,h2⟩;have p0:w2.cell? ⟨gi,0,none⟩=some (.int .i64 (o:Int)):=h2.blk.some_ (i:=0) rfl;have H2:=hid h2.drop;clear h2 hb HC2;rcases Z1s ho with rfl|rfl|rfl|rfl|rfl|rfl|rfl|rfl|rfl|rfl|rfl|rfl|rfl|rfl|rfl|rfl|rfl|rfl
 all_goals (
  clear ho;go_wp2_with fail;go_ret;exact⟨rfl,H2.out⟩)
theorem Zci (hi:InsV i) (h:Hold w0 w R):Calls Tryz.prog 73 #[i.val] w fun e w'=>e = .returned (.tuple #[.int .i64 (if isJ i.op=true then i.imm else 0),.bool (isJ i.op)])/\Hold w0 w' R:=by
 have HC2:∀w' gi,Hold w0 w' (blkA 28 gi i.cells*R)->Hid (Calls Tryz.prog 71 #[i.val] w' fun e w'=>e = .returned (.int .i64 0)/\Hold w0 w' (blkA 28 gi i.cells*R)):=fun w' gi h=>hid (Z4m hi h);obtain⟨o,hop,ho⟩:=hi.nat;have hn:=hi.n;obtain⟨op,a,b,c,imm⟩:=i;dsimp only at hop hn |-;subst hop;obtain⟨⟨_,_,_,s4,sl⟩,_⟩:=Z6y ho hn;generalize isJ (o:Int)=j at s4 |-;have HF:∀w' (R:Asr),Hold w0 w' R->Hid (Calls Tryz.prog 125 #[.int .i64 (o:Int)] w' fun e w2=>e = .returned (.string ⟨(Z24 o).toArray⟩)/\Hold w0 w2 R):=fun w' R h=>hid (rform_any ho h);have h106:Hid (∀w',Calls Tryz.prog 127 #[.string ⟨(Z24 o).toArray⟩,.int .u8 106] w' fun e w2=>e = .returned (.bool j)/\w2=w'):=hid fun w'=>s4 ▸ rhas_any w' _ 106 sl;have H1:=hid (h.newBlk (t:=28) (cs:=#[.int .i64 (o:Int),.int .i64 a,.int .i64 b,.int .i64 c,.int .i64 imm]));clear h hi hn;go_enter Tryz.func73,Tryz.ntmps73;go_upto_region 1 with fail
 have h1:=H1.out;generalize hW:w.alloc _=W at h1 |-;generalize w.heap.size=gi at h1 |-;clear hW H1;have hb:=h1.blk;have HCC:=HC2 _ _ h1;clear h1;go_wp2_with (refine Z03 rfl 28 _ rfl gi _ _ rfl Tryz.isAgg28 _ Tryz.sizeOf28 hb rfl ?_);refine HCC.out.mono ?_;rintro e w2 ⟨rfl,h2⟩;have p0:w2.cell? ⟨gi,0,none⟩=some (.int .i64 (o:Int)):=h2.blk.some_ (i:=0) rfl;have HFF:=HF _ _ h2;clear h2 hb HC2 HF;go_wp2_with fail;refine HFF.out.mono ?_;rintro e w3 ⟨rfl,h3⟩;go_wp2_with fail;refine(h106.out _).mono ?_;rintro e w3 ⟨rfl,rfl⟩;have p4:World.cell? _ ⟨gi,4,none⟩=some (.int .i64 imm):=h3.blk.some_ (i:=4) rfl;have H3:=hid h3.drop;clear h3 HFF h106
 cases j
 all_goals (
  go_wp2_with fail
  go_ret2
  exact⟨rfl,H3.out⟩)
end
end Go.Proofs.YtmlfangeanmmeaaGreatDoor
