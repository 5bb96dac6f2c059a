/-
 What the proof of TopAlone leans on, part 34 of 49: Oi, Qg, Nb, Nc, Oj, Td, Te, Te2, Qd. No statement of its own.
-/
import Derived.Test.YtmlfangeanmmeaaGreatDoorAm24
import Derived.Test.YtmlfangeanmmeaaGreatDoorAm32
import Derived.Test.YtmlfangeanmmeaaGreatDoorAm33
import Derived.LoopN
import Derived.Deep.LoopGhost
import Derived.Deep.CutBlock
import Derived.Deep.DeepCutAuto
set_option maxHeartbeats 16000000
set_option maxRecDepth 8000
set_option linter.unusedVariables false
namespace Go.Proofs.YtmlfangeanmmeaaGreatDoor
open Go.RowKit
section
variable {w0 w:World} {R:Asr} {t g n cp:Nat} {c:Cfg} {x:ThR} {y:AtR} {i:InsR} {A:Option Addr} {obs:List ObR} {kd v:Int}
def EsQ (w0:World) (t:Nat) (c:Cfg) (x:ThR) (n:Nat) (obs:List ObR) (R:Asr) (w':World):Prop :=
 ∃ov rg kd v,(kd=4\/kd=5\/kd=7/\v=6)/\Hold w0 w' (thA t c {x with attempt:=.pointer none,strong:=false,regs:=rg,obs:=ov,pc:=x.pc+1,done:=x.pc+1==(n:Int)}*(obsA ov (obs++[⟨x.pc,kd,v⟩])*R))
theorem Z8l (h:Hold w0 w (thA t c x*(atA g c y*(obsA x.obs obs*R)))) (hat:x.attempt=ptrV g) (hcd:y.code=1\/y.code=6) (hl:obs.length<=100000) (ha:0<=i.a/\i.a<8) (hb:0<=i.b/\i.b<8) (hc:x.code = .slice A n cp) (h0:0<=x.pc/\x.pc<=1000000) :
  Calls Tryz.prog 103 #[ptrV t,i.val] w fun e w'=>e = .returned (.tuple #[])/\EsQ w0 t c x n obs R w':=by
 have H1:=hid (h.newBlk (t:=28) (cs:=i.cells));have HX:=hid (And.intro hat (And.intro hcd (And.intro hl (And.intro ha (And.intro hc h0)))));obtain⟨r,hr⟩:∃r:Nat,i.b=(r:Int):=⟨i.b.toNat,by omega⟩;have hr8:r<8:=by omega
 have k0:(0:Int)<=(r:Int):=by omega
 have k1:(r:Int)<8:=by omega
 have HI:=hid hr;clear h hat hcd hl ha hb hc h0 hr;obtain⟨cd,hcd⟩:∃v,v=y.code:=⟨_,rfl⟩;obtain⟨vl,hvl⟩:∃v,v=y.value:=⟨_,rfl⟩;have HY:=hid (And.intro hcd hvl);clear hcd hvl;go_enter Tryz.func103,Tryz.ntmps103;go_upto_region 1 with fail
 have h1:=H1.out.drew;generalize w.heap.size=gi at h1 |-;clear H1;refine Z01 [] (by kernel_rfl) ?_;generalize hW:World.drew _=W1 at h1 |-;clear hW;have hsq:W1.cell? ⟨t,0,none⟩=some (ptrV g):=by have:=h1.drop.Zlw;rw[HX.out.1] at this;exact this
 have hC:=Z6g (h1.pk3 [2,0,1]);have hV:=Z71 (h1.pk3 [2,0,1]);rw[<- HY.out.1] at hC;rw[<- HY.out.2] at hV;refine Z04 (fun w'=>w'.cell? ⟨t,0,none⟩=some (ptrV g)) (fun _ _=>trivial) _ _ _ _ ?_;refine' wbk [true,true,true,true,true,false,true,true,true,true,true] 50 hsq (fun wq hq=>?_) ?_;rotate_left
 ·simp only[Z08]
  have q1:=hq
  repeat (go_big_quiet_step (fail))
  exact wpQuiet_nil rfl
 refine wbi 5 (fuel:=3) (fun QB hQB hQX=>?_);go_wp2_with fail;refine hC.mono ?_;rintro e w' ⟨rfl,rfl⟩;go_wp2_with fail;refine hQB.out _ _ hsq ?_;clear hQB hQX QB;refine wbi 11 (fuel:=2) (fun QB hQB hQX=>?_);go_wp2_with fail;refine hV.mono ?_;rintro e w' ⟨rfl,rfl⟩;go_wp2_with fail;refine hQB.out _ _ hsq ?_;clear hQB hQX QB;refine' wbk [false,false,false,false,false,false,false,false,false,false,false,false,true,true] 50 hsq (fun wq hq=>?_) ?_;rotate_left
 ·simp only[Z08]
  have q1:=hq
  repeat (go_big_quiet_step (fail))
  exact wpQuiet_nil rfl
 refine Z02 (by kernel_rfl) ?_ _;clear hC hV hsq;replace h1:=h1.pk4 [1,2,3,0];have p1:=h1.Zlw;have z1:=h1.thZ 0;have h2:=h1.th_attempt_set (.pointer none);have p2:=h1.th_strong;have z2:=h1.thZ 12;have H3:=hid (h2.th_strong_set false);clear h1 h2;go_upto_region 3 with fail
 have h3:Hold w0 _ (thA t c {x with attempt:=.pointer none,strong:=false}*(atA g c y*(obsA x.obs obs*(blkA 28 gi i.cells*R)))):=H3.out;clear H3;have hcd:cd=1\/cd=6:=by rw[HY.out.1];exact HX.out.2.1
 generalize hW:World.setCell _ _ _=W3 at h3 |-;clear hW p1 z1 p2 z2;have hob:({x with attempt:=.pointer none,strong:=false}:ThR).obs=x.obs:=rfl;rcases hcd with rfl|rfl
 ·have q0:=(h3.pk4 [3]).blk.some_ (i:=0) (u:=.int .i64 i.op) rfl
  by_cases h13:i.op=13
  ·rw[h13] at q0
   clear h13;go_upto_region 6 with fail
   replace h3:=h3.drew;clear q0;have hS:W3.drew.cell? ⟨gi,2,none⟩=some (.int .i64 (r:Int))/\W3.drew.cell? ⟨t,33+r,none⟩=some (.int .u64 (x.regs r)):=by
    have h9:=(h3.pk4 [3]).blk.some_ (i:=2) (u:=.int .i64 i.b) rfl;rw[HI.out] at h9;exact⟨h9,h3.th_regs hr8⟩
   have HS:=hid hS;clear hS;refine Z01 [] (by kernel_rfl) ?_;generalize hW:W3.drew=W4 at h3 HS |-;clear hW;generalize x.regs r=vr at HS;refine Z04 (fun w'=>w'.cell? ⟨gi,2,none⟩=some (.int .i64 (r:Int))/\w'.cell? ⟨t,33+r,none⟩=some (.int .u64 vr)) (fun _ _=>trivial) _ _ _ _ ?_;refine' wbk [true,true,true,true,true,true,true,true,true] 50 HS.out (fun wq hq=>?_) ?_;rotate_left
   ·simp only[Z08]
    obtain⟨q1,q2⟩:=hq
    repeat (go_big_quiet_step (fail))
    exact wpQuiet_nil rfl
   refine Z02 (by kernel_rfl) ?_ _;clear HS;have HA:=hid (Z3o (v:=vr) (n:=n) (cp:=cp) (A:=A) (h3.pk3 [0,2]) HX.out.2.2.1 HX.out.2.2.2.1 HX.out.2.2.2.2.1 HX.out.2.2.2.2.2);have HB:=hid (h3.pk4 [3]).blk;clear h3;go_wp2_with (refine Z03 rfl 28 _ rfl gi _ i.cells rfl Tryz.isAgg28 5 (fun w=>by kernel_rfl) HB.out rfl ?_);refine HA.out.mono ?_;rintro e w6 ⟨rfl,ov,rg,kd,hkd,h6⟩;have H6:=hid (h6.pk3 [0,1]);have HK:=hid hkd;clear h6 HA HB hkd;go_wp2_with fail
   go_end0
   exact⟨rfl,ov,rg,kd,_,HK.out.elim .inl (fun h=>.inr (.inl h)),H6.out⟩
  ·have e13:(i.op==13)=false:=beq_eq_false_iff_ne.2 h13
   clear h13;have HA:=hid (Z3o (v:=vl) (n:=n) (cp:=cp) (A:=A) (h3.pk3 [0,2]) HX.out.2.2.1 HX.out.2.2.2.1 HX.out.2.2.2.2.1 HX.out.2.2.2.2.2);have HB:=hid (h3.pk4 [3]).blk;clear h3;go_wp2_with (refine Z03 rfl 28 _ rfl gi _ i.cells rfl Tryz.isAgg28 5 (fun w=>by kernel_rfl) HB.out rfl ?_);refine HA.out.mono ?_;rintro e w6 ⟨rfl,ov,rg,kd,hkd,h6⟩;have H6:=hid (h6.pk3 [0,1]);have HK:=hid hkd;clear h6 HA HB hkd;go_wp2_with fail
   go_end0
   exact⟨rfl,ov,rg,kd,_,HK.out.elim .inl (fun h=>.inr (.inl h)),H6.out⟩
 ·have HO:=hid (Z1u (kd:=7) (v:=6) (h3.pk3 [0,2]) HX.out.2.2.1)
  clear h3;go_wp2_with fail;refine HO.out.mono ?_;rintro e w5 ⟨rfl,ov,h5⟩;have HN:=hid (Z28 (n:=n) (cp:=cp) (A:=A) h5 HX.out.2.2.2.2.1 HX.out.2.2.2.2.2);clear h5 HO;go_wp2_with fail;refine HN.out.mono ?_;rintro e w6 ⟨rfl,h6⟩;have H6:=hid (h6.pk3 [0,1]);clear h6 HN;go_wp2_with fail
  go_end0
  exact⟨rfl,ov,x.regs,7,6,.inr (.inr ⟨rfl,rfl⟩),H6.out⟩
end
structure PgA (p:List InsR):Prop where
 v:ProgV p
 f:inT p p.length=false
 j:ProgJ p
def BgI (p:List InsR) (b k:Nat):Prop:=∃i,p[b]?=some i/\i.op=7/\b<=k/\(k:Int)<=Z0h p (b:Int)
section
variable {p:List InsR} {b k:Nat} {i:InsR}
theorem BgI.end_ (hp:PgA p) (h:BgI p b k):∃j:Nat,Z0h p (b:Int)=j/\k<=j/\j<p.length/\inT p (j+1)=false:=by
 obtain⟨i,hi,h7,hb,hk⟩:=h;obtain⟨j,h1,h2,h3,-,h5,-⟩:=Z1b hp.f hi h7;exact⟨j,h1,by omega,h3,h5⟩
theorem BgI.lt (hp:PgA p) (h:BgI p b k):k<p.length:=by
 obtain⟨j,-,h2,h3,-⟩:=h.end_ hp;omega
theorem BgI.in_ (hp:PgA p) (h:BgI p b k) (hlt:b<k):inT p k=true:=by
 obtain⟨i,hi,h7,hb,hk⟩:=h;obtain⟨j,h1,h2,h3,-,h5,h6⟩:=Z1b hp.f hi h7;exact Z3r (Z4a hi h7) (by omega) fun m y hm hm2 hy=>h6 m y (by omega) (by omega) hy
theorem BgI.next (hp:PgA p) (h:BgI p b k) (hk:p[k]?=some i) (h8:i.op≠8):BgI p b (k+1):=by
 obtain⟨i',hi,h7,hb,hk2⟩:=h;obtain⟨j,h1,h2,h3,⟨y,hy,hy8⟩,h5,h6⟩:=Z1b hp.f hi h7;refine⟨i',hi,h7,by omega,?_⟩;have:k≠j:=by
  rintro rfl;rw[hk] at hy;exact h8 (by rw[Option.some.inj hy];exact hy8)
 omega
theorem BgI.jump (hp:PgA p) (h:BgI p b k) (hlt:b<k) {n:Int} (hJ:JmpAt p k n) (hn:0<=n):BgI p b (k+1+n.toNat):=by
 have hin:=h.in_ hp hlt;obtain⟨i',hi,h7,hb,hk2⟩:=h;obtain⟨j,h1,h2,h3,⟨y,hy,hy8⟩,h5,h6⟩:=Z1b hp.f hi h7;refine⟨i',hi,h7,by omega,?_⟩;have:¬((j:Int)<(k:Int)+1+n):=fun hlt=>hJ.2.1 hin j y (by omega) hlt hy hy8;omega
end
structure TD where
 x:ThR
 A:Option Addr
 cp:Nat
 obs:List ObR
 seen:List ObR:=[]
 es:List (Int × Int)
 gl:Nat
 b:Nat
 bg:Nat:=0
 g:Nat:=0
 gf:Nat:=0
 d:Nat:=0
 qs:List DM:=[]
 C:Nat->List Int:=fun _=>[]
 ck:Int:=0
 tk:Int:=0
inductive TP
 | out (k:Nat)
 | txn (k:Nat) (P:AP)
 | str (k a:Nat) (P:AP)
 | dr (k:Nat)
structure TC (c:Cfg) (p:List InsR) (s k:Nat) (q:TD):Prop where
 code:q.x.code = .slice q.A p.length q.cp
 id0:q.x.id=0
 th1:q.x.threads=1
 lim:q.x.limbo=ptrV q.gl
 esr:∀e∈q.es,0<=e.1/\e.1<(nbl c:Nat)
 esl:q.es.length<=2*s
 cnt:0<=q.x.count/\q.x.count<=s
 tri:0<=q.x.tries/\q.x.tries<=s
 pc:q.x.pc=(k:Int)
 kl:k<=p.length
 dn:q.x.done=((k:Int)==(p.length:Int))
 ob:ObsI c.strong q.obs q.b
 obl:q.obs.length<=2*s
def txP (b k:Nat) (P:AP):Prop:=((P = .en 1\/P = .en 2)/\b=k)\/((P = .idle\/bzA P=true/\(∀j,P ≠ .en j)/\gdA P=true)/\b<k)
def stP (a:Nat) (P:AP):Prop:=(a=0/\(P = .en 1\/P = .en 2\/P = .idle0))\/(1<=a/\(P = .idle\/bzA P=true/\(∀j,P ≠ .en j)/\gdA P=true))
def CmP (p:List InsR) (k:Nat) (P:AP):Prop:=∀i,p[k]?=some i->i.op=8->bzA P=true->endP P=true
def drI (c:Cfg) (C:Nat->List Int):List DM->Prop
 | []=>False
 | z::l=>(0<=z.at_/\z.at_<=2)/\(1<=z.at_->z.hd=valC C 7 (clsS c z.b))/\(∀y∈l,y.at_=0)/\∀y∈z::l,0<=y.b/\y.b<(nbl c:Nat)
def drR (l:List DM):Nat:=(l.map fun z=>3 - z.at_.toNat).sum
def tph (c:Cfg) (p:List InsR) (s:Nat) (q:TD):TP->Prop
 | .out k=>TC c p s k q/\q.x.attempt = .pointer none/\q.x.fence = .pointer none/\q.x.drain = .pointer none/\q.x.strong=false/\inT p k=false
 | .txn k P=>TC c p s k q/\q.x.attempt=ptrV q.g/\q.x.fence = .pointer none/\q.x.drain = .pointer none/\q.x.strong=false/\(SeenI q.seen/\q.obs.length+q.seen.length<=2*s/\q.seen.length<=s)/\q.x.begin_=(q.bg:Int)/\BgI p q.bg k/\txP q.bg k P/\CmP p k P
 | .str k a P=>TC c p s k q/\q.x.attempt=ptrV q.g/\q.x.fence = .pointer none/\q.x.drain = .pointer none/\q.x.strong=true/\(q.x.asked=(a:Int)/\a<=s/\c.strong=true)/\(∃i,p[k]?=some i/\(i.op=12\/i.op=13)/\tgR q.x i<c.words)/\inT p k=false/\stP a P
 | .dr k=>TC c p s k q/\q.x.attempt = .pointer none/\q.x.fence=ptrV q.gf/\q.x.drain=ptrV q.d/\q.x.strong=false/\(k<p.length/\inT p (k+1)=false)/\drI c q.C q.qs/\(0<=q.tk/\q.tk<=s)/\MI c q.ck q.tk q.tk q.ck [] q.C
def tps (t m:Nat) (c:Cfg) (p:List InsR) (s:Nat) (q:TD):TP->List Asr
 | .out _=>[thA t c q.x,Z0a (.slice q.A p.length q.cp) p,obsA q.x.obs q.obs,limA q.gl c q.es,mS m c s]
 | .txn _ P=>[thA t c q.x,Z0a (.slice q.A p.length q.cp) p,obsA q.x.obs q.obs,limA q.gl c q.es,obsA q.x.seen q.seen,aS q.g m c false s P]
 | .str _ _ P=>[thA t c q.x,Z0a (.slice q.A p.length q.cp) p,obsA q.x.obs q.obs,limA q.gl c q.es,aS q.g m c true s P]
 | .dr _=>[thA t c q.x,Z0a (.slice q.A p.length q.cp) p,obsA q.x.obs q.obs,limA q.gl c q.es,drA c q.d q.qs,memA m q.C]
def tmu (p:List InsR) (q:TD):TP->Nat
 | .out k=>wsum p k+3*q.es.length
 | .txn k (.en j)=>wsum p (k+1)+3*q.es.length+(AP.en j).msr+1
 | .txn k .idle=>wsum p k+3*q.es.length+52
 | .txn k P=>wsum p (k+1)+3*q.es.length+60+P.msr
 | .str k _ P=>wsum p (k+1)+3*q.es.length+P.msr+1
 | .dr k=>wsum p (k+1)+3*q.es.length+drR q.qs
def tE:TP->Nat
 | .txn _ _ | .str _ _ _=>1
 | _=>0
def tA (t m:Nat) (c:Cfg) (p:List InsR) (s E u:Nat) (d:Bool):Asr :=
 Asr.exs (fun z:TD × TP=>tph c p s z.1 z.2/\E=z.1.b+tE z.2/\tmu p z.1 z.2<=u/\d=z.1.x.done) (fun z=>tps t m c p s z.1 z.2)
section
variable {w0 w:World} {R F:Asr} {t m s E u:Nat} {c:Cfg} {p:List InsR} {d:Bool}
theorem Zfo {q:TD} {T:TP} (hq:tph c p s q T) (hE:E=q.b+tE T) (hu:tmu p q T<=u) (h:Hold w0 w (sepR (tps t m c p s q T) F)):∃d,Hold w0 w (tA t m c p s E u d*F):=⟨_,Hold.Zlr (q,T) ⟨hq,hE,hu,rfl⟩ h⟩
theorem Zjs {q:TD} {T:TP} (h:tph c p s q T):∃k,TC c p s k q:=by
 cases T <;> exact⟨_,h.1⟩
theorem Zjf {C:Nat->List Int} {l:List DM} (h:drI c C l):1<=drR l:=by
 cases l with
 | nil=>exact h.elim
 | cons z l =>
  have:=h.1;show 1<=(3 - z.at_.toNat)+(l.map fun z:DM=>3 - z.at_.toNat).sum;omega
theorem Zfj (hp:PgA p) {q:TD} {T:TP} (h:tph c p s q T) (hd:q.x.done=true):T = .out p.length:=by
 obtain⟨k,K⟩:=Zjs h;have key:∀k,TC c p s k q->k=p.length:=fun k K=>by
  have:=K.dn;rw[hd] at this;have:=beq_iff_eq.1 this.symm;omega
 cases T with
 | out k=>rw[key k h.1]
 | txn k P =>
  have h1:=key k h.1;have h2:=(h.2.2.2.2.2.2.2.1).lt hp;omega
 | str k a P =>
  have h1:=key k h.1;obtain⟨i,hi,-⟩:=h.2.2.2.2.2.2.1;have:=(List.getElem?_eq_some_iff.1 hi).1;omega
 | dr k =>
  have h1:=key k h.1;have:=h.2.2.2.2.2.1.1;omega
theorem Zfk (hp:PgA p) {q:TD} {T:TP} (h:tph c p s q T) (h0:tmu p q T=0):q.x.done=true:=by
 cases T with
 | out k =>
  have K:=h.1;have h1:wsum p k+3*q.es.length=0:=h0;have h2:=Zcy K.kl (by omega);rw[K.dn,h2];simp
 | txn k P=>cases P <;> (simp only[tmu] at h0;omega)
 | str k a P=>simp only[tmu] at h0;omega
 | dr k =>
  have:=Zjf h.2.2.2.2.2.2.1;simp only[tmu] at h0;omega
end
def Z17 (w:World):Prop:=∀o:Nat,o<18->w.cell? ⟨0,o*2+1,none⟩=some (.string ⟨(Z4b o).toArray⟩)
theorem Z1s {o:Nat} (h:o<18):o=0\/o=1\/o=2\/o=3\/o=4\/o=5\/o=6\/o=7\/o=8\/o=9\/o=10\/o=11\/o=12\/o=13\/o=14\/o=15\/o=16\/o=17:=by omega
section
variable {w0 w:World} {R:Asr} {i:InsR}
theorem InsV.nat (hi:InsV i):∃o:Nat,i.op=(o:Int)/\o<18:=⟨i.op.toNat,by have:=hi.op;omega,by have:=hi.op;omega⟩
theorem Zco (hi:InsV i) (h:Hold w0 w R):Calls Tryz.prog 130 #[i.val] w fun e w'=>e = .returned (.bool true)/\Hold w0 w' R:=by
 obtain⟨o,hop,ho⟩:=hi.nat;have hn:=hi.n;obtain⟨op,a,b,c,imm⟩:=i;dsimp only at hop hn;subst hop;have H1:=hid (h.newBlk (t:=28) (cs:=#[.int .i64 (o:Int),.int .i64 a,.int .i64 b,.int .i64 c,.int .i64 imm])).drop;clear h hi;go_enter Tryz.func130,Tryz.ntmps130;rcases Z1s ho with rfl|rfl|rfl|rfl|rfl|rfl|rfl|rfl|rfl|rfl|rfl|rfl|rfl|rfl|rfl|rfl|rfl|rfl
 all_goals (
  simp[Z8w] at hn
  try have e1:decide (imm >= 0)=true:=decide_eq_true (by omega)
  try have e2:decide (0<=imm)=true:=decide_eq_true (by omega)
  try have e3:decide (imm<22)=true:=decide_eq_true (by omega)
  try have e4:decide (imm<=64)=true:=decide_eq_true (by omega)
  try have e5:decide (imm >= 1)=true:=decide_eq_true (by omega)
  try have e6:decide (1<=imm)=true:=decide_eq_true (by omega)
  try have e7:decide (imm<=8)=true:=decide_eq_true (by omega)
  try have e8:decide (imm<4)=true:=decide_eq_true (by omega)
  try have e9:(imm==0)=true:=beq_iff_eq.2 (by omega)
  clear hn ho;go_wp2_with fail;go_ret;exact⟨by first|rfl|simp[*],H1.out⟩)
theorem Z66 (hF:Z17 w0) (hi:InsV i) (h:Hold w0 w R):Calls Tryz.prog 76 #[i.val] w fun e w'=>e = .returned (.int .i64 0)/\Hold w0 w' R:=by
 have HN:∀w',Hold w0 w' R->Hid (Calls Tryz.prog 130 #[i.val] w' fun e w'=>e = .returned (.bool true)/\Hold w0 w' R):=fun w' h=>hid (Zco hi h);obtain⟨o,hop,ho⟩:=hi.nat;have hra:=hi.a;have hrb:=hi.b;have hrc:=hi.c;obtain⟨op,a,b,c,imm⟩:=i;dsimp only at hop hra hrb hrc;subst hop;have H1:=hid (h.newBlk (t:=28) (cs:=#[.int .i64 (o:Int),.int .i64 a,.int .i64 b,.int .i64 c,.int .i64 imm]));have HF:=hid (hF o ho);have o1:decide ((o:Int)<0)=false:=decide_eq_false (by omega);have o2:decide ((o:Int) >= 18)=false:=decide_eq_false (by omega);have o3:decide (18<=(o:Int))=false:=decide_eq_false (by omega);have o4:(0:Int)<=(o:Int):=by omega
 have o5:(o:Int)<18:=by omega
 have hs:decide (0<=Lib.indexByte (Z4b o) 65)=Z1r 65 (o:Int)/\decide (0<=Lib.indexByte (Z4b o) 66)=Z1r 66 (o:Int)/\decide (0<=Lib.indexByte (Z4b o) 67)=Z1r 67 (o:Int):=by
  clear H1 HN HF hra hrb hrc o1 o2 o3 o4 o5 h hi;rcases Z1s ho with rfl|rfl|rfl|rfl|rfl|rfl|rfl|rfl|rfl|rfl|rfl|rfl|rfl|rfl|rfl|rfl|rfl|rfl <;> exact⟨rfl,rfl,rfl⟩
 have i0:∀w,(Instr.index 22 (.agg #[.int .i64 a,.int .i64 b,.int .i64 c]) (.int .i64 0)).run Tryz.prog w = .ok (.int .i64 a) w:=fun _=>by kernel_rfl
 have i1:∀w,(Instr.index 22 (.agg #[.int .i64 a,.int .i64 b,.int .i64 c]) (.int .i64 1)).run Tryz.prog w = .ok (.int .i64 b) w:=fun _=>by kernel_rfl
 have i2:∀w,(Instr.index 22 (.agg #[.int .i64 a,.int .i64 b,.int .i64 c]) (.int .i64 2)).run Tryz.prog w = .ok (.int .i64 c) w:=fun _=>by kernel_rfl
 have HR:Hid (∀(u:Bool) r,Z5f u r->((u=true/\decide (r<0)=false/\decide (r >= 8)=false/\decide (8<=r)=false)\/(u=false/\r=0))):=hid (fun u r hr=>by
  unfold Z5f at hr
  cases u with
  | true=>exact .inl ⟨rfl,decide_eq_false (by have:0<=r/\r<8:=hr;omega),decide_eq_false (by have:0<=r/\r<8:=hr;omega),decide_eq_false (by have:0<=r/\r<8:=hr;omega)⟩
  | false=>exact .inr ⟨rfl,hr⟩)
 have HA:=hid (HR.out _ _ hra);have HB:=hid (HR.out _ _ hrb);have HC:=hid (HR.out _ _ hrc);have HS:=hid hs;clear h hF hi hra hrb hrc HR hs;go_enter Tryz.func76,Tryz.ntmps76;go_upto_region 3 with fail
 have h1:=H1.out;generalize hW:w.alloc _=W at h1 |-;generalize w.heap.size=gi at h1 |-;clear hW H1;have p0:W.cell? ⟨gi,0,none⟩=some (.int .i64 (o:Int)):=h1.blk.some_ (i:=0) rfl;have p1:W.cell? ⟨gi,1,none⟩=some (.int .i64 a):=h1.blk.some_ (i:=1) rfl;have p2:W.cell? ⟨gi,2,none⟩=some (.int .i64 b):=h1.blk.some_ (i:=2) rfl;have p3:W.cell? ⟨gi,3,none⟩=some (.int .i64 c):=h1.blk.some_ (i:=3) rfl;go_wp2_with fail;go_loopw [21] (fun v21 wr=>∃k:Nat,k<=3/\v21 = .int .i64 (k:Int)/\Hold w0 wr (blkA 28 gi #[.int .i64 (o:Int),.int .i64 a,.int .i64 b,.int .i64 c,.int .i64 imm]*R)) (fun v _=>3 - (intOf v).toNat)
 case atStart=>exact⟨0,by omega,rfl,h1⟩
 case round =>
  clear h1 p0 p1 p2 p3;obtain⟨k,hk,rfl,h1⟩:=hrel;obtain rfl|rfl|rfl|rfl:k=0\/k=1\/k=2\/k=3:=by omega
  ·go_upto_region 6 with fail
   have hd:=h1.drew;have q:wr.drew.cell? ⟨0,o*2+1,none⟩=some (.string ⟨(Z4b o).toArray⟩):=hd.old HF.out;have pp:wr.drew.cell? ⟨gi,0,none⟩=some (.int .i64 (o:Int)):=hd.blk.some_ (i:=0) rfl;have HX:Hid (Calls Tryz.prog 129 #[.string ⟨(Z4b o).toArray⟩,.string ⟨#[65]⟩] wr.drew fun e w'=>e = .returned (.bool (Z1r 65 (o:Int)))/\wr.drew=w'):=hid ((Any.strings_Contains_one Zaf ⟨(Z4b o).toArray⟩ 65 wr.drew).mono (by rintro e w' ⟨rfl,rfl⟩;exact⟨by rw[<- HS.out.1],rfl⟩));refine Z01 [] (by kernel_rfl) ?_;refine' wby [true,false,false,false,false,true,true,true,true] 56 trivial ?_;refine wbi 1 (fuel:=5) (fun QB hQB hQX=>?_);go_wp2_with fail;refine hQB.out _ _ trivial ?_;refine' wby [false,false,true,true] 56 trivial ?_;refine wbi 4 (fuel:=2) (fun QB hQB hQX=>?_);go_wp2_with fail;refine hQB.out _ _ trivial ?_;refine wbi 9 (fuel:=1) (fun QB hQB hQX=>?_);go_wp2_with fail;refine HX.out.mono ?_;rintro e w' ⟨rfl,rfl⟩;go_wp2_with fail;refine hQB.out _ _ trivial ?_;clear hQB hQX QB;refine' wby [false,false,false,false,false,false,false,false,false,false,true] 56 trivial ?_;refine Z02 (by kernel_rfl) ?_ _;clear h1;have H2:=hid hd;clear hd q pp HX;generalize Z1r 65 (o:Int)=u at HA |-;rcases HA.out with⟨rfl,e1,e2,e3⟩|⟨rfl,e1⟩
   ·go_wp2_with fail
    go_roundw
    case rel=>exact⟨1,by omega,rfl,H2.out⟩
    case measure=>simp[intOf]
   ·have e2:(a != 0)=false:=by rw[e1];rfl
    clear e1;go_wp2_with fail;go_roundw
    case rel=>exact⟨1,by omega,rfl,H2.out⟩
    case measure=>simp[intOf]
  ·go_upto_region 6 with fail
   have hd:=h1.drew;have q:wr.drew.cell? ⟨0,o*2+1,none⟩=some (.string ⟨(Z4b o).toArray⟩):=hd.old HF.out;have pp:wr.drew.cell? ⟨gi,0,none⟩=some (.int .i64 (o:Int)):=hd.blk.some_ (i:=0) rfl;have HX:Hid (Calls Tryz.prog 129 #[.string ⟨(Z4b o).toArray⟩,.string ⟨#[66]⟩] wr.drew fun e w'=>e = .returned (.bool (Z1r 66 (o:Int)))/\wr.drew=w'):=hid ((Any.strings_Contains_one Zaf ⟨(Z4b o).toArray⟩ 66 wr.drew).mono (by rintro e w' ⟨rfl,rfl⟩;exact⟨by rw[<- HS.out.2.1],rfl⟩));refine Z01 [] (by kernel_rfl) ?_;refine' wby [true,false,false,false,false,true,true,true,true] 56 trivial ?_;refine wbi 1 (fuel:=5) (fun QB hQB hQX=>?_);go_wp2_with fail;refine hQB.out _ _ trivial ?_;refine' wby [false,false,true,true] 56 trivial ?_;refine wbi 4 (fuel:=2) (fun QB hQB hQX=>?_);go_wp2_with fail;refine hQB.out _ _ trivial ?_;refine wbi 9 (fuel:=1) (fun QB hQB hQX=>?_);go_wp2_with fail;refine HX.out.mono ?_;rintro e w' ⟨rfl,rfl⟩;go_wp2_with fail;refine hQB.out _ _ trivial ?_;clear hQB hQX QB;refine' wby [false,false,false,false,false,false,false,false,false,false,true] 56 trivial ?_;refine Z02 (by kernel_rfl) ?_ _;clear h1;have H2:=hid hd;clear hd q pp HX;generalize Z1r 66 (o:Int)=u at HB |-;rcases HB.out with⟨rfl,e1,e2,e3⟩|⟨rfl,e1⟩
   ·go_wp2_with fail
    go_roundw
    case rel=>exact⟨2,by omega,rfl,H2.out⟩
    case measure=>simp[intOf]
   ·have e2:(b != 0)=false:=by rw[e1];rfl
    clear e1;go_wp2_with fail;go_roundw
    case rel=>exact⟨2,by omega,rfl,H2.out⟩
    case measure=>simp[intOf]
  ·go_upto_region 6 with fail
   have hd:=h1.drew;have q:wr.drew.cell? ⟨0,o*2+1,none⟩=some (.string ⟨(Z4b o).toArray⟩):=hd.old HF.out;have pp:wr.drew.cell? ⟨gi,0,none⟩=some (.int .i64 (o:Int)):=hd.blk.some_ (i:=0) rfl;have HX:Hid (Calls Tryz.prog 129 #[.string ⟨(Z4b o).toArray⟩,.string ⟨#[67]⟩] wr.drew fun e w'=>e = .returned (.bool (Z1r 67 (o:Int)))/\wr.drew=w'):=hid ((Any.strings_Contains_one Zaf ⟨(Z4b o).toArray⟩ 67 wr.drew).mono (by rintro e w' ⟨rfl,rfl⟩;exact⟨by rw[<- HS.out.2.2],rfl⟩));refine Z01 [] (by kernel_rfl) ?_;refine' wby [true,false,false,false,false,true,true,true,true] 56 trivial ?_;refine wbi 1 (fuel:=5) (fun QB hQB hQX=>?_);go_wp2_with fail;refine hQB.out _ _ trivial ?_;refine' wby [false,false,true,true] 56 trivial ?_;refine wbi 4 (fuel:=2) (fun QB hQB hQX=>?_);go_wp2_with fail;refine hQB.out _ _ trivial ?_;refine wbi 9 (fuel:=1) (fun QB hQB hQX=>?_);go_wp2_with fail;refine HX.out.mono ?_;rintro e w' ⟨rfl,rfl⟩;go_wp2_with fail;refine hQB.out _ _ trivial ?_;clear hQB hQX QB;refine' wby [false,false,false,false,false,false,false,false,false,false,true] 56 trivial ?_;refine Z02 (by kernel_rfl) ?_ _;clear h1;have H2:=hid hd;clear hd q pp HX;generalize Z1r 67 (o:Int)=u at HC |-;rcases HC.out with⟨rfl,e1,e2,e3⟩|⟨rfl,e1⟩
   ·go_wp2_with fail
    go_roundw
    case rel=>exact⟨3,by omega,rfl,H2.out⟩
    case measure=>simp[intOf]
   ·have e2:(c != 0)=false:=by rw[e1];rfl
    clear e1;go_wp2_with fail;go_roundw
    case rel=>exact⟨3,by omega,rfl,H2.out⟩
    case measure=>simp[intOf]
  ·have hb:=h1.blk
   have HNN:=(HN _ h1.drop);clear h1;go_wp2_with (refine Z03 rfl 28 _ rfl gi _ _ rfl Tryz.isAgg28 _ Tryz.sizeOf28 hb rfl ?_);refine HNN.out.mono ?_;rintro e w' ⟨rfl,h2⟩;have H2:=hid h2;clear h2 hb;go_wp2_with fail;go_ret;exact⟨rfl,H2.out⟩
theorem Zeb (hF:Z17 w0) (hi:InsV i) (h:Hold w0 w R):Calls Tryz.prog 77 #[i.val] w fun e w'=>e = .returned (.int .i64 (plcG i.op))/\Hold w0 w' R:=by
 have HC2:∀w' gi,Hold w0 w' (blkA 28 gi i.cells*R)->Hid (Calls Tryz.prog 76 #[i.val] w' fun e w'=>e = .returned (.int .i64 0)/\Hold w0 w' (blkA 28 gi i.cells*R)):=fun w' gi h=>hid (Z66 hF hi h);obtain⟨o,hop,ho⟩:=hi.nat;obtain⟨op,a,b,c,imm⟩:=i;dsimp only at hop |-;subst hop;have H1:=hid (h.newBlk (t:=28) (cs:=#[.int .i64 (o:Int),.int .i64 a,.int .i64 b,.int .i64 c,.int .i64 imm]));clear h hF hi;go_enter Tryz.func77,Tryz.ntmps77;go_upto_region 1 with fail
 have h1:=H1.out;generalize hW:w.alloc _=W at h1 |-;generalize w.heap.size=gi at h1 |-;clear hW H1;have hb:=h1.blk;have HCC:=HC2 _ _ h1;clear h1;go_wp2_with (refine Z03 rfl 28 _ rfl gi _ _ rfl Tryz.isAgg28 _ Tryz.sizeOf28 hb rfl ?_);refine HCC.out.mono ?_;rintro e w2 ⟨rfl,h2⟩;have p0:w2.cell? ⟨gi,0,none⟩=some (.int .i64 (o:Int)):=h2.blk.some_ (i:=0) rfl;have p4:w2.cell? ⟨gi,4,none⟩=some (.int .i64 imm):=h2.blk.some_ (i:=4) rfl;have H2:=hid h2.drop;clear h2 hb HC2;rcases Z1s ho with rfl|rfl|rfl|rfl|rfl|rfl|rfl|rfl|rfl|rfl|rfl|rfl|rfl|rfl|rfl|rfl|rfl|rfl
 all_goals (
  clear ho;go_wp2_with fail;go_ret;exact⟨rfl,H2.out⟩)
theorem Zea (hF:Z17 w0) (hi:InsV i) (h:Hold w0 w R):Calls Tryz.prog 131 #[i.val] w fun e w'=>e = .returned (.tuple #[.int .i64 (if isJ i.op=true then i.imm else 0),.bool (isJ i.op)])/\Hold w0 w' R:=by
 have HC2:∀w' gi,Hold w0 w' (blkA 28 gi i.cells*R)->Hid (Calls Tryz.prog 76 #[i.val] w' fun e w'=>e = .returned (.int .i64 0)/\Hold w0 w' (blkA 28 gi i.cells*R)):=fun w' gi h=>hid (Z66 hF hi h);obtain⟨o,hop,ho⟩:=hi.nat;obtain⟨op,a,b,c,imm⟩:=i;dsimp only at hop |-;subst hop;have H1:=hid (h.newBlk (t:=28) (cs:=#[.int .i64 (o:Int),.int .i64 a,.int .i64 b,.int .i64 c,.int .i64 imm]));clear h hF hi;go_enter Tryz.func131,Tryz.ntmps131;go_upto_region 1 with fail
 have h1:=H1.out;generalize hW:w.alloc _=W at h1 |-;generalize w.heap.size=gi at h1 |-;clear hW H1;have hb:=h1.blk;have HCC:=HC2 _ _ h1;clear h1;go_wp2_with (refine Z03 rfl 28 _ rfl gi _ _ rfl Tryz.isAgg28 _ Tryz.sizeOf28 hb rfl ?_);refine HCC.out.mono ?_;rintro e w2 ⟨rfl,h2⟩;have p0:w2.cell? ⟨gi,0,none⟩=some (.int .i64 (o:Int)):=h2.blk.some_ (i:=0) rfl;have p4:w2.cell? ⟨gi,4,none⟩=some (.int .i64 imm):=h2.blk.some_ (i:=4) rfl;have H2:=hid h2.drop;clear h2 hb HC2;rcases Z1s ho with rfl|rfl|rfl|rfl|rfl|rfl|rfl|rfl|rfl|rfl|rfl|rfl|rfl|rfl|rfl|rfl|rfl|rfl
 all_goals (
  clear ho;go_wp2_with fail
  go_ret2
  exact⟨rfl,H2.out⟩)
end
section
variable {w0 w:World} {R:Asr} {b:Bool} {i:InsR} {p:List InsR} {A:Option Addr} {cp k:Nat}
theorem Zdr {b:Nat} (h:Hold w0 w (Z0a (.slice A p.length cp) p*R)) (hb:b<p.length) (hl:p.length<=64):Calls Tryz.prog 132 #[.slice A p.length cp,.int .i64 (b:Int)] w fun e w'=>e = .returned (.int .i64 (Z0h p (b:Int)))/\Hold w0 w' (Z0a (.slice A p.length cp) p*R):=by
 obtain⟨gc,hA,hcap,-⟩:=h.codeAt (List.getElem?_eq_getElem hb);subst hA;obtain⟨n,hn⟩:∃n,n=p.length:=⟨_,rfl⟩;have HN:=hid hn;have H:=hid h;rw[<- hn] at hb hl hcap |-;clear h hn;go_enter Tryz.func132,Tryz.ntmps132;go_wp2_with fail;go_loopw [5] (fun v5 wr=>∃k:Nat,b+1<=k/\k<=n/\v5 = .int .i64 (k:Int)/\(∀j (hj:j<p.length),b+1<=j->j<k->(p[j]'hj).op≠8)/\Hold w0 wr (Z0a (.slice (some ⟨gc,0,none⟩) p.length cp) p*R)) (fun v _=>n - (intOf v).toNat)
 case atStart=>exact⟨b+1,Nat.le_refl _,by omega,by go_num,fun j _ h1 h2=>by omega,H.out⟩
 case round =>
  clear H;obtain⟨k,hk0,hk,rfl,hno,h⟩:=hrel;have HNO:=hid hno;clear hno
  by_cases hlt:k<n
  ·have e1:decide ((k:Int)<(n:Int))=true:=decide_eq_true (by omega)
   have e1':decide (k<n)=true:=decide_eq_true hlt;have hkl:k<p.length:=by rw[<- HN.out];exact hlt
   have hi:=List.getElem?_eq_getElem hkl;obtain⟨i,hii⟩:∃i,i=p[k]:=⟨_,rfl⟩;rw[<- hii] at hi;obtain⟨q3,q4,q5,q6,q7⟩:=h.code hi;have HII:=hid hii;have H1:=hid h;clear h hi hii q4 q5 q6 q7;obtain⟨op,hop⟩:∃op,op=i.op:=⟨_,rfl⟩;rw[<- hop] at q3;have HOP:=hid hop;clear hop
   by_cases h8:op=8
   ·subst h8
    have HR:=hid (Z6b hk0 hkl (by rw[<- HII.out,<- HOP.out]) HNO.out);go_wp2_with fail;go_ret;exact⟨by rw[HR.out];rfl,by have h9:=H1.out;rw[<- HN.out] at h9;exact h9⟩
   ·have e8:(op==8)=false:=beq_eq_false_iff_ne.2 h8
    have H8:=hid h8;clear h8;go_wp2_with fail;go_roundw
    case rel =>
     refine⟨k+1,by omega,by omega,by go_num,fun j hj h1 h2=>?_,H1.out⟩
     by_cases hjk:j=k
     ·subst hjk
      rw[<- HII.out,<- HOP.out];exact H8.out
     ·exact HNO.out j hj h1 (by omega)
    case measure=>simp[intOf];omega
  ·obtain rfl:k=n:=by omega
   have e1:decide ((k:Int)<(k:Int))=false:=decide_eq_false (by omega);have HR:Hid (Z0h p (b:Int)=(p.length:Int)):=hid (Z7y (fun j hj h1=>HNO.out j hj h1 (by rw[HN.out];exact hj)));have H1:=hid h;clear h;go_wp2_with fail;go_ret;exact⟨by rw[HR.out,<- HN.out];rfl,by have h9:=H1.out;rw[<- HN.out] at h9;exact h9⟩
theorem Zil {n:Int} (h:Hold w0 w (Z0a (.slice A p.length cp) p*R)) (hl:p.length<=64) (hk:p[k]?=some i) (hJ:JmpAt p k n) (hn:0<=n) (hf:inT p p.length=false) (hin:inT p k=false):Calls Tryz.prog 133 #[.slice A p.length cp,.int .i64 (k:Int),.int .i64 ((k:Int)+1+n)] w fun e w'=>e = .returned (.bool false)/\Hold w0 w' (Z0a (.slice A p.length cp) p*R):=by
 have hkl:=(List.getElem?_eq_some_iff.1 hk).1;obtain⟨gc,hA,hcap,-⟩:=h.codeAt hk;subst hA;obtain⟨tg,hto⟩:∃tg,tg=(k:Int)+1+n:=⟨_,rfl⟩;have hrng:(k:Int)+1<=tg/\tg<=p.length:=⟨by omega,by rw[hto];exact hJ.1⟩;have HK:Hid (∀(b:Nat) y,k<b->(b:Int)<tg->p[b]?=some y->y.op=7->Z0h p (b:Int)<tg):=hid (fun b y h1 h2 h3 h4=>by rw[hto] at h2 |-;exact hJ.into hn hf hin h1 h2 h3 h4);have H:=hid h;rw[<- hto];clear h hJ hn hf hin hk hto;obtain⟨n',hn'⟩:∃n',n'=p.length:=⟨_,rfl⟩;have HN:=hid (And.intro hn' hl);rw[<- hn'] at hrng hkl hl hcap |-;clear hn';go_enter Tryz.func133,Tryz.ntmps133;go_wp2_with fail;go_loopw [7] (fun v7 wr=>∃b:Nat,k+1<=b/\(b:Int)<=tg/\v7 = .int .i64 (b:Int)/\Hold w0 wr (Z0a (.slice (some ⟨gc,0,none⟩) p.length cp) p*R)) (fun v _=>n' - (intOf v).toNat)
 case atStart=>exact⟨k+1,Nat.le_refl _,by omega,by go_num,H.out⟩
 case round =>
  clear H;obtain⟨b,hb0,hb1,rfl,h⟩:=hrel
  by_cases hlt:(b:Int)<tg
  ·have e1:decide ((b:Int)<tg)=true:=decide_eq_true hlt
   have hbl:b<p.length:=by rw[<- HN.out.1];omega
   have hi:=List.getElem?_eq_getElem hbl;obtain⟨y,hy⟩:∃y,y=p[b]:=⟨_,rfl⟩;rw[<- hy] at hi;obtain⟨q3,q4,q5,q6,q7⟩:=h.code hi;have HI:=hid hi;have H1:=hid h;have HE:=hid (Zdr h hbl HN.out.2);clear h hi hy q4 q5 q6 q7;obtain⟨op,hop⟩:∃op,op=y.op:=⟨_,rfl⟩;rw[<- hop] at q3;have HOP:=hid hop;clear hop
   by_cases h7:op=7
   ·subst h7
    have hcm:=HK.out b y (by omega) hlt HI.out HOP.out.symm;obtain⟨cm,hcmv⟩:∃cm,cm=Z0h p (b:Int):=⟨_,rfl⟩;rw[<- hcmv] at hcm HE;clear hcmv;rw[<- HN.out.1] at HE;have e2:decide (tg<=cm)=false:=decide_eq_false (by omega);have e3:decide (tg<=min cm ((n':Int) - 1))=false:=decide_eq_false (by omega);have e4:∀z:Int,decide (tg<=if cm<=z then cm else z)=false:=fun z=>decide_eq_false (by split <;> omega);go_wp2_with fail;refine HE.out.mono ?_;rintro e w4 ⟨rfl,h4⟩;have H4:=hid h4;clear h4;go_wp2_with fail;go_roundw
    case rel=>exact⟨b+1,by omega,by omega,by go_num,by have h9:=H4.out;rw[HN.out.1] at h9;exact h9⟩
    case measure=>simp[intOf];omega
   ·have e7:(op==7)=false:=beq_eq_false_iff_ne.2 h7
    clear h7;go_wp2_with fail;go_roundw
    case rel=>exact⟨b+1,by omega,by omega,by go_num,H1.out⟩
    case measure=>simp[intOf];omega
  ·obtain rfl:tg=(b:Int):=by omega
   have e1:decide ((b:Int)<(b:Int))=false:=decide_eq_false (by omega);have H1:=hid h;clear h;go_wp2_with fail;go_ret;exact⟨rfl,by have h9:=H1.out;rw[<- HN.out.1] at h9;exact h9⟩
theorem Zdq (hF:Z17 w0) (h:Hold w0 w (Z0a (.slice A p.length cp) p*R)) (hk:p[k]?=some i) (hp:ProgV p) (hf:inT p p.length=false) (hj:ProgJ p):Calls Tryz.prog 78 #[.slice A p.length cp,.int .i64 (k:Int),.int .i64 (bgAt p k)] w fun e w'=>e = .returned (.int .i64 0)/\Hold w0 w' (Z0a (.slice A p.length cp) p*R):=by
 have hi:=hp.ins k i hk;have hkl:=(List.getElem?_eq_some_iff.1 hk).1;have hl:=hp.len;have hS:=Zea hF hi h;have hI:isJ i.op=true->inT p k=false->∀w',Hold w0 w' (Z0a (.slice A p.length cp) p*R)->Hid (Calls Tryz.prog 133 #[.slice A p.length cp,.int .i64 (k:Int),.int .i64 ((k:Int)+1+i.imm)] w' fun e w'=>e = .returned (.bool false)/\Hold w0 w' (Z0a (.slice A p.length cp) p*R)):=fun h1 h2 w' h=>hid (Zil h hl hk (hj k i hk h1) hi.imm.1 hf h2);have hE:inT p k=true->∀w',Hold w0 w' (Z0a (.slice A p.length cp) p*R)->Hid (Calls Tryz.prog 132 #[.slice A p.length cp,.int .i64 (bgAt p k)] w' fun e w'=>e = .returned (.int .i64 (Z0h p (bgAt p k)))/\Hold w0 w' (Z0a (.slice A p.length cp) p*R)):=fun h1 w' h=>by
  have hb:=Z19 p k;have h0:=hb.2.2.1 h1;have:=Zdr (b:=(bgAt p k).toNat) h (by omega) hl;rw[show (((bgAt p k).toNat:Nat):Int)=bgAt p k by omega] at this;exact hid this
 have hC:isJ i.op=true->inT p k=true->(k:Int)+1+i.imm<=Z0h p (bgAt p k):=fun h1 h2=>((hj k i hk h1).commit hp hf hk h1 h2).1;have hL:isJ i.op=true->(k:Int)+1+i.imm<=p.length:=fun h1=>(hj k i hk h1).1;have hbs:=Z19 p k;have hb1:inT p k=true->0<=bgAt p k:=hbs.2.2.1;have hb2:inT p k=false->bgAt p k=-1:=hbs.2.2.2.1;have him:=hi.imm;obtain⟨gc,hA,hcap,-⟩:=h.codeAt hk;subst hA;obtain⟨q3,q4,q5,q6,q7⟩:=h.code hk;generalize inT p k=ib at hb1 hb2 hI hE hC;generalize bgAt p k=bg at hb1 hb2 hE hC |-;generalize isJ i.op=jb at hI hC hL hS;have HS:=hid hS;have H:=hid h;have HEE:=hid hE;have HII:=hid hI;obtain⟨n,hn⟩:∃n,n=p.length:=⟨_,rfl⟩;have HN:=hid hn;rw[<- hn] at hL hkl hcap HS H HEE HII hl |-;obtain⟨im,hm⟩:∃im,im=i.imm:=⟨_,rfl⟩;rw[<- hm] at hL hC him HS HII q7;obtain⟨op,hop⟩:∃op,op=i.op:=⟨_,rfl⟩;obtain⟨ra,hra⟩:∃ra,ra=i.a:=⟨_,rfl⟩;obtain⟨rb,hrb⟩:∃rb,rb=i.b:=⟨_,rfl⟩;obtain⟨rc,hrc⟩:∃rc,rc=i.c:=⟨_,rfl⟩;rw[<- hop] at q3;rw[<- hra] at q4;rw[<- hrb] at q5;rw[<- hrc] at q6;have HV:Hid (i.val = .agg #[.int .i64 op,.int .i64 ra,.int .i64 rb,.int .i64 rc,.int .i64 im]):=hid (by rw[hop,hra,hrb,hrc,hm]);rw[HV.out] at HS;clear hS h hE hI hn hm hop hra hrb hrc hk hi hp hj hbs;go_enter Tryz.func78,Tryz.ntmps78;go_wp2_with fail;refine HS.out.mono ?_;rintro e w2 ⟨rfl,h2⟩;clear HS q3 q4 q5 q6 q7 H
 cases jb with
 | false =>
  have H2:=hid h2;clear h2;go_wp2_with fail;go_ret;exact⟨rfl,H2.out⟩
 | true =>
  have l1:=hL rfl;have e1:decide ((n:Int)<(k:Int)+1+im)=false:=decide_eq_false (by omega);have e2:decide ((k:Int)+1+im > (n:Int))=false:=e1
  cases ib with
  | true =>
   have b0:=hb1 rfl;have c0:=hC rfl rfl;have HQ:=HEE.out rfl _ h2;clear h2 hb1 hb2 hC hL HEE HII;obtain⟨cm,hcm⟩:∃cm,cm=Z0h p bg:=⟨_,rfl⟩;rw[<- hcm] at HQ c0;clear hcm;have e3:decide (bg >= 0)=true:=decide_eq_true b0;have e4:decide (0<=bg)=true:=decide_eq_true b0;have e5:decide (cm<(k:Int)+1+im)=false:=decide_eq_false (by omega);have e6:decide (bg<0)=false:=decide_eq_false (by omega);go_wp2_with fail;refine HQ.out.mono ?_;rintro e w3 ⟨rfl,h3⟩;have H3:=hid h3;clear h3;go_wp2_with fail;go_ret;exact⟨rfl,H3.out⟩
  | false =>
   have b0:=hb2 rfl;subst b0;have HQ:=HII.out rfl rfl _ h2;clear h2 hb1 hb2 hC hL HEE HII;go_wp2_with fail;refine HQ.out.mono ?_;rintro e w3 ⟨rfl,h3⟩;have H3:=hid h3;clear h3;go_wp2_with fail;go_ret;exact⟨rfl,H3.out⟩
theorem Zk8 (hF:Z17 w0) (h:Hold w0 w (Z0a (.slice A p.length cp) p*R)) (hk:p[k]?=some i) (hp:ProgV p) (hf:inT p p.length=false) (hj:ProgJ p):Calls Tryz.prog 45 #[.slice A p.length cp,.int .i64 (k:Int),.int .i64 (bgAt p k)] w fun e w'=>e = .returned (.int .i64 0)/\Hold w0 w' (Z0a (.slice A p.length cp) p*R):=by
 have hi:=hp.ins k i hk;have hpl:=hp.plc k i hk;obtain⟨gc,hA,hcap,-⟩:=h.codeAt hk;subst hA;have hkl:k<p.length:=(List.getElem?_eq_some_iff.1 hk).1;obtain⟨q3,q4,q5,q6,q7⟩:=h.code hk;have HK:=hid hk;have HS:=hid (Z66 hF hi h);have HP:∀w',Hold w0 w' (Z0a (.slice (some ⟨gc,0,none⟩) p.length cp) p*R)->Hid (Calls Tryz.prog 77 #[i.val] w' fun e w'=>e = .returned (.int .i64 (plcG i.op))/\Hold w0 w' (Z0a (.slice (some ⟨gc,0,none⟩) p.length cp) p*R)):=fun w' h=>hid (Zeb hF hi h);have HT:∀w',Hold w0 w' (Z0a (.slice (some ⟨gc,0,none⟩) p.length cp) p*R)->Hid (Calls Tryz.prog 78 #[.slice (some ⟨gc,0,none⟩) p.length cp,.int .i64 (k:Int),.int .i64 (bgAt p k)] w' fun e w'=>e = .returned (.int .i64 0)/\Hold w0 w' (Z0a (.slice (some ⟨gc,0,none⟩) p.length cp) p*R)):=fun w' h=>hid (Zdq hF h hk hp hf hj);have hbs:=Z19 p k;have hb1:inT p k=true->0<=bgAt p k:=hbs.2.2.1;have hb2:inT p k=false->bgAt p k=-1:=hbs.2.2.2.1;generalize inT p k=ib at hb1 hb2 hpl;generalize bgAt p k=bg at hb1 hb2 HT |-;have hbb:decide (bg >= 0)=ib:=by
  cases ib with
  | true=>exact decide_eq_true (hb1 rfl)
  | false=>exact decide_eq_false (by rw[hb2 rfl];decide)
 have hbb':decide (0<=bg)=ib:=hbb;have HE : Hid ((i.op==7)=true/\(i.op==8)=false/\ib=false/\plcG i.op=2\/(i.op==7)=false/\(i.op==8)=true/\ib=true/\plcG i.op=1\/(i.op==7)=false/\(i.op==8)=false/\(plcG i.op==1)=false/\(plcG i.op==2)=false\/(i.op==7)=false/\(i.op==8)=false/\plcG i.op=1/\ib=true\/(i.op==7)=false/\(i.op==8)=false/\plcG i.op=2/\ib=false):=hid (by
  by_cases h7:i.op=7
  ·have h2:plcG i.op=2:=by unfold plcG;rw[if_pos (.inl h7)]
   exact .inl ⟨beq_iff_eq.2 h7,beq_eq_false_iff_ne.2 (by omega),hpl.2 h2,h2⟩
  ·by_cases h8:i.op=8
   ·have h2:plcG i.op=1:=by unfold plcG;rw[if_neg (by omega),if_pos (.inl h8)]
    exact .inr (.inl ⟨beq_eq_false_iff_ne.2 h7,beq_iff_eq.2 h8,hpl.1 h2,h2⟩)
   ·have e7:=beq_eq_false_iff_ne.2 h7
    have e8:=beq_eq_false_iff_ne.2 h8
    by_cases h1:plcG i.op=1
    ·exact .inr (.inr (.inr (.inl ⟨e7,e8,h1,hpl.1 h1⟩)))
    ·by_cases h2:plcG i.op=2
     ·exact .inr (.inr (.inr (.inr ⟨e7,e8,h2,hpl.2 h2⟩)))
     ·exact .inr (.inr (.inl ⟨e7,e8,beq_eq_false_iff_ne.2 h1,beq_eq_false_iff_ne.2 h2⟩)))
 clear h hk hi hp hpl hb1 hb2 hbs;go_enter Tryz.func45,Tryz.ntmps45;go_wp2_with fail;refine HS.out.mono ?_;rintro e w2 ⟨rfl,h2⟩;clear HS q3 q4 q5 q6 q7;have HPP:=HP _ h2;obtain⟨q3,q4,q5,q6,q7⟩:=h2.code HK.out;go_wp2_with fail;refine HPP.out.mono ?_;rintro e w3 ⟨rfl,h3⟩;clear h2 HPP q3 q4 q5 q6 q7 HP;have HTT:=HT _ h3;obtain⟨q3,q4,q5,q6,q7⟩:=h3.code HK.out;clear h3 HT;go_upto_region 6 with fail
 clear hbb hbb';obtain⟨op,hop⟩:∃op,op=i.op:=⟨_,rfl⟩;rw[<- hop] at q3 HE |-;generalize plcG op=pl at HE |-;clear hop HK q4 q5 q6 q7;rcases HE.out with⟨e7,e8,rfl,rfl⟩|⟨e7,e8,rfl,rfl⟩|⟨e7,e8,e1,e2⟩|⟨e7,e8,rfl,rfl⟩|⟨e7,e8,rfl,rfl⟩
 all_goals (try cases ib)
 all_goals (
  clear HE;go_wp2_with fail;refine HTT.out.mono ?_;rintro e w4 ⟨rfl,h4⟩;have H4:=hid h4;clear h4 HTT q3;go_wp2_with fail;go_ret;exact⟨rfl,H4.out⟩)
theorem Zdt (h:Hold w0 w (Z0a (.slice A p.length cp) p*R)) (hl:p.length<=64) (hfin:bgAt p p.length=-1) (hone:∀(w:World) (R:Asr) (k:Nat) (i:InsR) (gc cp:Nat),Hold w0 w (Z0a (.slice (some ⟨gc,0,none⟩) p.length cp) p*R)->p[k]?=some i->Calls Tryz.prog 45 #[.slice (some ⟨gc,0,none⟩) p.length cp,.int .i64 (k:Int),.int .i64 (bgAt p k)] w fun e w'=>e = .returned (.int .i64 0)/\Hold w0 w' (Z0a (.slice (some ⟨gc,0,none⟩) p.length cp) p*R)):Calls Tryz.prog 29 #[.slice A p.length cp] w fun e w'=>e = .returned (.tuple #[.int .i64 0,.int .i64 0])/\Hold w0 w' (Z0a (.slice A p.length cp) p*R):=by
 obtain⟨n,hn⟩:∃n,n=p.length:=⟨_,rfl⟩;have HO1:=hid hone;have HX:=hid (And.intro hl (And.intro hl (And.intro hn hfin)));have hA0:∀k i,p[k]?=some i->∃gc,A=some ⟨gc,0,none⟩:=fun k i hk=>by obtain⟨gc,hA,_⟩:=h.codeAt hk;exact⟨gc,hA⟩
 have HA0:=hid hA0;have e64:decide (64<(n:Int))=false:=decide_eq_false (by omega);have e64':decide (64<n)=false:=decide_eq_false (by omega);have H:=hid h;clear h hone hfin hA0;rw[<- hn] at hl H |-;clear hn;go_enter Tryz.func29,Tryz.ntmps29;go_wp2_with fail;go_loopw [4,13] (fun v4 i wr=>∃k:Nat,k<=n/\i = .int .i64 (k:Int)/\v4 = .int .i64 (bgAt p k)/\Hold w0 wr (Z0a (.slice A n cp) p*R)) (fun _ i _=>n - (intOf i).toNat)
 case atStart=>exact⟨0,Nat.zero_le _,rfl,rfl,H.out⟩
 case round =>
  clear H;obtain⟨k,hk,rfl,rfl,h⟩:=hrel
  by_cases hlt:k<n
  ·have e1:decide ((k:Int)<(n:Int))=true:=decide_eq_true (by omega)
   have e1':decide (k<n)=true:=decide_eq_true hlt;have hkl:k<p.length:=by rw[<- HX.out.2.2.1];exact hlt
   obtain⟨i,hi⟩:∃i,p[k]?=some i:=⟨_,List.getElem?_eq_getElem hkl⟩;obtain⟨gc,hA⟩:=HA0.out k i hi;subst hA;have h':Hold w0 wr (Z0a (.slice (some ⟨gc,0,none⟩) p.length cp) p*R):=by rw[HX.out.2.2.1] at h;exact h
   obtain⟨-,-,hcap,-⟩:=h'.codeAt hi;obtain⟨q3,q4,q5,q6,q7⟩:=h'.code hi;rw[<- HX.out.2.2.1] at hcap;have hbs:=Z3a hi;have HI:=hid (And.intro hi hbs);have H1:=hid (h.newBlk (t:=28) (cs:=#[.int .i64 i.op,.int .i64 i.a,.int .i64 i.b,.int .i64 i.c,.int .i64 i.imm]));clear h h' hi hbs hkl;go_upto_region 7 with fail
   have h1:=H1.out;generalize hW:World.alloc _ _=W at h1 |-;generalize wr.heap.size=gi at h1 |-;clear hW H1 q3 q4 q5 q6 q7;have HO:Hid (Calls Tryz.prog 45 #[.slice (some ⟨gc,0,none⟩) n cp,.int .i64 (k:Int),.int .i64 (bgAt p k)] W fun e w'=>e = .returned (.int .i64 0)/\Hold w0 w' (Z0a (.slice (some ⟨gc,0,none⟩) n cp) p*(blkA 28 gi #[.int .i64 i.op,.int .i64 i.a,.int .i64 i.b,.int .i64 i.c,.int .i64 i.imm]*R))):=hid (by
    have h2:=h1.swap;rw[HX.out.2.2.1] at h2 |-;exact HO1.out _ _ _ _ _ _ h2 HI.out.1)
   obtain⟨bg,hbg⟩:∃bg,bg=bgAt p k:=⟨_,rfl⟩;have HBG:=hid hbg;rw[<- hbg] at HO |-;clear h1 hbg;go_wp2_with fail;refine HO.out.mono ?_;rintro e w4 ⟨rfl,h4⟩;have p0:w4.cell? ⟨gi,0,none⟩=some (.int .i64 i.op):=h4.swap.blk.some_ (i:=0) rfl;have H4:=hid (h4.swap.drop);clear h4 HO;obtain⟨op,hop⟩:∃op,op=i.op:=⟨_,rfl⟩;rw[<- hop] at p0;have HOP:=hid hop;clear hop
   by_cases h7:op=7
   ·subst h7
    go_wp2_with fail;go_roundw
    case rel=>exact⟨k+1,by omega,by go_num,by rw[HI.out.2,if_pos HOP.out.symm],H4.out⟩
    case measure=>simp[intOf];omega
   ·have e7:(op==7)=false:=beq_eq_false_iff_ne.2 h7
    by_cases h8:op=8
    ·subst h8
     go_wp2_with fail;go_roundw
     case rel=>exact⟨k+1,by omega,by go_num,by rw[HI.out.2,<- HOP.out];rfl,H4.out⟩
     case measure=>simp[intOf];omega
    ·have e8:(op==8)=false:=beq_eq_false_iff_ne.2 h8
     have H78:=hid (And.intro h7 h8);clear h7 h8;go_wp2_with fail;go_roundw
     case rel=>exact⟨k+1,by omega,by go_num,by rw[HI.out.2,<- HOP.out,if_neg H78.out.1,if_neg H78.out.2,HBG.out],H4.out⟩
     case measure=>simp[intOf];omega
  ·obtain rfl:k=n:=by omega
   have e1:decide ((k:Int)<(k:Int))=false:=decide_eq_false (by omega);have hb:bgAt p k=-1:=by have:=HX.out.2.2.2;rw[<- HX.out.2.2.1] at this;exact this
   rw[hb];have H5:=hid h;clear h hb;go_wp2_with fail
   go_ret2
   exact⟨rfl,H5.out⟩
theorem Zbm (hF:Z17 w0) (h:Hold w0 w (Z0a (.slice A p.length cp) p*R)) (hp:ProgV p) (hf:inT p p.length=false) (hj:ProgJ p):Calls Tryz.prog 29 #[.slice A p.length cp] w fun e w'=>e = .returned (.tuple #[.int .i64 0,.int .i64 0])/\Hold w0 w' (Z0a (.slice A p.length cp) p*R):=Zdt h hp.len ((Z19 p p.length).2.2.2.1 hf) (fun _ _ _ _ _ _ h hk=>Zk8 hF h hk hp hf hj)
theorem Zg2 (hF:Z17 w0) (h:Hold w0 w (Z0a (.slice A p.length cp) p*R)) (hp:ProgV p) (hf:inT p p.length=false) (hj:ProgJ p):Calls Tryz.prog 215 #[.slice A p.length cp] w fun e w'=>e = .returned (.bool true)/\Hold w0 w' (Z0a (.slice A p.length cp) p*R):=by
 have HC:=hid (Zbm hF h hp hf hj);clear h hp hF hf hj;go_enter Tryz.func215,Tryz.ntmps215;go_wp2_with fail;refine HC.out.mono ?_;rintro e w2 ⟨rfl,h2⟩;have H2:=hid h2;clear h2 HC;go_wp2_with fail;go_ret;exact⟨rfl,H2.out⟩
theorem Zds {b:Nat} (hF:Z17 w0) (h:Hold w0 w (Z0a (.slice A p.length cp) p*R)) (hp:ProgV p) (hf:inT p p.length=false) (hj:ProgJ p) (hi:p[b]?=some i) (h7:i.op=7):Calls Tryz.prog 181 #[.slice A p.length cp,.int .i64 (b:Int)] w fun e w'=>e = .returned (.int .i64 (Z0h p (b:Int)))/\Hold w0 w' (Z0a (.slice A p.length cp) p*R):=by
 have hb:=(List.getElem?_eq_some_iff.1 hi).1;obtain⟨gc,hA,hcap,-⟩:=h.codeAt hi;subst hA;have HV:=hid (Zg2 hF h hp hf hj);have HI:=hid (And.intro hi h7);have HE:∀w',Hold w0 w' (Z0a (.slice (some ⟨gc,0,none⟩) p.length cp) p*R)->Hid (Calls Tryz.prog 132 #[.slice (some ⟨gc,0,none⟩) p.length cp,.int .i64 (b:Int)] w' fun e w'=>e = .returned (.int .i64 (Z0h p (b:Int)))/\Hold w0 w' (Z0a (.slice (some ⟨gc,0,none⟩) p.length cp) p*R)):=fun w' h=>hid (Zdr h hb hp.len);have e0:decide ((b:Int)<0)=false:=decide_eq_false (by omega);have e1:decide ((b:Int) >= (p.length:Int))=false:=decide_eq_false (by omega);have e1':decide ((p.length:Int)<=(b:Int))=false:=decide_eq_false (by omega);have e1'':decide (p.length<=b)=false:=decide_eq_false (by omega);clear h hi h7 hp hF hf hj;go_enter Tryz.func181,Tryz.ntmps181;go_wp2_with fail;refine HV.out.mono ?_;rintro e w2 ⟨rfl,h2⟩;obtain⟨q3,q4,q5,q6,q7⟩:=h2.code HI.out.1;rw[HI.out.2] at q3;have HEE:=HE _ h2;clear h2 HV q4 q5 q6 q7 HE;go_wp2_with fail;refine HEE.out.mono ?_;rintro e w3 ⟨rfl,h3⟩;have H3:=hid h3;clear h3 HEE q3;go_wp2_with fail;go_ret;exact⟨rfl,H3.out⟩
end
structure PgOk (w0:World) (p:List InsR):Prop where
 len:p.length<=64
 chk:∀{w:World} {R:Asr} {A:Option Addr} {cp:Nat},Hold w0 w (Z0a (.slice A p.length cp) p*R)->Calls Tryz.prog 29 #[.slice A p.length cp] w fun e w'=>e = .returned (.tuple #[.int .i64 0,.int .i64 0])/\Hold w0 w' (Z0a (.slice A p.length cp) p*R)
theorem PgOk.of {w0:World} {p:List InsR} (hF:Z17 w0) (hp:ProgV p) (hf:inT p p.length=false) (hj:ProgJ p):PgOk w0 p:=⟨hp.len,fun h=>Zbm hF h hp hf hj⟩
section
variable {w0 w:World} {R R':Asr} {t g n nc cp k kd:Nat} {c:Cfg} {x:ThR} {y:AtR} {i:InsR} {A:Option Addr} {us:List Value}
theorem Zce {P:Ending->World->Prop} (h:Hold w0 w (thA t c x*(atA g c y*R))) (ha:x.attempt=ptrV g) (hs:y.state=2) (hst:x.strong=false)
  (he:∀w',Hold w0 w' (thA t c x*(atA g c y*R))->Calls Tryz.prog 104 #[ptrV t] w' fun e w''=>e = .returned (.tuple #[])/\P e w'') :
  Calls Tryz.prog 61 #[ptrV t,i.val] w P:=by
 have H1:=hid (h.newBlk (t:=28) (cs:=i.cells));have HX:=hid (And.intro ha (And.intro hs hst));have HE:=hid he;clear h ha hs hst he;go_enter Tryz.func61,Tryz.ntmps61;go_upto_region 7 with fail
 have h1:=H1.out;generalize hW:w.alloc _=W at h1 |-;generalize w.heap.size=gi at h1 |-;clear hW H1;have h2:=h1.drop;have q:=h2.Zlw;rw[HX.out.1] at q;have q2:=h2.th_strong;rw[HX.out.2.2] at q2;have hst:=Z1w h2.swap;rw[HX.out.2.1] at hst;have HS:=hid hst;have HN:=hid (HE.out _ h2);clear h1 h2 hst;go_wp2_with fail;refine HS.out.mono ?_;rintro e w' ⟨rfl,rfl⟩;go_wp2_with fail;refine HS.out.mono ?_;rintro e w' ⟨rfl,rfl⟩;go_wp2_with fail;refine HN.out.mono ?_;rintro e w' ⟨rfl,h3⟩;have H4:=hid h3;clear h3 HN HS q q2;go_wp2_with fail;refine bodyPost_end (results_none rfl _ _ _) rfl ?_;exact H4.out
theorem Zd9 {P:Ending->World->Prop} (h:Hold w0 w (thA t c x*(atA g c y*R))) (ha:x.attempt=ptrV g) (hs:y.state=2) (hst:x.strong=true)
  (he:∀w',Hold w0 w' (thA t c x*(atA g c y*R))->Calls Tryz.prog 103 #[ptrV t,i.val] w' fun e w''=>e = .returned (.tuple #[])/\P e w'') :
  Calls Tryz.prog 61 #[ptrV t,i.val] w P:=by
 have H1:=hid (h.newBlk (t:=28) (cs:=i.cells));have HX:=hid (And.intro ha (And.intro hs hst));have HE:=hid he;clear h ha hs hst he;go_enter Tryz.func61,Tryz.ntmps61;go_upto_region 7 with fail
 have h1:=H1.out;generalize hW:w.alloc _=W at h1 |-;generalize w.heap.size=gi at h1 |-;clear hW H1;have h2:=h1.drop;have q:=h2.Zlw;rw[HX.out.1] at q;have q2:=h2.th_strong;rw[HX.out.2.2] at q2;have hst:=Z1w h2.swap;rw[HX.out.2.1] at hst;have HS:=hid hst;have HN:=hid (HE.out _ h2);have HB:=hid h1.blk;clear h1 h2 hst;go_wp2_with fail;refine HS.out.mono ?_;rintro e w' ⟨rfl,rfl⟩;go_wp2_with (refine Z03 rfl 28 _ rfl gi _ i.cells rfl Tryz.isAgg28 5 (fun w=>by kernel_rfl) HB.out rfl ?_);refine HN.out.mono ?_;rintro e w' ⟨rfl,h3⟩;have H4:=hid h3;clear h3 HN HS q q2 HB;go_wp2_with fail;refine bodyPost_end (results_none rfl _ _ _) rfl ?_;exact H4.out
theorem Zd8 (h:Hold w0 w (thA t c x*(atA g c y*R))) (ha:x.attempt=ptrV g) (hs:y.state=1) (hst:x.strong=true) :
  Calls Tryz.prog 61 #[ptrV t,i.val] w fun e w'=>e = .returned (.tuple #[])/\Hold w0 w' (thA t c x*(atA g c y*R)):=by
 have H1:=hid (h.newBlk (t:=28) (cs:=i.cells));have HX:=hid (And.intro ha (And.intro hs hst));clear h ha hs hst;go_enter Tryz.func61,Tryz.ntmps61;go_upto_region 7 with fail
 have h1:=H1.out;generalize hW:w.alloc _=W at h1 |-;generalize w.heap.size=gi at h1 |-;clear hW H1;have h2:=h1.drop;have q:=h2.Zlw;rw[HX.out.1] at q;have q2:=h2.th_strong;rw[HX.out.2.2] at q2;have hst:=Z1w h2.swap;rw[HX.out.2.1] at hst;have HS:=hid hst;have HN:=hid h2;clear h1 h2 hst;go_wp2_with fail;refine HS.out.mono ?_;rintro e w' ⟨rfl,rfl⟩;go_wp2_with fail;refine HS.out.mono ?_;rintro e w' ⟨rfl,rfl⟩;go_wp2_with fail;refine bodyPost_end (results_none rfl _ _ _) rfl ?_;exact⟨rfl,HN.out⟩
theorem Z8m {r:Nat} (h:Hold w0 w (thA t c x*(atA g c y*(rowS 55 3 x.seen n us*R)))) (ha:x.attempt=ptrV g) (hs:y.state=1) (hst:x.strong=false) (hc:x.code = .slice A nc cp) (h0:0<=x.pc/\x.pc<=1000000) (h1:i.op=14) (hr:i.a=(r:Int)) (hr8:r<8) (hn:n<=1000) :
  Calls Tryz.prog 61 #[ptrV t,i.val] w fun e w'=>∃A' c',e = .returned (.tuple #[])/\Hold w0 w' (thA t c {x with regs:=upR x.regs r y.value,seen:=.slice A' (n+1) c',pc:=x.pc+1,done:=x.pc+1==(nc:Int)}*(atA g c y*(rowS 55 3 (.slice A' (n+1) c') (n+1) (us++[.int .i64 x.pc,.int .i64 2,.int .u64 y.value])*R))):=by
 have H1:=hid (h.newBlk (t:=28) (cs:=i.cells));have HX:=hid (And.intro ha (And.intro hs (And.intro hst hc)));have HI:=hid (And.intro h1 hr);clear h ha hs hst hc h1 hr;go_enter Tryz.func61,Tryz.ntmps61;go_upto_region 7 with fail
 have h1:=H1.out;generalize hW:w.alloc _=W at h1 |-;generalize w.heap.size=gi at h1 |-;clear hW H1;have h2:=h1.pk4 [1,2,3,0];have q:=h2.Zlw;rw[HX.out.1] at q;have q2:=h2.th_strong;rw[HX.out.2.2.1] at q2;have q0:=(h2.pk4 [3]).blk.some_ (i:=0) (u:=.int .i64 i.op) rfl;rw[HI.out.1] at q0;have q1:=(h2.pk4 [3]).blk.some_ (i:=1) (u:=.int .i64 i.a) rfl;rw[HI.out.2] at q1;have hst:=Z1w h2.swap;rw[HX.out.2.1] at hst;have HS:=hid hst;have HG:=hid (Zhd (kd:=2) (r:=r) h2 HX.out.1 hr8 hn);clear h1 h2 hst;go_wp2_with fail;refine HS.out.mono ?_;rintro e w' ⟨rfl,rfl⟩;go_wp2_with fail;refine HS.out.mono ?_;rintro e w' ⟨rfl,rfl⟩;go_wp2_with fail;refine HG.out.mono ?_;rintro e w3 ⟨A',c',rfl,h3⟩;have HN:=hid (Z28 (n:=nc) h3 HX.out.2.2.2 h0);clear h3 HG HS q q2 q0 q1;go_wp2_with fail;refine HN.out.mono ?_;rintro e w' ⟨rfl,h4⟩;have H4:=hid (h4.pk4 [0,1,2]);clear h4 HN;go_wp2_with fail
 go_end0
 exact⟨A',c',rfl,H4.out⟩
end
theorem Z53 {P:Program} {w:World} {fn:Func} {x y z:Tmp} {T:TypeId} (h:fn.results=#[.cell x T,.tmp y,.tmp z]) (tmps:Array Value) {g:Nat} {t:TypeId} {cs:Array Value} (hx:tmps.getD x undef = .pointer (some ⟨g,0,none⟩))
  (hA:∀w,(isAgg T).run P w = .ok true w) (n:Nat) (hs:∀w,(sizeOf T).run P w = .ok n w) (hb:Blk w g t cs) (hn:cs.size=n):(results fn tmps).run P w = .ok (.tuple #[.agg cs,tmps.getD y undef,tmps.getD z undef]) w:=by
 subst hn;have hl:(loadCells ⟨g,0,none⟩ cs.toList.length).run P w = .ok cs.toList.toArray w:=by
  refine run_loadCells_list w _ _ fun j v hj=>?_;rw[Z23];refine hb.some_ ?_;rw[<- hj];simp
 have hl2:(loadCells ⟨g,0,none⟩ cs.size).run P w = .ok cs w:=by simpa using hl
 unfold results;rw[h];rw[Array.getD_eq_getD_getElem?] at hx;simp[hx,asAddr,loadVar,hA,hs,hl2,Result.andThen,Sem.run_bind]
section
variable {w0 w:World} {R R':Asr} {t g n cp k:Nat} {c:Cfg} {x:ThR} {p:List InsR} {i:InsR} {A:Option Addr} {a:Acc} {ph att:Int} {m:Value}
theorem Z8k (h:Hold w0 w (thA t c x*R)) (hd:x.done=true):Calls Tryz.prog 19 #[ptrV t,m] w fun e w'=>e = .returned (.tuple #[stV 0 0 0 acc0,.slice none 0 0,.bool false])/\Hold w0 w' (thA t c x*R):=by
 have H1:=hid (h.newBlk (t:=52) (cs:=#[.int .i64 0,.int .i64 0,.int .i64 0,.int .i64 0,.int .i64 0,.int .i64 0,.int .u64 0,.int .u64 0,.bool false]));have HX:=hid hd;clear h hd;go_enter Tryz.func19,Tryz.ntmps19;go_upto_region 1 with fail
 have h1:=H1.out;generalize hW:w.alloc _=W at h1 |-;generalize w.heap.size=gr at h1 |-;clear hW H1;have q:=h1.drop.th_done;rw[HX.out] at q;go_wp2_with (refine Z00 rfl 52 _ _ rfl gr _ _ (stC 0 0 0 acc0) rfl rfl _ Tryz.sizeOf52 h1 rfl rfl rfl ?_;intro w7 h11);exact bodyPost_ret (Z53 Tryz.results19 _ rfl Tryz.isAgg52 _ Tryz.sizeOf52 h11.blk rfl) rfl ⟨rfl,h11.drop⟩
end
theorem Z56 {t:TypeId} {g n:Nat} {F:Nat->Value} {cs:Array Value} (h:((List.range n).map F).toArray=cs):fnA t g n F=blkA t g cs:=by unfold fnA;rw[h]
abbrev stB (att:Int):Nat->Value:=stF 0 0 att acc0
section
variable {w0 w:World} {R R':Asr} {t g n cp k:Nat} {c:Cfg} {x:ThR} {p:List InsR} {i:InsR} {A:Option Addr} {a:Acc} {ph att:Int} {m:Value}
end
theorem Hold.oneEv {w0 w:World} {R:Asr} {v:Value} {e:EvR} (h:Hold w0 w (rowT 87 6 v 1 e.cells*(queA 3 e.rd (e.rs.map (Value.int .i64))*(queA 3 e.wr (e.ws.map (Value.int .i64))*R)))):Hold w0 w (evA v [e]*R):=by
 have h1:=h.imp (Imp.under _ ((Imp.assoc' _ _ _).trans (((Imp.under _ (Imp.Zlv _))).trans (Imp.assoc' _ _ _))));have h2:=h1.join;have e1:[e].flatMap EvR.cells=e.cells:=by simp
 unfold evA;rw[e1];exact h2
section
variable {w0 w:World} {R R':Asr} {t g n cp k:Nat} {c:Cfg} {x:ThR} {p:List InsR} {i:InsR} {A:Option Addr} {a:Acc} {ph att:Int} {m:Value}
end
def AdZ (w0:World) (t:Nat) (c:Cfg) (F:Asr) (Q:Int->ThR->Asr->Prop) (e:Ending) (w':World):Prop:=∃ph att a v l X Y,Q ph X Y/\e = .returned (.tuple #[stV 0 ph att a,v])/\List.length l<=1/\Hold w0 w' (evA v l*(thA t c X*(F*Y)))
section
variable {w0 w:World} {R F:Asr} {t g m s n cp k:Nat} {c:Cfg} {sg:Bool} {x:ThR} {p:List InsR} {i:InsR} {A:Option Addr} {P:AP}
theorem Zda {Q:Int->ThR->Asr->Prop} (hc:CfA c) (hs:s<=900) (h:Hold w0 w (F*(thA t c x*(aS g m c sg s P*(Z0a (.slice A p.length cp) p*R))))) (ha:x.attempt=ptrV g) (hcd:x.code = .slice A p.length cp) (hpc:x.pc=(k:Int)) (hi:p[k]?=some i) (hb:bzA P=true) (hg:gdA P=true)
  (hbusy:∀ph P',NxA P ph P'->bzA P'=true->Q ph x (aS g m c sg (s+1) P'*(Z0a (.slice A p.length cp) p*R)))
  (hans:∀ph P' G w',NxA P ph P'->bzA P'=false->Hold w0 w' (G*(thA t c x*(aS g m c sg (s+1) P'*(Z0a (.slice A p.length cp) p*(F*R)))))->Calls Tryz.prog 61 #[ptrV t,i.val] w' fun e w''=>e = .returned (.tuple #[])/\∃X Y,Q ph X Y/\Hold w0 w'' (G*(thA t c X*(F*Y)))) :
  Calls Tryz.prog 37 #[ptrV t,ptrV m] w (AdZ w0 t c F Q):=by
 have HX:=hid ha;have HC:=hid (And.intro hcd (And.intro hpc hi));have HB:=hid hbusy;have HN:=hid hans;have HG:=hid (And.intro hc (And.intro hs (And.intro hb hg)));have H1:=hid ((h.pk4 [1,2,3,0]).newBlk (t:=52) (cs:=#[.int .i64 0,.int .i64 0,.int .i64 0,.int .i64 0,.int .i64 0,.int .i64 0,.int .u64 0,.int .u64 0,.bool false]));clear h ha hcd hpc hi hbusy hans hc hs hb hg;go_enter Tryz.func37,Tryz.ntmps37;go_upto_region 1 with fail
 have h1:=H1.out;generalize hW:w.alloc _=W at h1 |-;generalize w.heap.size=gr at h1 |-;clear hW H1;have q1:=h1.drop.th_count;have q2:=h1.drop.Zlw;rw[HX.out] at q2;have H2:=hid (h1.newBlk (t:=52) (cs:=#[.int .i64 0,.int .i64 0,.int .i64 x.count,.int .i64 0,.int .i64 0,.int .i64 0,.int .u64 0,.int .u64 0,.bool false]));clear h1;go_upto_region 2 with fail
 have h2:=H2.out;generalize hW:W.alloc _=W2 at h2 |-;generalize W.heap.size=gs at h2 |-;clear hW H2 q1 q2;have q2:=h2.drop.drop.Zlw;rw[HX.out] at q2;have HS2:=hid (Zjn HG.out.1 HG.out.2.1 HG.out.2.2.1 HG.out.2.2.2 (h2.pk4 [3,0,1,2]));clear h2;go_wp2_with fail;refine HS2.out.mono ?_;rintro e w3 ⟨a,ph,P',hnx,rfl,h3⟩;have h4:Hold w0 w3 (fnA 52 gs 9 (stB x.count)*(blkA 52 gr #[.int .i64 0,.int .i64 0,.int .i64 0,.int .i64 0,.int .i64 0,.int .i64 0,.int .u64 0,.int .u64 0,.bool false]*(thA t c x*(aS g m c sg (s+1) P'*(Z0a (.slice A p.length cp) p*(F*R)))))):=by
  rw[Z56 (cs:=#[.int .i64 0,.int .i64 0,.int .i64 x.count,.int .i64 0,.int .i64 0,.int .i64 0,.int .u64 0,.int .u64 0,.bool false]) (by kernel_rfl)];exact h3.pk4 [1,2,3,0]
 have HNX:=hid hnx;clear h3 HS2 q2 hnx;go_upto_region 3 with(refine Z0q rfl 50 _ _ rfl gs 3 52 9 (stB x.count) (acD a) rfl rfl _ Tryz.sizeOf50 h4 rfl (by decide) rfl ?_;intro w5 h5;have qs:w5.cell? ⟨gs,1,none⟩=some (.int .i64 0):=Z0g h5 (by decide);have zs:=Z22 h5 1)
 have h6:Hold w0 (w5.setCell ⟨gs,1,none⟩ (.int .i64 ph)) (blkA 52 gs (stC 0 ph x.count a)*(blkA 52 gr #[.int .i64 0,.int .i64 0,.int .i64 0,.int .i64 0,.int .i64 0,.int .i64 0,.int .u64 0,.int .u64 0,.bool false]*(thA t c x*(aS g m c sg (s+1) P'*(Z0a (.slice A p.length cp) p*(F*R)))))):=by
  have h7:=Z0p h5 (i:=1) (by decide) (.int .i64 ph);rw[Z56 (cs:=stC 0 ph x.count a) (by kernel_rfl)] at h7;exact h7
 generalize hW:World.setCell _ _ _=W6 at h6 |-;clear hW h4 h5 qs zs;go_upto_block 0 with fail
 go_cut [7] (fun v wx=>∃(Av:Option Addr) (nv cv:Nat) (l:List EvR),v = .slice Av nv cv/\l.length<=1/\Hold w0 wx (evA (.slice Av nv cv) l*(blkA 52 gs (stC 0 ph x.count a)*(blkA 52 gr #[.int .i64 0,.int .i64 0,.int .i64 0,.int .i64 0,.int .i64 0,.int .i64 0,.int .u64 0,.int .u64 0,.bool false]*(thA t c x*(aS g m c sg (s+1) P'*(Z0a (.slice A p.length cp) p*(F*R))))))))
 case first =>
  have p1:=(h6.blk).some_ (i:=1) rfl
  by_cases hp3:ph=3
  ·subst hp3
   have q5:=(h6.drop.drop).th_id;have H7:=hid (h6.newRowS (e:=87) (size:=6) (cs:=#[.int .i64 0,.int .i64 x.id,.int .i64 3,.int .i64 0,.slice none 0 0,.slice none 0 0]) rfl);clear h6;go_wp2_with fail;go_meet;refine⟨_,_,_,[EvR.mk 0 x.id 3 0 (.slice none 0 0) (.slice none 0 0) [] [] EvR.none_],rfl,Nat.le_refl 1,?_⟩;exact(((H7.out.nilQue 3).nilQue 3).third).oneEv
  ·have e3:(ph==3)=false:=beq_eq_false_iff_ne.2 hp3
   clear hp3
   by_cases hp16:ph=16
   ·subst hp16
    clear e3;have q2:=(h6.drop.drop).Zlw;rw[HX.out] at q2;obtain⟨bd,hd⟩:=Z72 (h6.pk4 [3,0,1,2]);have HD:=hid hd;clear hd
    cases bd with
    | false =>
     have H6:=hid h6;clear h6;go_wp2_with (refine HD.out.mono ?_;rintro e w' ⟨rfl,rfl⟩);go_meet;exact⟨_,_,_,[],rfl,Nat.zero_le _,H6.out.nilEv⟩
    | true =>
     have q5:=(h6.drop.drop).th_id;go_upto_region 8 with(refine HD.out.mono ?_;rintro e w' ⟨rfl,rfl⟩)
     clear HD p1;have h8:=h6.newBlk (t:=87) (cs:=#[.int .i64 0,.int .i64 x.id,.int .i64 4,.int .i64 0,.slice none 0 0,.slice none 0 0]);generalize hW:W6.alloc _=W7 at h8 |-;generalize W6.heap.size=ge at h8 |-;clear hW h6 q5;have HW:=hid (Zha (s:=s+1) (by have:=HG.out.2.1;omega) (h8.pk5 [4,0,1,2,3]));clear q2;have q2:=(h8.pk4 [3]).Zlw;rw[HX.out] at q2;clear h8;go_wp2_with fail;refine HW.out.mono ?_;rintro e w8 ⟨A2,ns,c2,A3,c3,sn,ws,h32,rfl,hns,h9⟩;clear HW q2;have h10:Hold w0 w8 (blkA 87 ge #[.int .i64 0,.int .i64 x.id,.int .i64 4,.int .i64 0,.slice none 0 0,.slice none 0 0]*(queA 3 (.slice A2 ns c2) (iL sn)*(queA 3 (.slice A3 ws.length c3) (iL ws)*(blkA 52 gs (stC 0 16 x.count a)*(blkA 52 gr #[.int .i64 0,.int .i64 0,.int .i64 0,.int .i64 0,.int .i64 0,.int .i64 0,.int .u64 0,.int .u64 0,.bool false]*(thA t c x*(aS g m c sg (s+1) P'*(Z0a (.slice A p.length cp) p*(F*R))))))))):=h9.pk7 [3,0,1,4,5,6,2];clear h9;have HEB:Hid (sn.length<=1000000/\ws.length<=1000000):=hid (by
      obtain⟨hn1,hn2⟩:=hns;exact⟨by omega,by omega⟩)
     have HWS:=hid h32;clear h32 hns;obtain⟨wn,hwn⟩:∃wn,wn=ws.length:=⟨_,rfl⟩;rw[<- hwn] at h10 |-;have HWN:=hid hwn;clear hwn;have p4:=h10.blk.some_ (i:=4) rfl;have p5:=h10.blk.some_ (i:=5) rfl;have z4:=h10.blk.frozen 4;have z5:=h10.blk.frozen 5;have H11:=hid ((h10.Zlp 4 (.slice A2 ns c2)).Zlp 5 (.slice A3 wn c3));clear h10;go_upto_region 9 with fail
     have h11:=H11.out;generalize hW:World.setCell _ _ _=W9 at h11 |-;clear hW H11 p4 p5 z4 z5;replace h11:Hold w0 W9 (blkA 87 ge #[.int .i64 0,.int .i64 x.id,.int .i64 4,.int .i64 0,.slice A2 ns c2,.slice A3 wn c3]*(queA 3 (.slice A2 ns c2) (iL sn)*(queA 3 (.slice A3 wn c3) (iL ws)*(blkA 52 gs (stC 0 16 x.count a)*(blkA 52 gr #[.int .i64 0,.int .i64 0,.int .i64 0,.int .i64 0,.int .i64 0,.int .i64 0,.int .u64 0,.int .u64 0,.bool false]*(thA t c x*(aS g m c sg (s+1) P'*(Z0a (.slice A p.length cp) p*(F*R))))))))):=h11;have q2:=(h11.pk6 [5]).Zlw;rw[HX.out] at q2;obtain⟨cd,hcd⟩:=Zjo (h11.pk7 [6,0,1,2,3,4,5]);have HCD:=hid hcd;clear hcd
     by_cases hc1:cd=1
     ·subst hc1
      go_upto_region 11 with(refine HCD.out.mono ?_;rintro e w' ⟨rfl,rfl⟩);have hbl:=h11.blk;clear HCD q2;have H12:=hid (h11.drop.newRowS (e:=87) (size:=6) (cs:=#[.int .i64 0,.int .i64 x.id,.int .i64 4,.int .i64 0,.slice A2 ns c2,.slice A3 wn c3]) rfl);clear h11;go_wp2_with (refine Z03 rfl 87 _ rfl ge _ _ rfl Tryz.isAgg87 _ Tryz.sizeOf87 hbl rfl ?_);go_meet;refine⟨_,_,_,[EvR.mk 0 x.id 4 0 (.slice A2 ns c2) (.slice A3 wn c3) sn ws HEB.out],rfl,Nat.le_refl 1,?_⟩;exact H12.out.oneEv
     ·have ec:(cd != 1)=true:=bne_iff_ne.2 hc1
      clear hc1;have p5:=h11.blk.some_ (i:=5) rfl;have z5:=h11.blk.frozen 5;have H13:=hid (h11.Zlp 5 (.slice none 0 0));clear h11;go_upto_region 11 with(refine HCD.out.mono ?_;rintro e w' ⟨rfl,rfl⟩)
      have h11:=H13.out;generalize hW:World.setCell _ _ _=Wa at h11 |-;clear hW H13 p5 z5 HCD q2 ec;replace h11:Hold w0 Wa (blkA 87 ge #[.int .i64 0,.int .i64 x.id,.int .i64 4,.int .i64 0,.slice A2 ns c2,.slice none 0 0]*(queA 3 (.slice A2 ns c2) (iL sn)*(queA 3 (.slice A3 wn c3) (iL ws)*(blkA 52 gs (stC 0 16 x.count a)*(blkA 52 gr #[.int .i64 0,.int .i64 0,.int .i64 0,.int .i64 0,.int .i64 0,.int .i64 0,.int .u64 0,.int .u64 0,.bool false]*(thA t c x*(aS g m c sg (s+1) P'*(Z0a (.slice A p.length cp) p*(F*R))))))))):=h11;have hbl:=h11.blk;have H12:=hid ((h11.drop.newRowS (e:=87) (size:=6) (cs:=#[.int .i64 0,.int .i64 x.id,.int .i64 4,.int .i64 0,.slice A2 ns c2,.slice none 0 0]) rfl).nilQue 3);clear h11;go_wp2_with (refine Z03 rfl 87 _ rfl ge _ _ rfl Tryz.isAgg87 _ Tryz.sizeOf87 hbl rfl ?_);go_meet;refine⟨_,_,_,[EvR.mk 0 x.id 4 0 (.slice A2 ns c2) (.slice none 0 0) sn [] ⟨HEB.out.1,Nat.zero_le _⟩],rfl,Nat.le_refl 1,?_⟩;exact Hold.oneEv (H12.out.pk9 [1,2,0,4,5,6,7,8])
   ·have e16:(ph==16)=false:=beq_eq_false_iff_ne.2 hp16
    have H6:=hid h6;have q2:=(h6.drop.drop).Zlw;rw[HX.out] at q2;obtain⟨bd,hd⟩:=Z72 (h6.pk4 [3,0,1,2]);have HD:=hid hd;clear hp16 h6 hd;go_wp2_with (refine HD.out.mono ?_;rintro e w' ⟨rfl,rfl⟩);go_meet;exact⟨_,_,_,[],rfl,Nat.zero_le _,H6.out.nilEv⟩
 case rest =>
 clear h6
 rename World=>w6
 obtain⟨Av,nv,cv,l,rfl,hl,h7⟩:=hcut;have HL:=hid hl;have q2:=(h7.pk4 [3]).Zlw;rw[HX.out] at q2;have HBB:=hid (Z6i (h7.pk5 [4,0,1,2,3]));clear hl
 cases hbz:bzA P' with
 | true =>
  rw[hbz] at HBB;have HBZ:=hid hbz;clear hbz;go_upto_region 14 with(refine HBB.out.mono ?_;rintro e w' ⟨rfl,rfl⟩)
  clear HBB q2;have h8:=h7.pk3 [1,2,0];clear h7;go_wp2_with (first|(refine Z03 rfl 52 _ rfl gs _ _ rfl Tryz.isAgg52 _ Tryz.sizeOf52 h8.blk rfl ?_)|(refine Z00 rfl 52 _ _ rfl gr _ _ (stC 0 ph x.count a) rfl rfl _ Tryz.sizeOf52 h8.drop rfl rfl rfl ?_;intro w7 h11));have HF:Hid (AdZ w0 t c F Q (.returned (.tuple #[stV 0 ph x.count a,.slice Av nv cv])) w7):=hid ⟨ph,x.count,a,_,l,x,_,HB.out _ _ HNX.out HBZ.out,rfl,HL.out,h11.drop.pk5 [0,1,4,2,3]⟩;exact bodyPost_ret (Z05 Tryz.results37 _ rfl Tryz.isAgg52 _ Tryz.sizeOf52 h11.blk rfl) rfl HF.out
 | false =>
  rw[hbz] at HBB;have HBZ:=hid hbz;clear hbz;go_upto_region 13 with(refine HBB.out.mono ?_;rintro e w' ⟨rfl,rfl⟩)
  clear HBB q2;obtain⟨gc,hA,hcap,-⟩:=(h7.pk6 [5]).codeAt HC.out.2.2;subst hA;have hkl:k<p.length:=(List.getElem?_eq_some_iff.1 HC.out.2.2).1;replace h7:=h7.drew;have hS:w6.drew.cell? ⟨t,31,none⟩=some (.slice (some ⟨gc,0,none⟩) p.length cp)/\w6.drew.cell? ⟨t,32,none⟩=some (.int .i64 (k:Int))/\CodeAt w6.drew gc k i:=by
   refine⟨?_,?_,(h7.pk6 [5]).code HC.out.2.2⟩
   ·have:=(h7.pk4 [3]).th_code;rw[HC.out.1] at this;exact this
   ·have:=(h7.pk4 [3]).th_pc;rw[HC.out.2.1] at this;exact this
  have HS3:=hid hS;have HNN:=hid (HN.out ph P' _ _ HNX.out HBZ.out h7.join.join);clear hS h7;obtain⟨q1,q2,q3,q4,q5,q6,q7⟩:=HS3.out;clear HS3;refine Z01 [] (by kernel_rfl) ?_;refine' wby [true,true,true,true,false,true,true,true,true] 96 trivial ?_;refine Z0f [false,false,false,false,true] [false,false,false,false,false,false,false,false,false,true] (fuel:=4) (by rfl) (by rfl) (by rfl) (by rfl) (by kernel_rfl) (fun QB hQB hQX=>?_) (fun QB hQB hQX=>?_)
  ·simp only[Z08]
   go_wp2_with fail;refine hQB.out _ _ trivial ?_;refine wbi 9 (fuel:=3) (fun QB hQB hQX=>?_);go_wp2_with fail;refine hQB.out _ _ trivial ?_;refine' wby [false,false,false,false,false,false,false,false,false,false,true] 96 trivial ?_;refine wbi 11 (fuel:=1) (fun QB hQB hQX=>?_);go_wp2_with fail;refine hQB.out _ _ trivial ?_;refine wbi 12 (fuel:=0) (fun QB hQB hQX=>?_);go_wp2_with fail;refine HNN.out.mono ?_;rintro e w8 ⟨rfl,X,Y,hXY,h8⟩;replace h8:=h8.part.part.pk3 [1,2,0];go_wp2_with fail;refine hQB.out _ _ trivial ?_;clear hQB hQX QB HNN q1 q2 q3 q4 q5 q6 q7;refine Z02 (by kernel_rfl) ?_ _;have h9:=h8;go_wp2_with (first|(refine Z03 rfl 52 _ rfl gs _ _ rfl Tryz.isAgg52 _ Tryz.sizeOf52 h9.blk rfl ?_)|(refine Z00 rfl 52 _ _ rfl gr _ _ (stC 0 ph x.count a) rfl rfl _ Tryz.sizeOf52 h9.drop rfl rfl rfl ?_;intro w7 h11));have HF:Hid (AdZ w0 t c F Q (.returned (.tuple #[stV 0 ph x.count a,.slice Av nv cv])) w7):=hid ⟨ph,x.count,a,_,l,X,Y,hXY,rfl,HL.out,h11.drop⟩;exact bodyPost_ret (Z05 Tryz.results37 _ rfl Tryz.isAgg52 _ Tryz.sizeOf52 h11.blk rfl) rfl HF.out
  ·simp only[Z08]
   go_wp2_with fail;refine hQB.out _ _ trivial ?_;refine wbi 4 (fuel:=3) (fun QB hQB hQX=>?_);go_wp2_with fail;refine hQB.out _ _ trivial ?_;refine' wby [false,false,false,false,false,false,false,false,false,false,true] 96 trivial ?_;refine wbi 11 (fuel:=1) (fun QB hQB hQX=>?_);go_wp2_with fail;refine hQB.out _ _ trivial ?_;refine wbi 12 (fuel:=0) (fun QB hQB hQX=>?_);go_wp2_with fail;refine HNN.out.mono ?_;rintro e w8 ⟨rfl,X,Y,hXY,h8⟩;replace h8:=h8.part.part.pk3 [1,2,0];go_wp2_with fail;refine hQB.out _ _ trivial ?_;clear hQB hQX QB HNN q1 q2 q3 q4 q5 q6 q7;refine Z02 (by kernel_rfl) ?_ _;have h9:=h8;go_wp2_with (first|(refine Z03 rfl 52 _ rfl gs _ _ rfl Tryz.isAgg52 _ Tryz.sizeOf52 h9.blk rfl ?_)|(refine Z00 rfl 52 _ _ rfl gr _ _ (stC 0 ph x.count a) rfl rfl _ Tryz.sizeOf52 h9.drop rfl rfl rfl ?_;intro w7 h11));have HF:Hid (AdZ w0 t c F Q (.returned (.tuple #[stV 0 ph x.count a,.slice Av nv cv])) w7):=hid ⟨ph,x.count,a,_,l,X,Y,hXY,rfl,HL.out,h11.drop⟩;exact bodyPost_ret (Z05 Tryz.results37 _ rfl Tryz.isAgg52 _ Tryz.sizeOf52 h11.blk rfl) rfl HF.out
end
end Go.Proofs.YtmlfangeanmmeaaGreatDoor
