/-
 What the proof of TopAlone leans on, part 21 of 49: At2, At3, At4, At5. No statement of its own.
-/
import Derived.Test.YtmlfangeanmmeaaGreatDoorAm6
import Derived.Test.YtmlfangeanmmeaaGreatDoorAm12
import Derived.Test.YtmlfangeanmmeaaGreatDoorAm17
import Derived.Test.YtmlfangeanmmeaaGreatDoorAm19
import Derived.Test.YtmlfangeanmmeaaGreatDoorAm20
import Derived.Deep.DeepCutAuto
import Derived.Deep.CutBlock
set_option maxHeartbeats 16000000
set_option maxRecDepth 8000
set_option linter.unusedVariables false
namespace Go.Proofs.YtmlfangeanmmeaaGreatDoor
open Go.RowKit
section
variable {w0 w:World} {R:Asr} {g:Nat} {c:Cfg} {x:AtR}
abbrev ptrV (g:Nat):Value:=.pointer (some ⟨g,0,none⟩)
theorem Zf1 (h:Hold w0 w (atA g c x*R)):Calls Tryz.prog 36 #[ptrV g] w fun e w'=>e = .returned (.bool (x.at_ != 0))/\w=w':=by
 have q:=h.Zly;clear h;go_enter Tryz.func36,Tryz.ntmps36;go_wp2;go_ret;exact⟨rfl,rfl⟩
theorem Z1w (h:Hold w0 w (atA g c x*R)):Calls Tryz.prog 102 #[ptrV g] w fun e w'=>e = .returned (.int .i64 x.state)/\w=w':=by
 have q:=h.at_state;clear h;go_enter Tryz.func102,Tryz.ntmps102;go_wp2;go_ret;exact⟨rfl,rfl⟩
theorem Z6g (h:Hold w0 w (atA g c x*R)):Calls Tryz.prog 60 #[ptrV g] w fun e w'=>e = .returned (.int .i64 x.code)/\w=w':=by
 have q:=h.at_code;clear h;go_enter Tryz.func60,Tryz.ntmps60;go_wp2;go_ret;exact⟨rfl,rfl⟩
theorem Z71 (h:Hold w0 w (atA g c x*R)):Calls Tryz.prog 178 #[ptrV g] w fun e w'=>e = .returned (.int .u64 x.value)/\w=w':=by
 have q:=h.at_value;clear h;go_enter Tryz.func178,Tryz.ntmps178;go_wp2;go_ret;exact⟨rfl,rfl⟩
theorem Z9f (h:Hold w0 w (atA g c x*R)):Calls Tryz.prog 58 #[ptrV g] w fun e w'=>e = .returned (.bool x.decided)/\w=w':=by
 have q:=h.at_decided;clear h;go_enter Tryz.func58,Tryz.ntmps58;go_wp2;go_ret;exact⟨rfl,rfl⟩
theorem Z1t {s:Int} (h:Hold w0 w (atA g c x*R)) (ha:x.at_=0) (hs:x.state=s):Calls Tryz.prog 106 #[ptrV g,.int .i64 s] w fun e w'=>e = .returned (.int .i64 0)/\w=w':=by
 have hb:=Zf1 h;have q:=h.at_state;rw[ha] at hb;rw[hs] at q;have HB:=hid hb;have e1:((0:Int) != 0)=false:=rfl;have e2:(s != s)=false:=bne_self_eq_false s;clear h hb ha hs;go_enter Tryz.func106,Tryz.ntmps106;go_wp2_with fail;refine HB.out.mono ?_;rintro e w' ⟨rfl,rfl⟩;go_wp2_with fail;go_ret;exact⟨rfl,rfl⟩
theorem Z1g (fn:Fn) (ds cs:Array Value) (h:Hold w0 w (atA g c x*R)):Calls Tryz.prog 107 #[ptrV g,.func fn ds cs] w fun e w'=>e = .returned (.tuple #[])/\Hold w0 w' (atA g c {x with at_:=1,then_:=.func fn ds cs}*R):=by
 have p1:=h.Zly;have z1:=h.atZ 31;have h1:=h.Zlx 1;have H1:=hid h1;clear h h1;go_enter Tryz.func107,Tryz.ntmps107;go_wp2_with (refine Z0q rfl 1 _ _ rfl g 32 155 40 _ #[.func fn ds cs] rfl rfl 1 (fun w=>by kernel_rfl) H1.out rfl (by decide) rfl ?_;intro w2 h2);have H2:Hid (Hold w0 w2 (atA g c {x with at_:=1,then_:=.func fn ds cs}*R)):=hid (h2.Zm4 (by kernel_rfl))
 go_end0
 exact⟨rfl,H2.out⟩
theorem Z4w {ge:Nat} {th nx ck:Int} (h:Hold w0 w (atA g c x*(enA ge th nx ck*R))) (hx:x.enter=ptrV ge) (h0:0<=ck/\ck<=9223372036854775807):Calls Tryz.prog 162 #[ptrV g] w fun e w'=>e = .returned (.int .i64 (Z2z nx ck))/\w=w':=by
 have q:=h.at_enter;rw[hx] at q;have HS:=hid (Z4p w0 w _ ge th nx ck h.swap h0);clear h hx;go_enter Tryz.func162,Tryz.ntmps162;go_wp2_with fail;refine HS.out.mono ?_;rintro e w' ⟨rfl,rfl⟩;go_wp2_with fail;go_ret;exact⟨rfl,rfl⟩
theorem Z2k {a:Int} (h:Hold w0 w (atA g c x*R)) (hw:0<=c.words/\c.words<=64) (ha:0<=a/\a<18446744073709551616):Calls Tryz.prog 110 #[ptrV g,.int .u64 a] w fun e w'=>e = .returned (.bool (decide (c.words<=a)))/\w=w':=by
 have q:=h.at_words;clear h;go_enter Tryz.func110,Tryz.ntmps110;obtain⟨m,hm⟩:∃m,m=c.words:=⟨_,rfl⟩;rw[<- hm] at hw q |-;clear hm;have e1:m%18446744073709551616=m:=Int.emod_eq_of_lt hw.1 (by omega);go_wp2_with fail;go_ret;exact⟨rfl,rfl⟩
theorem Z1j {gl:Nat} {L:PL} (h:Hold w0 w (atA g c x*(lgA gl L*R))) (hx:x.log=gl):Calls Tryz.prog 167 #[ptrV g] w fun e w'=>e = .returned (.bool (x.code==1 && decide (0<(L.addrs.length:Int))))/\w=w':=by
 have q:=h.at_code;have q2:=h.at_log;rw[hx] at q2;have HL:=hid (Zkj h.swap);clear h hx;go_enter Tryz.func167,Tryz.ntmps167
 by_cases hc:x.code=1
 ·rw[hc] at q |-
  go_wp2_with fail;refine HL.out.mono ?_;rintro e w' ⟨rfl,rfl⟩;go_wp2_with fail;go_ret;exact⟨by simp,rfl⟩
 ·have e1:(x.code==1)=false:=beq_eq_false_iff_ne.2 hc
  go_wp2_with fail;go_ret;exact⟨by simp[e1],rfl⟩
theorem Z3f {gl:Nat} {L:PL} (h:Hold w0 w (atA g c x*(lgA gl L*R))) (hx:x.log=gl) (h0:0<=x.clock/\x.clock<=1099511627776):Calls Tryz.prog 173 #[ptrV g] w fun e w'=>e = .returned (.int .i64 (if x.decided=true/\x.code=1/\0<L.addrs.length then x.clock+1 else -1))/\w=w':=by
 have q:=h.at_decided;have q2:=h.at_clock;have HS:=hid (Z1j h hx);obtain⟨k,hk⟩:∃k,k=x.clock:=⟨_,rfl⟩;obtain⟨r,hr⟩:∃r:Int,r=(if x.decided=true/\x.code=1/\0<L.addrs.length then x.clock+1 else -1):=⟨_,rfl⟩;rw[<- hr];have HR:=hid hr;rw[<- hk] at q2 h0;have HK:=hid hk;have e2:k%18446744073709551616=k:=Int.emod_eq_of_lt h0.1 (by omega);clear h hx hr hk;go_enter Tryz.func173,Tryz.ntmps173
 by_cases hd:x.decided=true
 ·rw[hd] at q
  go_wp2_with fail;refine HS.out.mono ?_;rintro e w' ⟨rfl,rfl⟩
  by_cases hs:x.code=1/\0<L.addrs.length
  ·have e1:(x.code==1 && decide (0<(L.addrs.length:Int)))=true:=by rw[hs.1,decide_eq_true (p:=0<(L.addrs.length:Int)) (by have:=hs.2;omega)];rfl
   rw[e1];have hr2:r=k+1:=by rw[HR.out,if_pos ⟨hd,hs.1,hs.2⟩,HK.out]
   go_wp2_with fail;go_ret;exact⟨by rw[hr2];rfl,rfl⟩
  ·have e1:(x.code==1 && decide (0<(L.addrs.length:Int)))=false:=by
    by_cases h1:x.code=1
    ·have h2:¬ 0<L.addrs.length:=fun h2=>hs ⟨h1,h2⟩
     rw[decide_eq_false (p:=0<(L.addrs.length:Int)) (by omega),Bool.and_false]
    ·simp[h1]
   rw[e1];have hr2:r=-1:=by rw[HR.out,if_neg (fun h=>hs h.2)]
   go_wp2_with fail;go_ret;exact⟨by rw[hr2];rfl,rfl⟩
 ·have hd2:x.decided=false:=by simpa using hd
  rw[hd2] at q;have hr2:r=-1:=by rw[HR.out,if_neg (fun h=>hd h.1)]
  go_wp2_with fail;go_ret;exact⟨by rw[hr2];rfl,rfl⟩
theorem Zhw {gl:Nat} {L:PL} {a v:Int} (h:Hold w0 w (atA g c x*(lgA gl L*R))) (hx:x.log=gl) (H:Inv L) (hok:Z1y L a=true):Calls Tryz.prog 118 #[ptrV g,.int .i64 a,.int .u64 v] w fun e w'=>e = .returned (.bool true)/\Hold w0 w' (atA g c x*(lgA gl (putL L a v)*R)):=by
 have q2:=h.at_log;rw[hx] at q2;have hl:=Zho a v h.swap H;rw[hok] at hl;have HL:=hid hl;clear h hx hok hl;go_enter Tryz.func118,Tryz.ntmps118;go_wp2_with fail;refine HL.out.mono ?_;rintro e w' ⟨rfl,h1⟩;have H1:=hid h1.swap;clear h1;go_wp2_with fail;go_ret;exact⟨rfl,H1.out⟩
end
theorem orec_any (w:World) (c:Cfg) (a:Int) (hc:Z18 c=0) (ha:0<=a) (hb:a<c.words+((nbl c:Nat):Int)):Calls Tryz.prog 150 #[c.val,.int .i64 a] w fun e w'=>e = .returned (.int .i64 (a%c.orecs))/\Chg [] w w':=by
 have hk:=Z14 hc;have ho1:=hk.o;have hm1:=hk.w;have oz:c.orecs≠0:=by omega
 have HC:=hid hc;have C0:=(Chg.refl [] w).alloc (.cells c.cells 32);have hB:=Blk.new w 32 c.cells;have e1:decide (a<0)=false:=decide_eq_false (by omega);have e2:decide (c.words+((nbl c:Nat):Int)<=a)=false:=decide_eq_false (by omega);have hnb:=Z55 hk;obtain⟨nb,hnb2⟩:∃nb,nb=nbl c:=⟨_,rfl⟩;rw[<- hnb2] at e2 hnb;have HNB:=hid hnb2;have CB:=hid (And.intro C0 hB);clear hk hc C0 hB hnb2;go_enter Tryz.func150,Tryz.ntmps150;go_upto_region 1 with fail
 obtain⟨C0,hB⟩:=CB.out;generalize hW:w.alloc _=W at C0 hB |-;generalize w.heap.size=gc at hB |-;clear hW CB;replace C0:=C0.drew;replace hB:Blk W.drew gc 32 c.cells:=hB.chg (Chg.refl [] W).drew (by simp);refine Z01 [] (by kernel_rfl) ?_;refine Z04 (fun w'=>Blk w' gc 32 c.cells) (fun _ _=>trivial) _ _ _ _ ?_;refine' wbk [true] 25 hB (fun wq hq=>?_) ?_;rotate_left
 ·simp only[Z08]
  obtain⟨q0,q1,q2,q3,q4,q5,q6,q7,q8,q9,q10,q11,q12⟩:=Z0v hq;clear hq
  repeat (go_big_quiet_step (fail))
  exact wpQuiet_nil rfl
 refine wbi 1 (fuel:=14) (fun QB hQB hQX=>?_);go_wp2_with fail;refine(check_any _ c).mono ?_;rintro e w1 ⟨rfl,hc1⟩;rw[HC.out];replace C0:=C0.trans hc1 (by simp);replace hB:=hB.chg hc1 (by simp);clear hc1;go_wp2_with fail;refine hQB.out _ _ hB ?_;clear hQB hQX QB;refine' wbk [false,false,true,true,true,true,true,true,true,true,true,true] 25 hB (fun wq hq=>?_) ?_;rotate_left
 ·simp only[Z08]
  obtain⟨q0,q1,q2,q3,q4,q5,q6,q7,q8,q9,q10,q11,q12⟩:=Z0v hq;clear hq
  repeat (go_big_quiet_step (fail))
  exact wpQuiet_nil rfl
 refine wbi 12 (fuel:=3) (fun QB hQB hQX=>?_);go_wp2_with fail;refine(blocks_any _ c HC.out).mono ?_;rintro e w2 ⟨rfl,hc1⟩;rw[<- HNB.out];replace C0:=C0.trans hc1 (by simp);replace hB:=hB.chg hc1 (by simp);clear hc1;go_wp2_with fail;refine hQB.out _ _ hB ?_;clear hQB hQX QB;refine' wby [false,false,false,false,false,false,false,false,false,false,false,false,false,true,true,true] 25 hB ?_;refine Z02 (by kernel_rfl) ?_ _;have q1:w2.cell? ⟨gc,1,none⟩=some (.int .i64 c.orecs):=hB.some_ rfl;have CC:=hid C0;clear hB C0;go_wp2_with fail;go_ret;exact⟨rfl,CC.out⟩
def Z32 (gs gl:Nat) (th:Int):AtR:={set:=gs,log:=gl,seen:=.slice none 0 0,allocs:=.slice none 0 0,frees:=.slice none 0 0,enter:=.pointer none,read:=.pointer none,loads:=0,pop:=.pointer none,lock:=.pointer none,turn:=.pointer none,check:=.pointer none,write:=.pointer none,release:=.pointer none,push:=.pointer none,th:=th,state:=0,code:=0,at_:=0,then_:=.nilFunc,use_:=.nilFunc,addr:=0,value:=0,orecs:=.slice none 0 0,clock:=0,decided:=false,pushed:=0}
theorem Zkw (w0 w:World) (R:Asr) (c:Cfg) (th:Int) (h:Hold w0 w R):Calls Tryz.prog 119 #[c.val,.int .i64 th] w fun e w'=>∃g gs gl,e = .returned (ptrV g)/\Hold w0 w' (atA g c (Z32 gs gl th)*(stA gs (Z09 c.reads) []*(lgA gl (newL c.writes)*R))):=by
 have h1:=(h.newBlk (t:=32) (cs:=c.cells)).drew;obtain⟨rd,hrd⟩:∃m,m=c.reads:=⟨_,rfl⟩;obtain⟨wr,hwr⟩:∃m,m=c.writes:=⟨_,rfl⟩;have H1:=hid h1;have HRW:=hid (And.intro hrd hwr);clear h h1 hrd hwr;go_enter Tryz.func119,Tryz.ntmps119;go_upto_region 1 with fail
 have h1:=H1.out;generalize w.heap.size=gc at h1 |-;refine Z01 [] (by kernel_rfl) ?_;generalize hW:World.drew _=W at h1 |-;clear hW H1;refine Z04 (fun w'=>Blk w' gc 32 c.cells) (fun _ _=>trivial) _ _ _ _ ?_;refine' wbk [true,true,false,true,true,false,false,true,true] 16 h1.blk (fun wq hq=>?_) ?_;rotate_left
 ·simp only[Z08]
  obtain⟨q0,q1,q2,q3,q4,q5,q6,q7,q8,q9,q10,q11,q12⟩:=Z0v hq;clear hq
  repeat (go_big_quiet_step (fail))
  exact wpQuiet_nil rfl
 refine wbi 2 (fuel:=5) (fun QB hQB hQX=>?_);go_wp2_with fail;refine(Zjw c.reads h1).mono ?_;rintro e w1 ⟨gs,rfl,h2⟩;clear h1;go_wp2_with fail;refine hQB.out _ _ h2.drop.blk ?_;clear hQB hQX QB;refine wbi 5 (fuel:=4) (fun QB hQB hQX=>?_);go_wp2_with fail;refine(Zki c.writes h2).mono ?_;rintro e w2 ⟨gl,rfl,h3⟩;clear h2;go_wp2_with fail;refine hQB.out _ _ h3.drop.drop.blk ?_;clear hQB hQX QB;refine' wby [false,false,false,false,false,false,true,false,false,true] 16 (by first|exact H4.out.drop.drop.drop.blk|exact h3.drop.drop.blk|exact h2.drop.blk|exact h1.blk) ?_;refine wbi 10 (fuel:=1) (fun QB hQB hQX=>?_);go_wp2_with fail;refine hQB.out _ _ (h3.atNew c (Z32 gs gl th)).drop.drop.drop.blk ?_;clear hQB hQX QB;have H4:=hid (h3.atNew c (Z32 gs gl th));clear h3;refine' wby [false,false,false,false,false,false,false,false,false,false,false,true] 16 (by first|exact H4.out.drop.drop.drop.blk|exact h3.drop.drop.blk|exact h2.drop.blk|exact h1.blk) ?_;refine Z02 (by kernel_rfl) ?_ _;have H5:Hid (Hold w0 _ (atA w2.heap.size c (Z32 gs gl th)*(stA gs (Z09 c.reads) []*(lgA gl (newL c.writes)*R)))):=hid (H4.out.pk4 [0,2,1]);clear H4;go_wp2_with fail;go_ret;exact⟨_,gs,gl,rfl,H5.out⟩
section
variable {w0 w:World} {R:Asr} {g:Nat} {c:Cfg} {x:AtR}
theorem Zh3 (h:Hold w0 w (atA g c x*R)) (ha:x.at_=0) (hs:x.state=0):Calls Tryz.prog 120 #[ptrV g] w fun e w'=>∃ge,e = .returned (.int .i64 0)/\Hold w0 w' (atA g c {x with state:=1,at_:=2,enter:=ptrV ge}*(enA ge x.th 0 0*R)):=by
 have HR:=hid (Z1t h ha hs);have q:=h.at_th;have HE:=hid (Zkr w0 w _ x.th h);clear h ha hs;go_enter Tryz.func120,Tryz.ntmps120;go_wp2_with fail;refine HR.out.mono ?_;rintro e w' ⟨rfl,rfl⟩;clear HR;go_wp2_with fail;refine HE.out.mono ?_;rintro e w1 ⟨ge,rfl,h1⟩;replace h1:=h1.swap;have p1:=h1.at_state;have z1:=h1.atZ 29;have h2:=h1.at_state_set 1;have p2:=h1.Zly;have z2:=h1.atZ 31;have h3:=h2.Zlx 2;have p3:=h1.at_enter;have z3:=h1.atZ 5;have H4:=hid (h3.at_enter_set (ptrV ge));clear h1 h2 h3 HE q;go_wp2_with fail;go_ret;exact⟨ge,rfl,H4.out⟩
end
abbrev acD (a:Acc):Array Value:=#[.int .i64 a.kind,.int .i64 a.cell,.int .i64 a.index,.int .u64 a.got,.int .u64 a.put,.bool a.done]
def Z5o (w0:World) (R:Asr) (a:Acc) (p:Int) (e:Ending) (w':World):Prop:=e = .returned (.tuple #[a.val,.int .i64 p])/\Hold w0 w' R
def Z0e {ι:Type} (w0:World) (R:ι->Asr) (a:Acc) (p:Int) (e:Ending) (w':World):Prop:=∃i,Z5o w0 (R i) a p e w'
section
variable {w0 w:World} {R R':Asr} {g:Nat} {c:Cfg} {x:AtR}
theorem Z2v {ι:Type} {Q:ι->Asr} {m:Value} {a:Acc} {p:Int} (h:Hold w0 w (atA g c x*R)) (ha:x.at_=2)
  (hs:∀w' gr,Hold w0 w' (blkA 50 gr (acD acc0)*(atA g c x*R))->Calls Tryz.prog 86 #[ptrV g,m] w' (Z0e w0 (fun i=>blkA 50 gr (acD acc0)*Q i) a p)) :
  Calls Tryz.prog 57 #[ptrV g,m] w (Z0e w0 Q a p):=by
 have H1:=hid (nb h);have HA:=hid ha;have HS:=hid hs;clear h ha hs;go_enter Tryz.func57,Tryz.ntmps57;go_upto_region 1 with fail
 have h1:=H1.out;generalize hW:w.alloc _=W at h1 |-;generalize w.heap.size=gr at h1 |-;clear hW H1;replace h1:Hold w0 W (blkA 50 gr (acD acc0)*(atA g c x*R)):=h1;have p1:=h1.drop.Zly;rw[HA.out] at p1;have HC:=hid (HS.out _ _ h1);clear h1;go_wp2_with fail;refine HC.out.mono ?_;rintro e w1 ⟨i,rfl,h4⟩;clear HC p1;go_wp2_with (refine Z00 rfl 50 _ _ rfl gr _ _ (acD a) rfl rfl _ Tryz.sizeOf50 h4 rfl rfl rfl ?_;intro y h5);exact bodyPost_ret (Z05 Tryz.results57 _ rfl Tryz.isAgg50 _ Tryz.sizeOf50 h5.blk rfl) rfl ⟨i,rfl,h5.drop⟩
theorem Z3b {ι:Type} {Q:ι->Asr} {m:Value} {a:Acc} {p:Int} (h:Hold w0 w (atA g c x*R)) (ha:x.at_=3)
  (hs:∀w' gr,Hold w0 w' (blkA 50 gr (acD acc0)*(atA g c x*R))->Calls Tryz.prog 87 #[ptrV g,m] w' (Z0e w0 (fun i=>blkA 50 gr (acD acc0)*Q i) a p)) :
  Calls Tryz.prog 57 #[ptrV g,m] w (Z0e w0 Q a p):=by
 have H1:=hid (nb h);have HA:=hid ha;have HS:=hid hs;clear h ha hs;go_enter Tryz.func57,Tryz.ntmps57;go_upto_region 1 with fail
 have h1:=H1.out;generalize hW:w.alloc _=W at h1 |-;generalize w.heap.size=gr at h1 |-;clear hW H1;replace h1:Hold w0 W (blkA 50 gr (acD acc0)*(atA g c x*R)):=h1;have p1:=h1.drop.Zly;rw[HA.out] at p1;have HC:=hid (HS.out _ _ h1);clear h1;go_wp2_with fail;refine HC.out.mono ?_;rintro e w1 ⟨i,rfl,h4⟩;clear HC p1;go_wp2_with (refine Z00 rfl 50 _ _ rfl gr _ _ (acD a) rfl rfl _ Tryz.sizeOf50 h4 rfl rfl rfl ?_;intro y h5);exact bodyPost_ret (Z05 Tryz.results57 _ rfl Tryz.isAgg50 _ Tryz.sizeOf50 h5.blk rfl) rfl ⟨i,rfl,h5.drop⟩
theorem Z5d {ι:Type} {Q:ι->Asr} {m:Value} {a:Acc} {p:Int} (h:Hold w0 w (atA g c x*R)) (ha:x.at_=5)
  (hs:∀w' gr,Hold w0 w' (blkA 50 gr (acD acc0)*(atA g c x*R))->Calls Tryz.prog 89 #[ptrV g,m] w' (Z0e w0 (fun i=>blkA 50 gr (acD acc0)*Q i) a p)) :
  Calls Tryz.prog 57 #[ptrV g,m] w (Z0e w0 Q a p):=by
 have H1:=hid (nb h);have HA:=hid ha;have HS:=hid hs;clear h ha hs;go_enter Tryz.func57,Tryz.ntmps57;go_upto_region 1 with fail
 have h1:=H1.out;generalize hW:w.alloc _=W at h1 |-;generalize w.heap.size=gr at h1 |-;clear hW H1;replace h1:Hold w0 W (blkA 50 gr (acD acc0)*(atA g c x*R)):=h1;have p1:=h1.drop.Zly;rw[HA.out] at p1;have HC:=hid (HS.out _ _ h1);clear h1;go_wp2_with fail;refine HC.out.mono ?_;rintro e w1 ⟨i,rfl,h4⟩;clear HC p1;go_wp2_with (refine Z00 rfl 50 _ _ rfl gr _ _ (acD a) rfl rfl _ Tryz.sizeOf50 h4 rfl rfl rfl ?_;intro y h5);exact bodyPost_ret (Z05 Tryz.results57 _ rfl Tryz.isAgg50 _ Tryz.sizeOf50 h5.blk rfl) rfl ⟨i,rfl,h5.drop⟩
theorem Z5c {ι:Type} {Q:ι->Asr} {m:Value} {a:Acc} {p:Int} (h:Hold w0 w (atA g c x*R)) (ha:x.at_=6)
  (hs:∀w' gr,Hold w0 w' (blkA 50 gr (acD acc0)*(atA g c x*R))->Calls Tryz.prog 90 #[ptrV g,m] w' (Z0e w0 (fun i=>blkA 50 gr (acD acc0)*Q i) a p)) :
  Calls Tryz.prog 57 #[ptrV g,m] w (Z0e w0 Q a p):=by
 have H1:=hid (nb h);have HA:=hid ha;have HS:=hid hs;clear h ha hs;go_enter Tryz.func57,Tryz.ntmps57;go_upto_region 1 with fail
 have h1:=H1.out;generalize hW:w.alloc _=W at h1 |-;generalize w.heap.size=gr at h1 |-;clear hW H1;replace h1:Hold w0 W (blkA 50 gr (acD acc0)*(atA g c x*R)):=h1;have p1:=h1.drop.Zly;rw[HA.out] at p1;have HC:=hid (HS.out _ _ h1);clear h1;go_wp2_with fail;refine HC.out.mono ?_;rintro e w1 ⟨i,rfl,h4⟩;clear HC p1;go_wp2_with (refine Z00 rfl 50 _ _ rfl gr _ _ (acD a) rfl rfl _ Tryz.sizeOf50 h4 rfl rfl rfl ?_;intro y h5);exact bodyPost_ret (Z05 Tryz.results57 _ rfl Tryz.isAgg50 _ Tryz.sizeOf50 h5.blk rfl) rfl ⟨i,rfl,h5.drop⟩
theorem Z8b {ι:Type} {Q:ι->Asr} {m:Value} {a:Acc} {p:Int} (h:Hold w0 w (atA g c x*R)) (ha:x.at_=7)
  (hs:∀w' gr,Hold w0 w' (blkA 50 gr (acD acc0)*(atA g c x*R))->Calls Tryz.prog 91 #[ptrV g,m] w' (Z0e w0 (fun i=>blkA 50 gr (acD acc0)*Q i) a p)) :
  Calls Tryz.prog 57 #[ptrV g,m] w (Z0e w0 Q a p):=by
 have H1:=hid (nb h);have HA:=hid ha;have HS:=hid hs;clear h ha hs;go_enter Tryz.func57,Tryz.ntmps57;go_upto_region 1 with fail
 have h1:=H1.out;generalize hW:w.alloc _=W at h1 |-;generalize w.heap.size=gr at h1 |-;clear hW H1;replace h1:Hold w0 W (blkA 50 gr (acD acc0)*(atA g c x*R)):=h1;have p1:=h1.drop.Zly;rw[HA.out] at p1;have HC:=hid (HS.out _ _ h1);clear h1;go_wp2_with fail;refine HC.out.mono ?_;rintro e w1 ⟨i,rfl,h4⟩;clear HC p1;go_wp2_with (refine Z00 rfl 50 _ _ rfl gr _ _ (acD a) rfl rfl _ Tryz.sizeOf50 h4 rfl rfl rfl ?_;intro y h5);exact bodyPost_ret (Z05 Tryz.results57 _ rfl Tryz.isAgg50 _ Tryz.sizeOf50 h5.blk rfl) rfl ⟨i,rfl,h5.drop⟩
theorem Z6n {ι:Type} {Q:ι->Asr} {m:Value} {a:Acc} {p:Int} (h:Hold w0 w (atA g c x*R)) (ha:x.at_=8)
  (hs:∀w' gr,Hold w0 w' (blkA 50 gr (acD acc0)*(atA g c x*R))->Calls Tryz.prog 92 #[ptrV g,m] w' (Z0e w0 (fun i=>blkA 50 gr (acD acc0)*Q i) a p)) :
  Calls Tryz.prog 57 #[ptrV g,m] w (Z0e w0 Q a p):=by
 have H1:=hid (nb h);have HA:=hid ha;have HS:=hid hs;clear h ha hs;go_enter Tryz.func57,Tryz.ntmps57;go_upto_region 1 with fail
 have h1:=H1.out;generalize hW:w.alloc _=W at h1 |-;generalize w.heap.size=gr at h1 |-;clear hW H1;replace h1:Hold w0 W (blkA 50 gr (acD acc0)*(atA g c x*R)):=h1;have p1:=h1.drop.Zly;rw[HA.out] at p1;have HC:=hid (HS.out _ _ h1);clear h1;go_wp2_with fail;refine HC.out.mono ?_;rintro e w1 ⟨i,rfl,h4⟩;clear HC p1;go_wp2_with (refine Z00 rfl 50 _ _ rfl gr _ _ (acD a) rfl rfl _ Tryz.sizeOf50 h4 rfl rfl rfl ?_;intro y h5);exact bodyPost_ret (Z05 Tryz.results57 _ rfl Tryz.isAgg50 _ Tryz.sizeOf50 h5.blk rfl) rfl ⟨i,rfl,h5.drop⟩
theorem Z8a {ι:Type} {Q:ι->Asr} {m:Value} {a:Acc} {p:Int} (h:Hold w0 w (atA g c x*R)) (ha:x.at_=9)
  (hs:∀w' gr,Hold w0 w' (blkA 50 gr (acD acc0)*(atA g c x*R))->Calls Tryz.prog 93 #[ptrV g,m] w' (Z0e w0 (fun i=>blkA 50 gr (acD acc0)*Q i) a p)) :
  Calls Tryz.prog 57 #[ptrV g,m] w (Z0e w0 Q a p):=by
 have H1:=hid (nb h);have HA:=hid ha;have HS:=hid hs;clear h ha hs;go_enter Tryz.func57,Tryz.ntmps57;go_upto_region 1 with fail
 have h1:=H1.out;generalize hW:w.alloc _=W at h1 |-;generalize w.heap.size=gr at h1 |-;clear hW H1;replace h1:Hold w0 W (blkA 50 gr (acD acc0)*(atA g c x*R)):=h1;have p1:=h1.drop.Zly;rw[HA.out] at p1;have HC:=hid (HS.out _ _ h1);clear h1;go_wp2_with fail;refine HC.out.mono ?_;rintro e w1 ⟨i,rfl,h4⟩;clear HC p1;go_wp2_with (refine Z00 rfl 50 _ _ rfl gr _ _ (acD a) rfl rfl _ Tryz.sizeOf50 h4 rfl rfl rfl ?_;intro y h5);exact bodyPost_ret (Z05 Tryz.results57 _ rfl Tryz.isAgg50 _ Tryz.sizeOf50 h5.blk rfl) rfl ⟨i,rfl,h5.drop⟩
theorem Z6f {ι:Type} {Q:ι->Asr} {m:Value} {a:Acc} {p:Int} (h:Hold w0 w (atA g c x*R)) (ha:x.at_=10)
  (hs:∀w' gr,Hold w0 w' (blkA 50 gr (acD acc0)*(atA g c x*R))->Calls Tryz.prog 94 #[ptrV g,m] w' (Z0e w0 (fun i=>blkA 50 gr (acD acc0)*Q i) a p)) :
  Calls Tryz.prog 57 #[ptrV g,m] w (Z0e w0 Q a p):=by
 have H1:=hid (nb h);have HA:=hid ha;have HS:=hid hs;clear h ha hs;go_enter Tryz.func57,Tryz.ntmps57;go_upto_region 1 with fail
 have h1:=H1.out;generalize hW:w.alloc _=W at h1 |-;generalize w.heap.size=gr at h1 |-;clear hW H1;replace h1:Hold w0 W (blkA 50 gr (acD acc0)*(atA g c x*R)):=h1;have p1:=h1.drop.Zly;rw[HA.out] at p1;have HC:=hid (HS.out _ _ h1);clear h1;go_wp2_with fail;refine HC.out.mono ?_;rintro e w1 ⟨i,rfl,h4⟩;clear HC p1;go_wp2_with (refine Z00 rfl 50 _ _ rfl gr _ _ (acD a) rfl rfl _ Tryz.sizeOf50 h4 rfl rfl rfl ?_;intro y h5);exact bodyPost_ret (Z05 Tryz.results57 _ rfl Tryz.isAgg50 _ Tryz.sizeOf50 h5.blk rfl) rfl ⟨i,rfl,h5.drop⟩
end
section
variable {w0 w:World} {R R':Asr} {g:Nat} {c:Cfg} {x:AtR}
theorem Zln {a:Int} (h0:0<=a) (h1:a<9223372036854775808):wrap64 a=a:=by
 unfold wrap64;omega
theorem Z9d {ge:Nat} {th ck a:Int} (fn:Fn) (ds cs:Array Value) (h:Hold w0 w (atA g c x*(enA ge th 3 ck*R))) (hx:x.enter=ptrV ge) (h0:0<=ck/\ck<=9223372036854775807) (hc:Z18 c=0) (ha:0<=a) (hb:a<c.words+((nbl c:Nat):Int)) :
  Calls Tryz.prog 115 #[ptrV g,.int .i64 a,.func fn ds cs] w fun e w'=>∃gr,e = .returned (.tuple #[])/\Hold w0 w' (atA g c {x with at_:=3,addr:=a,use_:=.func fn ds cs,loads:=0,read:=ptrV gr}*(rdA gr a (a%c.orecs) ck 0 0 0 false*(enA ge th 3 ck*R))):=by
 have p1:=h.Zly;have z1:=h.atZ 31;have h1:=h.Zlx 3;have p2:=h.at_addr;have z2:=h.atZ 34;have h2:=h1.at_addr_set a;have H2:=hid h2;have HX:=hid hx;clear h h1 h2 hx;go_enter Tryz.func115,Tryz.ntmps115;go_upto_region 1 with(refine Z0q rfl 153 _ _ rfl g 33 155 40 _ #[.func fn ds cs] rfl rfl 1 (fun w=>by kernel_rfl) H2.out rfl (by decide) rfl ?_;intro w2 h3;have h4:Hold w0 w2 (atA g c {x with at_:=3,addr:=a,use_:=.func fn ds cs}*(enA ge th 3 ck*R)):=h3.Zm4 (by kernel_rfl);have p7:=h4.Zm1;have z7:=h4.atZ 7;clear h3)
 have h5:=h4.Zm2 0;generalize hW:w2.setCell _ _=W at h5 |-;clear hW h4 p7 z7 p1 p2 z1 z2 H2;have HO:=hid (orec_any W c a hc ha hb);have hck:Z2z 3 ck=ck:=rfl;have H5:=hid h5;clear h5;go_wp2_with (refine Z0l rfl 32 _ rfl g 15 155 40 _ c.cells rfl Tryz.isAgg32 13 Tryz.sizeOf32 H5.out rfl (by decide) ?_);refine HO.out.mono ?_;rintro e w3 ⟨rfl,hc1⟩;have h6:=H5.out.chg0 hc1;clear HO hc1;have HS:=Z4w h6 HX.out h0;rw[hck] at HS;have HS:=hid HS;go_wp2_with fail;refine HS.out.mono ?_;rintro e w' ⟨rfl,rfl⟩;go_wp2_with fail;refine(Zk3 w0 _ _ a (a%c.orecs) ck h6).mono ?_;rintro e w4 ⟨gr,rfl,h7⟩;clear h6 HS;replace h7:=h7.swap;have p6:=h7.Zm0;have z6:=h7.atZ 6;have H8:=hid (h7.at_read_set (ptrV gr));clear h7;go_wp2_with fail
 go_end0
 exact⟨gr,rfl,H8.out⟩
theorem Zex {gb:Nat} {v:Int} (h:Hold w0 w (atA g c x*(blkA 108 gb #[ptrV g]*R))) :
  Calls Tryz.prog 112 #[.int .u64 v,ptrV gb] w fun e w'=>e = .returned (.tuple #[])/\Hold w0 w' (atA g c {x with value:=v}*(blkA 108 gb #[ptrV g]*R)):=by
 have q:=h.drop.blk.some_ (i:=0) rfl;have p:=h.at_value;have z:=h.atZ 35;have H:=hid (h.at_value_set v);clear h;go_enter Tryz.func112,Tryz.ntmps112;go_wp2_with fail
 go_end0
 exact⟨rfl,H.out⟩
abbrev Z4l (gb:Nat):Value:=.func (.func 112) #[] #[ptrV gb]
theorem Zji {gb b6 b7:Nat} {v:Int} (h:Hold w0 w (atA g c x*(blkA 108 gb #[ptrV g]*(blkA 153 b6 #[Z4l gb]*(blkA 34 b7 #[.int .u64 v]*R))))) :
  Calls Tryz.prog 114 #[ptrV b6,ptrV b7] w fun e w'=>e = .returned (.tuple #[])/\Hold w0 w' (atA g c {x with value:=v}*R):=by
 have q6:=h.drop.drop.blk.some_ (i:=0) rfl;have q7:=h.drop.drop.drop.blk.some_ (i:=0) rfl;have HT:=hid (Zex (v:=v) h);clear h;go_enter Tryz.func114,Tryz.ntmps114;go_wp2_with fail;refine HT.out.mono ?_;rintro e w' ⟨rfl,h1⟩;have H1:=hid (h1.pk4 [0]);clear h1;go_wp2_with fail
 go_end0
 exact⟨rfl,H1.out⟩
theorem Zav {ge gl:Nat} {th ck a:Int} {L:PL} (h:Hold w0 w (atA g c x*(lgA gl L*(enA ge th 3 ck*R)))) (hat:x.at_=0) (hst:x.state=1) (hxl:x.log=gl) (hx:x.enter=ptrV ge) (H:Inv L) (hno:Z91 L a=false) (h0:0<=ck/\ck<=9223372036854775807) (hc:Z18 c=0) (ha:0<=a) (hb:a<c.words) :
  Calls Tryz.prog 63 #[ptrV g,.int .u64 a] w fun e w'=>∃gb gr,e = .returned (.int .i64 0)/\Hold w0 w' (atA g c {x with at_:=3,addr:=a,use_:=Z4l gb,loads:=0,read:=ptrV gr}*(rdA gr a (a%c.orecs) ck 0 0 0 false*(blkA 108 gb #[ptrV g]*(lgA gl L*(enA ge th 3 ck*R))))):=by
 have hw:=(Z14 hc).w;have ha2:a<=63:=by omega
 have H1:=hid (h.newBlk (t:=108) (cs:=#[ptrV g]));have HX:=hid (And.intro hat (And.intro hst (And.intro hxl (And.intro hx (And.intro hno (And.intro hw hb))))));have HI:=hid H;have HC:=hid hc;clear h hat hst hxl hx hno H hc hw hb;go_enter Tryz.func63,Tryz.ntmps63;go_upto_region 1 with fail
 have h1:=H1.out;generalize hW:w.alloc _=W at h1 |-;generalize w.heap.size=gb at h1 |-;clear hW H1;have q0:=h1.blk.some_ (i:=0) rfl;have h2:Hold w0 W (atA g c x*(blkA 108 gb #[ptrV g]*(lgA gl L*(enA ge th 3 ck*R)))):=h1.swap;have HR:=hid (Z1t h2 HX.out.1 HX.out.2.1);have ho:=Z2k (a:=a) h2 ⟨by have:=HX.out.2.2.2.2.2.1;omega,by have:=HX.out.2.2.2.2.2.1;omega⟩ ⟨ha,by omega⟩;rw[decide_eq_false (by have:=HX.out.2.2.2.2.2.2;omega)] at ho;have HO:=hid ho;clear h1 ho;go_upto_region 7 with(first|(refine HR.out.mono ?_;rintro e w' ⟨rfl,rfl⟩)|(refine HO.out.mono ?_;rintro e w' ⟨rfl,rfl⟩))
 have h3:=h2.newBlk (t:=153) (cs:=#[Value.nilFunc]);have H3:=hid h3;clear HR HO h3;go_upto_region 8 with(refine Z00 rfl 153 _ _ rfl W.heap.size _ _ #[Z4l gb] rfl rfl 1 (fun w=>by kernel_rfl) H3.out rfl rfl rfl ?_;intro w3 h4)
 generalize W.heap.size=b6 at h4 |-;clear H3 h2 q0;have h5:Hold w0 w3 (atA g c x*(lgA gl L*(blkA 108 gb #[ptrV g]*(blkA 153 b6 #[Z4l gb]*(enA ge th 3 ck*R))))):=h4.pk4 [1,3,2,0];have q0:=h5.drop.drop.blk.some_ (i:=0) rfl;have q6:=h5.drop.drop.drop.blk.some_ (i:=0) rfl;have ql:=h5.at_log;rw[HX.out.2.2.1] at ql;have hg:=Ze8 a h5.swap HI.out;rw[HX.out.2.2.2.2.1] at hg;have HG:=hid hg;clear h4 h5 hg;go_wp2_with fail;refine HG.out.mono ?_;rintro e w4 ⟨rfl,h6⟩;clear HG q0 q6 ql;generalize getV L a=vv;have H7:=hid (h6.newBlk (t:=34) (cs:=#[.int .u64 vv]));clear h6;go_upto_region 9 with fail
 have h7:=H7.out;generalize hW:World.alloc _ _=W5 at h7 |-;clear hW H7;have h8:Hold w0 W5 (atA g c x*(enA ge th 3 ck*(lgA gl L*(blkA 108 gb #[ptrV g]*(blkA 153 b6 #[Z4l gb]*R))))):=h7.pk6 [2,5,1,3,4];have q0:=h8.drop.drop.drop.blk.some_ (i:=0) rfl;have q6:=h8.drop.drop.drop.drop.blk.some_ (i:=0) rfl;have HS:=hid (Z9d (.func 112) #[] #[ptrV gb] h8 HX.out.2.2.2.1 h0 HC.out ha (by have h9:=HX.out.2.2.2.2.2.2;omega));clear h7 h8;go_wp2_with fail;refine HS.out.mono ?_;rintro e w6 ⟨gr,rfl,h9⟩;have H9:=hid (h9.pk6 [0,1,4,3,2]);clear h9 HS q0 q6;go_wp2_with fail;go_ret;exact⟨gb,gr,rfl,H9.out⟩
theorem Zaw {gl:Nat} {a:Int} {L:PL} (h:Hold w0 w (atA g c x*(lgA gl L*R))) (hat:x.at_=0) (hst:x.state=1) (hxl:x.log=gl) (H:Inv L) (hno:Z91 L a=true) (hc:Z18 c=0) (ha:0<=a) (hb:a<c.words) :
  Calls Tryz.prog 63 #[ptrV g,.int .u64 a] w fun e w'=>∃gb b6 b7,e = .returned (.int .i64 0)/\Hold w0 w' (atA g c {x with at_:=1,then_:=.func (.func 114) #[] #[ptrV b6,ptrV b7]}*(blkA 108 gb #[ptrV g]*(blkA 153 b6 #[Z4l gb]*(blkA 34 b7 #[.int .u64 (getV L a)]*(lgA gl L*R))))):=by
 have hw:=(Z14 hc).w;have ha2:a<=63:=by omega
 have H1:=hid (h.newBlk (t:=108) (cs:=#[ptrV g]));have HX:=hid (And.intro hat (And.intro hst (And.intro hxl (And.intro hno (And.intro hw hb)))));have HI:=hid H;obtain⟨vv,hvv⟩:∃vv,vv=getV L a:=⟨_,rfl⟩;rw[<- hvv];have HVV:=hid hvv;clear hvv;clear h hat hst hxl hno H hc hw hb;go_enter Tryz.func63,Tryz.ntmps63;go_upto_region 1 with fail
 have h1:=H1.out;generalize hW:w.alloc _=W at h1 |-;generalize w.heap.size=gb at h1 |-;clear hW H1;have q0:=h1.blk.some_ (i:=0) rfl;have h2:Hold w0 W (atA g c x*(blkA 108 gb #[ptrV g]*(lgA gl L*R))):=h1.swap;have HR:=hid (Z1t h2 HX.out.1 HX.out.2.1);have ho:=Z2k (a:=a) h2 ⟨by have:=HX.out.2.2.2.2.1;omega,by have:=HX.out.2.2.2.2.1;omega⟩ ⟨ha,by omega⟩;rw[decide_eq_false (by have:=HX.out.2.2.2.2.2;omega)] at ho;have HO:=hid ho;clear h1 ho;go_upto_region 7 with(first|(refine HR.out.mono ?_;rintro e w' ⟨rfl,rfl⟩)|(refine HO.out.mono ?_;rintro e w' ⟨rfl,rfl⟩))
 have h3:=h2.newBlk (t:=153) (cs:=#[Value.nilFunc]);have H3:=hid h3;clear HR HO h3;go_upto_region 8 with(refine Z00 rfl 153 _ _ rfl W.heap.size _ _ #[Z4l gb] rfl rfl 1 (fun w=>by kernel_rfl) H3.out rfl rfl rfl ?_;intro w3 h4)
 generalize W.heap.size=b6 at h4 |-;clear H3 h2 q0;have h5:Hold w0 w3 (atA g c x*(lgA gl L*(blkA 108 gb #[ptrV g]*(blkA 153 b6 #[Z4l gb]*R)))):=h4.pk4 [1,3,2,0];have q0:=h5.drop.drop.blk.some_ (i:=0) rfl;have q6:=h5.drop.drop.drop.blk.some_ (i:=0) rfl;have ql:=h5.at_log;rw[HX.out.2.2.1] at ql;have hg:=Ze8 a h5.swap HI.out;rw[HX.out.2.2.2.1] at hg;rw[<- HVV.out] at hg;have HG:=hid hg;clear h4 h5 hg;go_wp2_with fail;refine HG.out.mono ?_;rintro e w4 ⟨rfl,h6⟩;clear HG q0 q6 ql;have H7:=hid (h6.newBlk (t:=34) (cs:=#[.int .u64 vv]));clear h6;go_upto_region 9 with fail
 have h7:=H7.out;generalize hW:World.alloc _ _=W5 at h7 |-;generalize w4.heap.size=b7 at h7 |-;clear hW H7;have h8:Hold w0 W5 (atA g c x*(blkA 108 gb #[ptrV g]*(blkA 153 b6 #[Z4l gb]*(blkA 34 b7 #[.int .u64 vv]*(lgA gl L*R))))):=h7.pk5 [2,3,4,0,1];have q0:=h8.drop.blk.some_ (i:=0) rfl;have HS:=hid (Z1g (.func 114) #[] #[ptrV b6,ptrV b7] h8);clear h7 h8;go_wp2_with fail;refine HS.out.mono ?_;rintro e w6 ⟨rfl,h9⟩;have H9:=hid h9;clear h9 HS q0;go_wp2_with fail;go_ret;exact⟨gb,b6,b7,rfl,H9.out⟩
theorem Zew {a v:Int} (h:Hold w0 w (atA g c x*R)) (hat:x.at_=0) (hst:x.state=1) :
  Calls Tryz.prog 65 #[ptrV g,.int .u64 a,.int .u64 v] w fun e w'=>∃b1 b2 b3,e = .returned (.int .i64 0)/\Hold w0 w' (atA g c {x with at_:=1,then_:=.func (.func 117) #[] #[ptrV b1,ptrV b2,ptrV b3]}*(blkA 108 b1 #[ptrV g]*(blkA 34 b2 #[.int .u64 a]*(blkA 34 b3 #[.int .u64 v]*R)))):=by
 have h1:=h.newBlk (t:=108) (cs:=#[ptrV g]);have h2:=h1.newBlk (t:=34) (cs:=#[.int .u64 a]);have H3:=hid (h2.newBlk (t:=34) (cs:=#[.int .u64 v]));have HX:=hid (And.intro hat hst);clear h h1 h2 hat hst;go_enter Tryz.func65,Tryz.ntmps65;go_upto_region 1 with fail
 have h3:=H3.out;simp only[World.size_alloc] at h3;clear H3;generalize hW:World.alloc _ _=W at h3 |-;generalize w.heap.size=b1 at h3 |-;generalize hb2:b1+1=b2 at h3 |-;generalize hb3:b2+1=b3 at h3 |-;clear hW hb2 hb3;have h4:Hold w0 W (atA g c x*(blkA 108 b1 #[ptrV g]*(blkA 34 b2 #[.int .u64 a]*(blkA 34 b3 #[.int .u64 v]*R)))):=h3.pk4 [3,2,1,0];have q0:=h4.drop.blk.some_ (i:=0) rfl;have HR:=hid (Z1t h4 HX.out.1 HX.out.2);have HL:=hid (Z1g (.func 117) #[] #[ptrV b1,ptrV b2,ptrV b3] h4);clear h3 h4;go_wp2_with fail;refine HR.out.mono ?_;rintro e w' ⟨rfl,rfl⟩;go_wp2_with fail;refine HL.out.mono ?_;rintro e w6 ⟨rfl,h9⟩;have H9:=hid h9;clear h9 HL HR q0;go_wp2_with fail;go_ret;exact⟨b1,b2,b3,rfl,H9.out⟩
end
end Go.Proofs.YtmlfangeanmmeaaGreatDoor
