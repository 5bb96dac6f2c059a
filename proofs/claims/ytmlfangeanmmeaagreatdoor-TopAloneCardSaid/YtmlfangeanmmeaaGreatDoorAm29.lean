/-
 What the proof of TopAlone leans on, part 29 of 49: Ns. No statement of its own.
-/
import Derived.Test.YtmlfangeanmmeaaGreatDoorAm27
import Derived.Test.YtmlfangeanmmeaaGreatDoorAm28
set_option maxHeartbeats 16000000
set_option maxRecDepth 8000
set_option linter.unusedVariables false
namespace Go.Proofs.YtmlfangeanmmeaaGreatDoor
open Go.RowKit
def snN (c:Cfg) (sn:List Int) (ad:Int):List Int:=if ad<c.words then Zh8 sn ad else sn
section
variable {w0 w:World} {R R':Asr} {g m gl gk gst:Nat} {c:Cfg} {x:AtR} {L:PL} {C C2:Nat->List Int} {a:Acc} {rv ad o bf vl:Int} {sn xs:List Int} {cap n cp:Nat} {A1:Option Addr}
theorem Zc7 {ι:Type} {Q:ι->Asr} {f:FuncId} {cs:Array Value} (h:Hold w0 w (atA g c x*(rdA gk ad o rv 2 bf vl false*(memA m C*(queA 3 (.slice A1 n cp) (iL sn)*(stA gst cap xs*R)))))) (hx:x.read=ptrV gk) (hl:x.loads=2) (hC:COk C) (ho:-9223372036854775808<=o/\o<=9223372036854775807) (ha:opA C 1 2 o (valC C 2 o) true=a) (hb:a.got=bf) (hsn:x.seen = .slice A1 n cp) (hst:x.set=gst) (hu:x.use_ = .func (.func f) #[] cs) (had:x.addr=ad) (ha0:0<=ad) (ha1:ad<c.words+((nbl c:Nat):Int)) (hc:Z18 c=0) (hor:ad%c.orecs=o) (hxl:xs.length<=cap) (hcap:cap<=1000000) (hn:n<=1000)
  (hce:∀w,(callFunc f (#[.int .u64 vl]++cs)).run Tryz.prog w = .ok (.enter f (#[.int .u64 vl]++cs)) w)
  (hno:Z4x cap xs o=false->∀F A2 n2 c2 w',Hold w0 w' (atA g c {x with loads:=3,seen:=.slice A2 n2 c2}*(queA 3 (.slice A2 n2 c2) (iL (snN c sn ad))*(stA gst cap (addL cap xs o)*(rdA gk ad o rv 3 bf vl false*(memA m C*(F*R))))))->Calls Tryz.prog 147 #[ptrV g,.int .i64 3] w' fun e w2=>e = .returned (.tuple #[])/\∃i,Hold w0 w2 (F*Q i))
  (hyes:Z4x cap xs o=true->∀F A2 n2 c2 w',Hold w0 w' (atA g c {x with loads:=3,seen:=.slice A2 n2 c2,at_:=0}*(queA 3 (.slice A2 n2 c2) (iL (snN c sn ad))*(stA gst cap (addL cap xs o)*(rdA gk ad o rv 3 bf vl false*(memA m C*(F*R))))))->Calls Tryz.prog f (#[.int .u64 vl]++cs) w' fun e w2=>e = .returned (.tuple #[])/\∃i,Hold w0 w2 (F*Q i)) :
  Calls Tryz.prog 87 #[ptrV g,ptrV m] w (Z0e w0 Q a 7):=by
 have HX:=hid hx;have HS0:=hid (And.intro hC ha);have HL:=hid hl;have HE:Hid ((a.got != bf)=false):=hid (by rw[hb];exact bne_self_eq_false _);have HY:=hid (And.intro hsn (And.intro hst (And.intro had (And.intro hc hor))));have HU:=hid hu;have HK:=hid (And.intro hxl (And.intro hcap (And.intro hno hyes)));clear hx hC ha hl hb hsn hst hu had hc hor hxl hcap hno hyes;have H1:=hid (nb h);clear h;go_enter Tryz.func87,Tryz.ntmps87;go_upto_region 1 with fail
 have h1:=H1.out;generalize hW:w.alloc _=W at h1 |-;generalize w.heap.size=gr at h1 |-;clear hW H1;have h2:Hold w0 W (atA g c x*(rdA gk ad o rv 2 bf vl false*(memA m C*(blkA 50 gr (acD acc0)*(queA 3 (.slice A1 n cp) (iL sn)*(stA gst cap xs*R)))))):=h1.pk4 [1,2,3,0];clear h1;have hsq:∀{w':World} {R':Asr},Hold w0 w' (atA g c x*R')->w'.cell? ⟨g,6,none⟩=some (ptrV gk)/\w'.cell? ⟨g,7,none⟩=some (.int .i64 2):=fun h=>by
  have q1:=h.Zm0;have q2:=h.Zm1;rw[HX.out] at q1;rw[HL.out] at q2;exact⟨q1,q2⟩
 go_cut [6,7] (fun s6 s7 wx=>∃gc,s6 = .pointer (some ⟨gc,0,none⟩)/\s7 = .int .i64 7/\Hold w0 wx (blkA 50 gc (acD a)*(atA g c x*(rdA gk ad o rv 3 bf vl false*(memA m C*(blkA 50 gr (acD acc0)*(queA 3 (.slice A1 n cp) (iL sn)*(stA gst cap xs*R))))))))
 case first =>
  replace h2:=h2.drew;refine Z01 [] (by kernel_rfl) ?_;generalize hW:W.drew=W1 at h2 |-;clear hW;refine Z04 (fun w'=>w'.cell? ⟨g,6,none⟩=some (ptrV gk)/\w'.cell? ⟨g,7,none⟩=some (.int .i64 2)) (fun _ _=>trivial) _ _ _ _ ?_;refine' wbk [true,true,true,true,true,true,false,true,true,true,true,true,true] 123 (hsq h2) (fun wq hq=>?_) ?_;rotate_left
  ·simp only[Z08]
   obtain⟨q1,q2⟩:=hq
   repeat (go_big_quiet_step (fail))
   exact wpQuiet_nil rfl
  refine Z0f [false,false,false,false,false,false,true] [false,false,false,false,false,false,false,false,false,false,false,false,false,true] (fuel:=3) (by rfl) (by rfl) (by rfl) (by rfl) (by kernel_rfl) (fun QB hQB hQX=>?_) (fun QB hQB hQX=>?_)
  ·simp only[Z08]
   first
    | have HS:=hid (Z5p w0 W3 _ gk m C ad o rv bf vl false a (h4.pk4 [2,3,1,0]) HS0.out.1 ho HS0.out.2)
    | have HS:=hid (Z5p w0 W1 _ gk m C ad o rv bf vl false a (h2.pk3 [1,2,0]) HS0.out.1 ho HS0.out.2)
   go_wp2_with fail;refine HS.out.mono ?_;rintro e w3 ⟨rfl,h3'⟩;rw[HE.out] at h3'
   first
    | have h3:Hold w0 w3 (atA g c x*(blkA 50 gc (acD acc0)*(rdA gk ad o rv 3 bf vl false*(memA m C*(blkA 50 gr (acD acc0)*(queA 3 (.slice A1 n cp) (iL sn)*(stA gst cap xs*R))))))):=h3'.pk4 [2,3,0,1]
    | have h3:Hold w0 w3 (atA g c x*(rdA gk ad o rv 3 bf vl false*(memA m C*(blkA 50 gr (acD acc0)*(queA 3 (.slice A1 n cp) (iL sn)*(stA gst cap xs*R)))))):=h3'.pk3 [2,0,1]
   clear HS h3'
   first|clear h2|skip
   go_wp2_with fail;refine hQB.out _ _ (by first|exact hsq (h3.pk2 [1,0])|exact hsq h3) ?_;clear hQB hQX QB;refine wbi 13 (fuel:=2) (fun QB hQB hQX=>?_)
   first
    | have H4:=hid (nb h3)
    | have H4:=hid (nb h2)
   go_wp2_with fail;refine hQB.out _ _ (hsq H4.out.drop) ?_;clear hQB hQX QB;have h4:=H4.out;clear H4
   first
    | (generalize hW:w3.alloc _=W3 at h4 |-;clear hW;generalize w3.heap.size=gc at h4 |-;clear h3)
    | (generalize hW:W1.alloc _=W3 at h4 |-;clear hW;generalize W1.heap.size=gc at h4 |-;clear h2)
   refine wbi 14 (fuel:=1) (fun QB hQB hQX=>?_)
   first
    | have hf:=h3.pk2 [1,0]
    | have hf:=h4
   obtain⟨⟨x0,x1,x2,x3,x4,x5⟩,z0,z1,z2,z3,z4,z5⟩:=Z07 hf.blk;have H6:=hid (hf.Zls (.int .i64 a.kind) (.int .i64 a.cell) (.int .i64 a.index) (.int .u64 a.got) (.int .u64 a.put) (.bool a.done));clear hf
   first|clear h3|skip
   first|clear h4|skip
   go_wp2_with fail;refine hQB.out _ _ (hsq H6.out.drop) ?_;clear hQB hQX QB x0 x1 x2 x3 x4 x5 z0 z1 z2 z3 z4 z5;have h6:=H6.out;generalize hW:World.setCell _ _ _=W6 at h6 |-;clear hW H6;refine' wby [false,false,false,false,false,false,false,false,false,false,false,false,false,false,false,true] 123 (hsq h6.drop) ?_;refine Z02 (by kernel_rfl) ?_ _;go_wp2_with fail;go_meet;exact⟨gc,rfl,rfl,h6⟩
  ·simp only[Z08]
   first
    | have H4:=hid (nb h3)
    | have H4:=hid (nb h2)
   go_wp2_with fail;refine hQB.out _ _ (hsq H4.out.drop) ?_;clear hQB hQX QB;have h4:=H4.out;clear H4
   first
    | (generalize hW:w3.alloc _=W3 at h4 |-;clear hW;generalize w3.heap.size=gc at h4 |-;clear h3)
    | (generalize hW:W1.alloc _=W3 at h4 |-;clear hW;generalize W1.heap.size=gc at h4 |-;clear h2)
   refine wbi 6 (fuel:=2) (fun QB hQB hQX=>?_)
   first
    | have HS:=hid (Z5p w0 W3 _ gk m C ad o rv bf vl false a (h4.pk4 [2,3,1,0]) HS0.out.1 ho HS0.out.2)
    | have HS:=hid (Z5p w0 W1 _ gk m C ad o rv bf vl false a (h2.pk3 [1,2,0]) HS0.out.1 ho HS0.out.2)
   go_wp2_with fail;refine HS.out.mono ?_;rintro e w3 ⟨rfl,h3'⟩;rw[HE.out] at h3'
   first
    | have h3:Hold w0 w3 (atA g c x*(blkA 50 gc (acD acc0)*(rdA gk ad o rv 3 bf vl false*(memA m C*(blkA 50 gr (acD acc0)*(queA 3 (.slice A1 n cp) (iL sn)*(stA gst cap xs*R))))))):=h3'.pk4 [2,3,0,1]
    | have h3:Hold w0 w3 (atA g c x*(rdA gk ad o rv 3 bf vl false*(memA m C*(blkA 50 gr (acD acc0)*(queA 3 (.slice A1 n cp) (iL sn)*(stA gst cap xs*R)))))):=h3'.pk3 [2,0,1]
   clear HS h3'
   first|clear h2|skip
   go_wp2_with fail;refine hQB.out _ _ (by first|exact hsq (h3.pk2 [1,0])|exact hsq h3) ?_;clear hQB hQX QB;refine wbi 14 (fuel:=1) (fun QB hQB hQX=>?_)
   first
    | have hf:=h3.pk2 [1,0]
    | have hf:=h4
   obtain⟨⟨x0,x1,x2,x3,x4,x5⟩,z0,z1,z2,z3,z4,z5⟩:=Z07 hf.blk;have H6:=hid (hf.Zls (.int .i64 a.kind) (.int .i64 a.cell) (.int .i64 a.index) (.int .u64 a.got) (.int .u64 a.put) (.bool a.done));clear hf
   first|clear h3|skip
   first|clear h4|skip
   go_wp2_with fail;refine hQB.out _ _ (hsq H6.out.drop) ?_;clear hQB hQX QB x0 x1 x2 x3 x4 x5 z0 z1 z2 z3 z4 z5;have h6:=H6.out;generalize hW:World.setCell _ _ _=W6 at h6 |-;clear hW H6;refine' wby [false,false,false,false,false,false,false,false,false,false,false,false,false,false,false,true] 123 (hsq h6.drop) ?_;refine Z02 (by kernel_rfl) ?_ _;go_wp2_with fail;go_meet;exact⟨gc,rfl,rfl,h6⟩
 case rest =>
 clear h2 hsq
 rename World=>w7
 obtain⟨gc,rfl,rfl,h6⟩:=hcut;have h7:Hold w0 w7 (atA g c x*(rdA gk ad o rv 3 bf vl false*(memA m C*(blkA 50 gr (acD acc0)*(blkA 50 gc (acD a)*(queA 3 (.slice A1 n cp) (iL sn)*(stA gst cap xs*R))))))):=h6.pk5 [1,2,3,4,0];have p1:=h7.Zm1;rw[HL.out] at p1;have z1:=h7.atZ 7;have H8:=hid (h7.Zm2 3);clear h6 h7;go_upto_region 3 with fail
 have h8:=H8.out;generalize hW:World.setCell _ _ _=W8 at h8 |-;clear hW H8 p1 z1;have q:=h8.Zm0;rw[show ({x with loads:=3}:AtR).read=x.read from rfl,HX.out] at q;have HD:=hid (Z4n w0 W8 _ gk ad o rv _ _ _ _ h8.swap);have HCF:=hid (Z9z w0 W8 _ gk ad o rv _ _ _ _ h8.swap);go_upto_region 8 with(first|(refine HD.out.mono ?_;rintro e w' ⟨rfl,rfl⟩)|(refine HCF.out.mono ?_;rintro e w' ⟨rfl,rfl⟩))
 clear HD HCF q;have h8:Hold w0 W8.drew (atA g c {x with loads:=3}*(queA 3 (.slice A1 n cp) (iL sn)*(stA gst cap xs*(rdA gk ad o rv 3 bf vl false*(memA m C*(blkA 50 gr (acD acc0)*(blkA 50 gc (acD a)*R))))))):=(h8.pk7 [0,5,6,1,2,3,4]).drew;go_cut [71] (fun s71 wx=>s71 = .bool (decide (ad<c.words/\ad ∉ sn))/\Hold w0 wx (atA g c {x with loads:=3}*(queA 3 (.slice A1 n cp) (iL sn)*(stA gst cap xs*(rdA gk ad o rv 3 bf vl false*(memA m C*(blkA 50 gr (acD acc0)*(blkA 50 gc (acD a)*R))))))))
 case first =>
  by_cases hw:ad<c.words
  ·have e1:decide (ad<c.words)=true:=decide_eq_true hw
   refine Z01 [] (by kernel_rfl) ?_;generalize hW:W8.drew=W9 at h8 |-;clear hW;have hS0:W9.cell? ⟨g,34,none⟩=some (.int .i64 ad)/\W9.cell? ⟨g,15,none⟩=some (.int .i64 c.words)/\W9.cell? ⟨g,2,none⟩=some (.slice A1 n cp):=by
    have t1:=h8.at_addr;have t2:=h8.at_words;have t3:=h8.at_seen;rw[show ({x with loads:=3}:AtR).addr=x.addr from rfl,HY.out.2.2.1] at t1;rw[show ({x with loads:=3}:AtR).seen=x.seen from rfl,HY.out.1] at t3;exact⟨t1,t2,t3⟩
   refine Z04 (fun w'=>w'.cell? ⟨g,34,none⟩=some (.int .i64 ad)/\w'.cell? ⟨g,15,none⟩=some (.int .i64 c.words)/\w'.cell? ⟨g,2,none⟩=some (.slice A1 n cp)) (fun _ _=>trivial) _ _ _ _ ?_;refine' wbk [true,true,true,true,true,true,true,true,true,true,true,true,true,true,true,true,true,true,true,true] 123 hS0 (fun wq hq=>?_) ?_;rotate_left
   ·simp only[Z08]
    obtain⟨q1,q2,q3⟩:=hq
    repeat (go_big_quiet_step (fail))
    exact wpQuiet_nil rfl
   refine wbi 20 (fuel:=2) (fun QB hQB hQX=>?_);go_wp2_with fail;obtain⟨-,-,-,bA,hr,-⟩:=queReads h8.drop.get.choose_spec;refine(contains_any W9 A1 n cp bA sn ad hr (by omega)).mono ?_;rintro e w' ⟨rfl,rfl⟩;clear hr;go_wp2_with fail;refine hQB.out _ _ hS0 ?_;clear hQB hQX QB;refine' wby [false,false,false,false,false,false,false,false,false,false,false,false,false,false,false,false,false,false,false,false,false,true,true] 123 hS0 ?_;refine Z02 (by kernel_rfl) ?_ _;go_wp2_with fail;go_meet;exact⟨by simp[hw],h8⟩
  ·have e1:decide (ad<c.words)=false:=decide_eq_false hw
   refine Z01 [] (by kernel_rfl) ?_;generalize hW:W8.drew=W9 at h8 |-;clear hW;have hS0:W9.cell? ⟨g,34,none⟩=some (.int .i64 ad)/\W9.cell? ⟨g,15,none⟩=some (.int .i64 c.words)/\W9.cell? ⟨g,2,none⟩=some (.slice A1 n cp):=by
    have t1:=h8.at_addr;have t2:=h8.at_words;have t3:=h8.at_seen;rw[show ({x with loads:=3}:AtR).addr=x.addr from rfl,HY.out.2.2.1] at t1;rw[show ({x with loads:=3}:AtR).seen=x.seen from rfl,HY.out.1] at t3;exact⟨t1,t2,t3⟩
   refine Z04 (fun w'=>w'.cell? ⟨g,34,none⟩=some (.int .i64 ad)/\w'.cell? ⟨g,15,none⟩=some (.int .i64 c.words)/\w'.cell? ⟨g,2,none⟩=some (.slice A1 n cp)) (fun _ _=>trivial) _ _ _ _ ?_;refine' wbk [true,true,true,true,true,true,true,true,true,true,true,true,true,true,true,true,true,true,true,true] 123 hS0 (fun wq hq=>?_) ?_;rotate_left
   ·simp only[Z08]
    obtain⟨q1,q2,q3⟩:=hq
    repeat (go_big_quiet_step (fail))
    exact wpQuiet_nil rfl
   refine wbi 20 (fuel:=2) (fun QB hQB hQX=>?_);go_wp2_with fail;refine hQB.out _ _ hS0 ?_;clear hQB hQX QB;refine' wby [false,false,false,false,false,false,false,false,false,false,false,false,false,false,false,false,false,false,false,false,false,true,true] 123 hS0 ?_;refine Z02 (by kernel_rfl) ?_ _;go_wp2_with fail;go_meet;exact⟨congrArg Value.bool (decide_eq_false (fun h=>by have h9:=h.1;omega)).symm,h8⟩
 case rest =>
 clear h8
 rename World=>W9
 obtain⟨rfl,h8⟩:=hcut;go_upto_if 71 with fail
 go_cut [] (fun wx=>∃(A2:Option Addr) (n2 c2:Nat),Hold w0 wx (atA g c {x with loads:=3,seen:=.slice A2 n2 c2}*(queA 3 (.slice A2 n2 c2) (iL (snN c sn ad))*(stA gst cap xs*(rdA gk ad o rv 3 bf vl false*(memA m C*(blkA 50 gr (acD acc0)*(blkA 50 gc (acD a)*R))))))))
 case first =>
  by_cases hP:ad<c.words/\ad ∉ sn
  ·have e1:decide (ad<c.words/\ad ∉ sn)=true:=decide_eq_true hP
   have HN:Hid (snN c sn ad=sn++[ad]):=hid (by unfold snN Zh8;rw[if_pos hP.1,if_neg hP.2]);go_upto_region 9 with fail
   refine Z01 [15] (by kernel_rfl) ?_;have h9:=h8.drew;clear h8;generalize hW:W9.drew=Wb at h9 |-;clear hW;have hs2:∀{w':World} {R':Asr},Hold w0 w' (atA g c {x with loads:=3}*R')->w'.cell? ⟨g,34,none⟩=some (.int .i64 ad)/\w'.cell? ⟨g,2,none⟩=some (.slice A1 n cp):=fun h=>by
    have t1:=h.at_addr;have t3:=h.at_seen;rw[show ({x with loads:=3}:AtR).addr=x.addr from rfl,HY.out.2.2.1] at t1;rw[show ({x with loads:=3}:AtR).seen=x.seen from rfl,HY.out.1] at t3;exact⟨t1,t3⟩
   refine Z04 (fun w'=>w'.cell? ⟨g,34,none⟩=some (.int .i64 ad)/\w'.cell? ⟨g,2,none⟩=some (.slice A1 n cp)) (fun _ _=>trivial) _ _ _ _ ?_;refine' wbk [true,true,true,true,true,true,true,true,true,true] 123 (hs2 h9) (fun wq hq=>?_) ?_;rotate_left
   ·simp only[Z08]
    obtain⟨q1,q3⟩:=hq
    repeat (go_big_quiet_step (fail))
    exact wpQuiet_nil rfl
   refine wbi 10 (fuel:=5) (fun QB hQB hQX=>?_);go_wp2_with fail;refine hQB.out _ _ (hs2 (h9.alloc _)) ?_;clear hQB hQX QB;refine wbi 11 (fuel:=4) (fun QB hQB hQX=>?_);obtain⟨iI,hiI,iz0,iz1,iz2⟩:=info_parts Z1i;have hln:(iL sn).length=n:=by have:=(queReads h9.drop.get.choose_spec).1;exact this.symm
   have HLN:=hid hln;obtain⟨xq,hxq⟩:∃xq,xq=iL sn:=⟨_,rfl⟩;have HXQ:=hid hxq;rw[<- hxq] at h9;clear hln hxq;go_wp2_with (at_builtin;refine Z0r rfl _ _ 23 rfl iI (.int .i64 0) 8 Tryz.underlying23 hiI iz0 iz1 iz2 rfl (.int .i64 ad) _ rfl h9.swap rfl rfl (by rw[HXQ.out,HLN.out];omega) (by decide) ?_);intro v9 y4 h5;obtain⟨A2,c2,hv9⟩:=h5.Zlu;rw[List.length_append,HXQ.out,HLN.out,show n + [Value.int .i64 ad].length=n+1 from rfl] at hv9;subst hv9;have h10:=h5.swap;rw[HXQ.out,show iL sn++[Value.int .i64 ad]=iL (sn++[ad]) by simp[iL]] at h10;clear h5 h9;go_wp2_with fail;refine hQB.out _ _ (hs2 h10) ?_;clear hQB hQX QB;refine' wbz [false,false,false,false,false,false,false,false,false,false,false,false,true,true,true] 123 (hs2 h10) ?_;refine wbj 15 (fuel:=0) (fun QB hQB hQX=>?_);have p1:=h10.at_seen;have z1:=h10.atZ 2;have H11:=hid (h10.at_seen_set (.slice A2 (n+1) c2));clear h10;go_wp2_with fail;refine hQB.out _ _ ?_;clear hQB hQX QB p1 z1;refine Z06 (by kernel_rfl) ?_;refine Z02 (by kernel_rfl) ?_ _;go_wp2_with fail;go_meet
   case rel=>exact⟨A2,n+1,c2,by rw[HN.out];exact H11.out⟩
  ·have e1:decide (ad<c.words/\ad ∉ sn)=false:=decide_eq_false hP
   have HN:Hid (snN c sn ad=sn):=hid (by
    unfold snN Zh8
    split
    ·rename_i h1
     rw[if_pos (Classical.not_not.1 fun h2=>hP ⟨h1,h2⟩)]
    ·rfl)
   have H8:=hid h8;clear h8;go_wp2_with fail;go_meet
   case rel=>exact⟨A1,n,cp,by rw[HN.out,<- HY.out.1];have h9:=H8.out;rw[<- HY.out.1] at h9;exact h9⟩
 case rest =>
 clear h8
 rename World=>W10
 obtain⟨A2,n2,c2,h8⟩:=hcut;go_upto_region 10 with fail
 replace h8:=h8.drew;obtain⟨ok,hok⟩:∃ok,Z4x cap xs o=ok:=⟨_,rfl⟩;refine Z01 [] (by kernel_rfl) ?_;generalize hW:W10.drew=W11 at h8 |-;clear hW;have hs3:∀{w':World} {R':Asr},Hold w0 w' (atA g c {x with loads:=3,seen:=.slice A2 n2 c2}*R')->w'.cell? ⟨g,34,none⟩=some (.int .i64 ad)/\w'.cell? ⟨g,0,none⟩=some (ptrV gst):=fun h=>by
  have t1:=h.at_addr;have t3:=h.at_set;rw[show ({x with loads:=3,seen:=.slice A2 n2 c2}:AtR).addr=x.addr from rfl,HY.out.2.2.1] at t1;rw[show ({x with loads:=3,seen:=.slice A2 n2 c2}:AtR).set=x.set from rfl,HY.out.2.1] at t3;exact⟨t1,t3⟩
 refine Z04 (fun w'=>w'.cell? ⟨g,34,none⟩=some (.int .i64 ad)/\w'.cell? ⟨g,0,none⟩=some (ptrV gst)) (fun _ _=>trivial) _ _ _ _ ?_;refine' wbk [true,true,true,true,true,true,true,true,false,true,true,true,true] 123 (hs3 h8) (fun wq hq=>?_) ?_;rotate_left
 ·simp only[Z08]
  obtain⟨q1,q3⟩:=hq
  repeat (go_big_quiet_step (fail))
  exact wpQuiet_nil rfl
 refine wbi 8 (fuel:=3) (fun QB hQB hQX=>?_);go_wp2_with (refine Z0l rfl 32 _ rfl g 15 155 40 _ c.cells rfl Tryz.isAgg32 13 Tryz.sizeOf32 h8 rfl (by decide) ?_);go_wp2_with fail;refine hQB.out _ _ (hs3 h8) ?_;clear hQB hQX QB;refine wbi 13 (fuel:=2) (fun QB hQB hQX=>?_);go_wp2_with fail;have HOR:=hid (orec_any W11 c ad HY.out.2.2.2.1 ha0 ha1);refine HOR.out.mono ?_;rintro e w11 ⟨rfl,hc1⟩;have h11:=h8.chg0 hc1;rw[HY.out.2.2.2.2];clear HOR hc1 h8;go_wp2_with fail;refine hQB.out _ _ (hs3 h11) ?_;clear hQB hQX QB;refine wbi 14 (fuel:=1) (fun QB hQB hQX=>?_);go_wp2_with fail;have hsa:=Zjx o (h11.pk3 [2,0,1]) HK.out.1 HK.out.2.1;rw[hok] at hsa;refine hsa.mono ?_;rintro e w12 ⟨rfl,h12'⟩;have h12:=h12'.swap;clear hsa h12' h11;go_wp2_with fail;refine hQB.out _ _ (hs3 h12) ?_;clear hQB hQX QB;refine' wby [false,false,false,false,false,false,false,false,false,false,false,false,false,false,false,true] 123 (hs3 h12) ?_;refine Z02 (by kernel_rfl) ?_ _;clear hs3;have h13:Hold w0 w12 (atA g c {x with loads:=3,seen:=.slice A2 n2 c2}*(queA 3 (.slice A2 n2 c2) (iL (snN c sn ad))*(stA gst cap (addL cap xs o)*(rdA gk ad o rv 3 bf vl false*(memA m C*((blkA 50 gr (acD acc0)*blkA 50 gc (acD a))*R)))))):=by
  have h14:=Hold.join (h12.pk7 [5,6,0,2,1,3,4]);exact h14.pk6 [1,2,3,4,5,0]
 clear h12
 cases ok with
 | false =>
  have HC:=hid (HK.out.2.2.1 hok _ _ _ _ _ h13);clear h13;go_wp2_with fail;refine HC.out.mono ?_;rintro e w14 ⟨rfl,i,h14⟩;have h16:Hold w0 w14 (blkA 50 gr (acD acc0)*(blkA 50 gc (acD a)*Q i)):=h14.imp (Imp.assoc _ _ _);clear HC h14;go_upto_region 12 with fail
  go_wp2_with (first|(refine Z03 rfl 50 _ rfl gc _ _ rfl Tryz.isAgg50 _ Tryz.sizeOf50 h16.drop.blk rfl ?_)|(refine Z00 rfl 50 _ _ rfl gr _ _ (acD a) rfl rfl _ Tryz.sizeOf50 h16 rfl rfl rfl ?_;intro y9 h99));exact bodyPost_ret (Z05 Tryz.results87 _ rfl Tryz.isAgg50 _ Tryz.sizeOf50 h99.blk rfl) rfl ⟨i,rfl,h99.drop.drop⟩
 | true =>
  have p1:=h13.Zly;have z1:=h13.atZ 31;have H14:=hid (h13.Zlx 0);clear h13;go_upto_region 14 with fail
  have h13:=H14.out;generalize hW:World.setCell _ _ _=W13 at h13 |-;clear hW H14 p1 z1;replace h13:=h13.drew;have hr:Hold w0 W13.drew (rdA gk ad o rv 3 bf vl false*_):=h13.pk4 [3];have hrv:=Zfx w0 W13.drew _ gk ad o rv _ _ _ _ hr;rw[show Zdk 3 vl false=vl from if_pos ⟨rfl,rfl⟩] at hrv;have HV:=hid hrv;have HC:=hid (HK.out.2.2.2 hok _ _ _ _ _ h13);have hS4:W13.drew.cell? ⟨g,33,none⟩=some (.func (.func f) #[] cs)/\W13.drew.cell? ⟨g,6,none⟩=some (ptrV gk):=by
   have t1:=h13.at_use_;have t3:=h13.Zm0;rw[show ({x with loads:=3,seen:=.slice A2 n2 c2,at_:=0}:AtR).use_=x.use_ from rfl,HU.out] at t1;rw[show ({x with loads:=3,seen:=.slice A2 n2 c2,at_:=0}:AtR).read=x.read from rfl,HX.out] at t3;exact⟨t1,t3⟩
  clear h13 hr hrv;refine Z01 [] (by kernel_rfl) ?_;generalize hW:W13.drew=W14 at HV HC hS4 |-;clear hW;obtain⟨q1,q2⟩:=hS4;refine' wby [true,true,true,false,true,true,true,true] 123 trivial ?_;refine Z0f [false,false,false,true] [false,false,false,false,false,false,false,false,true] (fuel:=3) (by rfl) (by rfl) (by rfl) (by rfl) (by kernel_rfl) (fun QB hQB hQX=>?_) (fun QB hQB hQX=>?_)
  ·simp only[Z08]
   go_wp2_with fail;refine hQB.out _ _ trivial ?_;clear hQB hQX QB;refine wbi 8 (fuel:=2) (fun QB hQB hQX=>?_);go_wp2_with fail;refine hQB.out _ _ trivial ?_;clear hQB hQX QB;refine wbi 9 (fuel:=1) (fun QB hQB hQX=>?_);go_wp2_with fail;refine HV.out.mono ?_;rintro e w' ⟨rfl,rfl⟩;go_wp2_with fail;refine hQB.out _ _ trivial ?_;clear hQB hQX QB;refine wbi 10 (fuel:=0) (fun QB hQB hQX=>?_);go_wp2_with fail;refine HC.out.mono ?_;rintro e w15 ⟨rfl,i,h15⟩;have h16:Hold w0 w15 (blkA 50 gr (acD acc0)*(blkA 50 gc (acD a)*Q i)):=h15.imp (Imp.assoc _ _ _);clear HC h15;go_wp2_with fail;refine hQB.out _ _ trivial ?_;clear hQB hQX QB;refine Z02 (by kernel_rfl) ?_ _;go_upto_region 15 with fail;go_wp2_with (first|(refine Z03 rfl 50 _ rfl gc _ _ rfl Tryz.isAgg50 _ Tryz.sizeOf50 h16.drop.blk rfl ?_)|(refine Z00 rfl 50 _ _ rfl gr _ _ (acD a) rfl rfl _ Tryz.sizeOf50 h16 rfl rfl rfl ?_;intro y9 h99));exact bodyPost_ret (Z05 Tryz.results87 _ rfl Tryz.isAgg50 _ Tryz.sizeOf50 h99.blk rfl) rfl ⟨i,rfl,h99.drop.drop⟩
  ·simp only[Z08]
   go_wp2_with fail;refine hQB.out _ _ trivial ?_;clear hQB hQX QB;refine Z0f [false,false,false,true] [false,false,false,false,false,false,false,false,false,true] (fuel:=2) (by rfl) (by rfl) (by rfl) (by rfl) (by kernel_rfl) (fun QB hQB hQX=>?_) (fun QB hQB hQX=>?_)
   ·simp only[Z08]
    go_wp2_with fail;refine hQB.out _ _ trivial ?_;clear hQB hQX QB;refine wbi 9 (fuel:=1) (fun QB hQB hQX=>?_);go_wp2_with fail;refine HV.out.mono ?_;rintro e w' ⟨rfl,rfl⟩;go_wp2_with fail;refine hQB.out _ _ trivial ?_;clear hQB hQX QB;refine wbi 10 (fuel:=0) (fun QB hQB hQX=>?_);go_wp2_with fail;refine HC.out.mono ?_;rintro e w15 ⟨rfl,i,h15⟩;have h16:Hold w0 w15 (blkA 50 gr (acD acc0)*(blkA 50 gc (acD a)*Q i)):=h15.imp (Imp.assoc _ _ _);clear HC h15;go_wp2_with fail;refine hQB.out _ _ trivial ?_;clear hQB hQX QB;refine Z02 (by kernel_rfl) ?_ _;go_upto_region 15 with fail;go_wp2_with (first|(refine Z03 rfl 50 _ rfl gc _ _ rfl Tryz.isAgg50 _ Tryz.sizeOf50 h16.drop.blk rfl ?_)|(refine Z00 rfl 50 _ _ rfl gr _ _ (acD a) rfl rfl _ Tryz.sizeOf50 h16 rfl rfl rfl ?_;intro y9 h99));exact bodyPost_ret (Z05 Tryz.results87 _ rfl Tryz.isAgg50 _ Tryz.sizeOf50 h99.blk rfl) rfl ⟨i,rfl,h99.drop.drop⟩
   ·simp only[Z08]
    go_wp2_with fail;refine HV.out.mono ?_;rintro e w' ⟨rfl,rfl⟩;go_wp2_with fail;refine hQB.out _ _ trivial ?_;clear hQB hQX QB;refine wbi 3 (fuel:=1) (fun QB hQB hQX=>?_);go_wp2_with fail;refine hQB.out _ _ trivial ?_;clear hQB hQX QB;refine wbi 10 (fuel:=0) (fun QB hQB hQX=>?_);go_wp2_with fail;refine HC.out.mono ?_;rintro e w15 ⟨rfl,i,h15⟩;have h16:Hold w0 w15 (blkA 50 gr (acD acc0)*(blkA 50 gc (acD a)*Q i)):=h15.imp (Imp.assoc _ _ _);clear HC h15;go_wp2_with fail;refine hQB.out _ _ trivial ?_;clear hQB hQX QB;refine Z02 (by kernel_rfl) ?_ _;go_upto_region 15 with fail;go_wp2_with (first|(refine Z03 rfl 50 _ rfl gc _ _ rfl Tryz.isAgg50 _ Tryz.sizeOf50 h16.drop.blk rfl ?_)|(refine Z00 rfl 50 _ _ rfl gr _ _ (acD a) rfl rfl _ Tryz.sizeOf50 h16 rfl rfl rfl ?_;intro y9 h99));exact bodyPost_ret (Z05 Tryz.results87 _ rfl Tryz.isAgg50 _ Tryz.sizeOf50 h99.blk rfl) rfl ⟨i,rfl,h99.drop.drop⟩
end
end Go.Proofs.YtmlfangeanmmeaaGreatDoor
