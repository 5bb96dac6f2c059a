/-
 What the proof of TopAlone leans on, part 26 of 49: Lk2, Lk3, Nk, At6, At7, At8, Mo. No statement of its own.
-/
import Derived.Test.YtmlfangeanmmeaaGreatDoorAm1
import Derived.Test.YtmlfangeanmmeaaGreatDoorAm7
import Derived.Test.YtmlfangeanmmeaaGreatDoorAm8
import Derived.Test.YtmlfangeanmmeaaGreatDoorAm10
import Derived.Test.YtmlfangeanmmeaaGreatDoorAm15
import Derived.Test.YtmlfangeanmmeaaGreatDoorAm20
import Derived.Test.YtmlfangeanmmeaaGreatDoorAm21
import Derived.Test.YtmlfangeanmmeaaGreatDoorAm22
import Derived.Test.YtmlfangeanmmeaaGreatDoorAm23
import Derived.Test.YtmlfangeanmmeaaGreatDoorAm25
set_option maxHeartbeats 16000000
set_option maxRecDepth 8000
set_option linter.unusedVariables false
namespace Go.Proofs.YtmlfangeanmmeaaGreatDoor
open Go.RowKit
abbrev iL (l:List Int):List Value:=l.map (Value.int .i64)
abbrev uL (l:List Int):List Value:=l.map (Value.int .u64)
abbrev lkC (th sn:Int) (ld:Bool) (u v:Value):Array Value:=#[.int .i64 th,u,v,.int .u64 sn,.bool ld]
def lkA (g:Nat) (th:Int) (os old:List Int) (ld:Bool) (sn:Int):Asr:=Asr.ex fun u=>Asr.ex fun v=>blkA 255 g (lkC th sn ld u v)*(queA 3 u (iL os)*queA 34 v (uL old))
section
variable {w0 w:World} {R:Asr} {g m:Nat} {th sn:Int} {os old:List Int} {ld:Bool}
theorem Zbw (h:Hold w0 w (lkA g th os old ld sn*R)):∃A c B d,Hold w0 w (blkA 255 g (lkC th sn ld (.slice A os.length c) (.slice B old.length d))*(queA 3 (.slice A os.length c) (iL os)*(queA 34 (.slice B old.length d) (uL old)*R))):=by
 obtain⟨u,h⟩:=h.exOpen;obtain⟨v,h⟩:=h.exOpen;have h2:=h.part.imp (Imp.under _ (Imp.assoc _ _ _));obtain⟨A,c,e1⟩:=h2.drop.Zlu;obtain⟨B,d,e2⟩:=h2.drop.drop.Zlu;rw[List.length_map] at e1 e2;subst e1 e2;exact⟨A,c,B,d,h2⟩
theorem Z7p {u v:Value} (h:Hold w0 w (blkA 255 g (lkC th sn ld u v)*(queA 3 u (iL os)*(queA 34 v (uL old)*R)))):Hold w0 w (lkA g th os old ld sn*R) :=
 Hold.exClose (x:=u) (Hold.exClose (x:=v) ((h.imp (Imp.under _ (Imp.assoc' _ _ _))).join))
theorem Zkh {A:Option Addr} {n c bA:Nat} {xs:List Int} (h:Hold w0 w R) (hA:Reads w bA A n (xs.map (Value.int .i64))) (hn:n<=1000) (h0:0<n) :
  Calls Tryz.prog 183 #[.int .i64 th,.slice A n c] w fun e w'=>∃g,e = .returned (ptrV g)/\Hold w0 w' (lkA g th (srt xs) [] false 0*R):=by
 have HS:=hid (sorted_any w0 w R A n c bA xs h hA hn h0);clear h hA;go_enter Tryz.func183,Tryz.ntmps183;go_wp2_with fail;refine HS.out.mono ?_;rintro e w1 ⟨A',c',rfl,h1⟩;have h2:=(h1.nilQue 34).newBlk (t:=255) (cs:=lkC th 0 false (.slice A' (srt xs).length c') (.slice none 0 0));have H3:Hid (Hold w0 _ (lkA w1.heap.size th (srt xs) [] false 0*R)):=hid (Z7p (h2.pk3 [0,2,1]));clear h1 h2 HS;generalize (srt xs).length=k at H3 |-;go_wp2_with fail;go_ret;exact⟨_,rfl,H3.out⟩
theorem Z65 (h:Hold w0 w (lkA g th os old ld sn*R)):Calls Tryz.prog 156 #[ptrV g] w fun e w'=>e = .returned (.bool ((old.length:Int)==(os.length:Int)))/\Hold w0 w' (lkA g th os old ld sn*R):=by
 have h1:=h.drew;obtain⟨A,c,B,d,h2⟩:=Zbw h1;have H1:=hid h1;generalize os.length=n at h2 |-;generalize old.length=k at h2 |-;have H2:=hid h2.blk;clear h h1 h2;go_enter Tryz.func156,Tryz.ntmps156;go_upto_region 1 with fail
 refine Z01 [] (by kernel_rfl) ?_;refine Z04 (fun w'=>Blk w' g 255 (lkC th sn ld (.slice A n c) (.slice B k d))) (fun _ _=>trivial) _ _ _ _ ?_;refine' wbk [true,true,true,true,true,true,true,true,true,true,true,true] 14 H2.out (fun wq hq=>?_) ?_;rotate_left
 ·simp only[Z08]
  have q1:=hq.some_ (i:=1) rfl;have q2:=hq.some_ (i:=2) rfl;clear hq
  repeat (go_big_quiet_step (fail))
  exact wpQuiet_nil rfl
 refine Z02 (by kernel_rfl) ?_ _;go_wp2_with fail;go_ret;exact⟨rfl,H1.out⟩
theorem Zkg (h:Hold w0 w (lkA g th os old ld sn*R)) (hl:old.length<=1000000):Calls Tryz.prog 212 #[ptrV g] w fun e w'=>∃A c,e = .returned (.slice A old.length c)/\Hold w0 w' (queA 34 (.slice A old.length c) (uL old)*(lkA g th os old ld sn*R)):=by
 obtain⟨A,c,B,d,h2⟩:=Zbw h;have q:=h2.blk.some_ (i:=2) rfl;obtain⟨fp,hp⟩:=h2.drop.drop.get;obtain⟨-,-,-,bA,hr,-⟩:=queReads hp;have HC:=hid (Z0t w B old.length d bA old hr hl);have H:=hid h;clear h h2 hp hr;go_enter Tryz.func212,Tryz.ntmps212;go_wp2_with fail;refine HC.out.mono ?_;rintro e w1 ⟨A',c',rfl,ho,hc⟩;have H1:=hid (H.out.listQue ho hc);clear ho hc HC q;go_wp2_with fail;go_ret;exact⟨_,_,rfl,H1.out⟩
theorem Zj4 {C:Nat->List Int} {o:Int} {a:Acc} (h:Hold w0 w (lkA g th os old false sn*(memA m C*R))) (hC:COk C) (ho:os[old.length]?=some o) (hx:-9223372036854775808<=o/\o<=9223372036854775807) (h0:0<=a.got/\a.got<18446744073709551616) (ha:opA C 1 2 o (valC C 2 o) true=a) :
  Calls Tryz.prog 155 #[ptrV g,ptrV m] w (Z0b w0 (lkA g th os old (decide (a.got%64=0)) a.got*(memA m C*R)) a):=by
 have hk:old.length<os.length:=(List.getElem?_eq_some_iff.1 ho).1;have h1:=((nb h).newBlk (t:=50) (cs:=#[.int .i64 0,.int .i64 0,.int .i64 0,.int .u64 0,.int .u64 0,.bool false]));have H1:=hid h1;have HA:=hid ha;have HK:=hid hC;have HO:=hid ho;have eh:decide (a.got%64 - 1<0)=decide (a.got%64=0):=by
  by_cases hz:a.got%64=0
  ·rw[decide_eq_true hz,decide_eq_true (by omega)]
  ·rw[decide_eq_false hz,decide_eq_false (by omega)]
 obtain⟨bz,hbz⟩:∃b,b=decide (a.got%64=0):=⟨_,rfl⟩;rw[<- hbz] at eh |-;clear h h1 hC ho ha hbz;go_enter Tryz.func155,Tryz.ntmps155;go_upto_region 6 with fail
 have h1:=H1.out;rw[World.size_alloc] at h1;generalize hW:World.alloc _ _=W at h1 |-;generalize w.heap.size=gr at h1 |-;generalize hga:gr+1=ga at h1 |-;clear hW H1 hga;have h2:Hold w0 W (lkA g th os old false sn*(memA m C*(blkA 50 ga (acD acc0)*(blkA 50 gr (acD acc0)*R)))):=h1.pk4 [2,3,0,1];have hd:=Z65 h2;rw[show ((old.length:Int)==(os.length:Int))=false from beq_eq_false_iff_ne.2 (by omega)] at hd;have HD:=hid hd;clear h1 h2 hd;go_wp2_with fail;refine HD.out.mono ?_;rintro e w1 ⟨rfl,h2⟩;clear HD;obtain⟨A,c,B,d,h3⟩:=Zbw h2;obtain⟨n,hn⟩:∃n,n=os.length:=⟨_,rfl⟩;obtain⟨k,hkk⟩:∃k,k=old.length:=⟨_,rfl⟩;rw[<- hn,<- hkk] at h3 hk;have HNK:=hid (And.intro hn hkk);clear hn hkk h2;have p4:=h3.blk.some_ (i:=4) rfl;go_upto_region 8 with fail
 obtain⟨fp,hp⟩:=h3.drop.get;obtain⟨-,-,-,bA,hr,-⟩:=queReads hp;obtain⟨ad,hA,-,-⟩:=hr.cellAt hk;subst hA;have hcell:∀w' Z,Hold w0 w' (queA 3 (.slice (some ad) n c) (iL os)*Z)->w'.cell? (ad.add k)=some (.int .i64 o):=fun w' Z h=>h.queAt (by rw[List.getElem?_map,HNK.out.2,HO.out];rfl);have HCE:=hid hcell;have k0:(0:Int)<=(k:Int):=by omega
 have k1:(k:Int)<(n:Int):=by omega
 clear hp hr hcell p4;replace h3:=h3.drew;refine Z01 [] (by kernel_rfl) ?_;generalize hW:w1.drew=W2 at h3 |-;clear hW;refine Z04 (fun w'=>∃Z,Hold w0 w' (blkA 255 g (lkC th sn false (.slice (some ad) n c) (.slice B k d))*(queA 3 (.slice (some ad) n c) (iL os)*Z))) (fun _ _=>trivial) _ _ _ _ ?_;refine' wbk [true,true,true,true,true,true,true,true,true,true,true,true] 93 ⟨_,h3⟩ (fun wq hq=>?_) ?_;rotate_left
 ·simp only[Z08]
  obtain⟨Z,hq⟩:=hq;have q1:=hq.blk.some_ (i:=1) rfl;have q2:=hq.blk.some_ (i:=2) rfl;have q3:=HCE.out _ _ hq.drop;clear hq
  repeat (go_big_quiet_step (fail))
  exact wpQuiet_nil rfl
 refine wbi 12 (fuel:=4) (fun QB hQB hQX=>?_);go_wp2_with fail;refine(Z13 w0 W2 _ m C 2 o (h3.pk4 [3,0,1,2]) hx HK.out.len).mono ?_;rintro e w3 ⟨rfl,h4'⟩;have h4:=h4'.pk4 [1,2,3,0];rw[HA.out];clear h3 h4';go_wp2_with fail;refine hQB.out _ _ ⟨_,h4⟩ ?_;clear hQB hQX QB;refine' wby [false,false,false,false,false,false,false,false,false,false,false,false,false,true,true,true] 93 ⟨_,h4⟩ ?_;refine wbi 16 (fuel:=0) (fun QB hQB hQX=>?_);have hf:=h4.pk5 [4,0,1,2,3];obtain⟨⟨x0,x1,x2,x3,x4,x5⟩,z0,z1,z2,z3,z4,z5⟩:=Z07 hf.blk;have H8:=hid (hf.Zls (.int .i64 a.kind) (.int .i64 a.cell) (.int .i64 a.index) (.int .u64 a.got) (.int .u64 a.put) (.bool a.done));clear hf h4;go_wp2_with fail;refine hQB.out _ _ ⟨_,H8.out.pk3 [1,2,0]⟩ ?_;clear hQB hQX QB;refine Z02 (by kernel_rfl) ?_ _;have h5:=H8.out;generalize hW:World.setCell _ _ _=W4 at h5 |-;clear hW H8 x0 x1 x2 x3 x4 x5 z0 z1 z2 z3 z4 z5;go_upto_region 9 with fail
 replace h5:=h5.drew;refine Z01 [] (by kernel_rfl) ?_;generalize hW:W4.drew=W5 at h5 |-;clear hW;refine Z04 (fun w'=>∃Z,Hold w0 w' (blkA 50 ga (acD a)*Z)) (fun _ _=>trivial) _ _ _ _ ?_;refine' wbk [true,true,true,true,true,true] 93 ⟨_,h5⟩ (fun wq hq=>?_) ?_;rotate_left
 ·simp only[Z08]
  obtain⟨Z,hq⟩:=hq;have q3:=hq.blk.some_ (i:=3) rfl;clear hq
  repeat (go_big_quiet_step (fail))
  exact wpQuiet_nil rfl
 refine wbi 6 (fuel:=7) (fun QB hQB hQX=>?_);go_wp2_with fail;refine(holder_any W5 a.got h0.1 h0.2).mono ?_;rintro e w' ⟨rfl,rfl⟩;go_wp2_with fail;refine hQB.out _ _ ⟨_,h5⟩ ?_;clear hQB hQX QB;refine' wby [false,false,false,false,false,false,false,true,true,true] 93 ⟨_,h5⟩ ?_;refine wbi 10 (fuel:=3) (fun QB hQB hQX=>?_);have p3:=h5.drop.blk.some_ (i:=3) rfl;have z3:=h5.drop.blk.frozen 3;have H6:=hid (h5.swap.Zlp 3 (.int .u64 a.got));clear h5;go_wp2_with fail;refine hQB.out _ _ ⟨_,H6.out.swap⟩ ?_;clear hQB hQX QB p3 z3;have h6:=H6.out.swap;generalize hW:World.setCell _ _ _=W6 at h6 |-;clear hW H6;refine' wby [false,false,false,false,false,false,false,false,false,false,false,true,true] 93 ⟨_,h6⟩ ?_;refine wbi 13 (fuel:=0) (fun QB hQB hQX=>?_);have p4:=h6.drop.blk.some_ (i:=4) rfl;have z4:=h6.drop.blk.frozen 4;have H7:=hid (h6.swap.Zlp 4 (.bool bz));clear h6;go_wp2_with fail;refine hQB.out _ _ ⟨_,H7.out.swap⟩ ?_;clear hQB hQX QB;refine Z02 (by kernel_rfl) ?_ _;have h7:=H7.out;generalize hW:World.setCell _ _ _=W7 at h7 |-;clear hW H7;have h8:Hold w0 W7 (blkA 50 gr (acD acc0)*(blkA 50 ga (acD a)*(blkA 255 g (lkC th a.got bz (.slice (some ad) n c) (.slice B k d))*(queA 3 (.slice (some ad) n c) (iL os)*(queA 34 (.slice B k d) (uL old)*(memA m C*R)))))):=h7.pk6 [5,1,0,2,3,4];go_wp2_with (first|(refine Z03 rfl 50 _ rfl ga _ _ rfl Tryz.isAgg50 _ Tryz.sizeOf50 h8.drop.blk rfl ?_)|(refine Z00 rfl 50 _ _ rfl gr _ _ (acD a) rfl rfl _ Tryz.sizeOf50 h8 rfl rfl rfl ?_;intro y3 h9));have h10:Hold w0 y3 (lkA g th os old bz a.got*(memA m C*R)):=Z7p (h9.pk5 [2,3,4]);have HF:Hid (Z0b w0 (lkA g th os old bz a.got*(memA m C*R)) a (.returned a.val) y3):=hid ⟨rfl,h10⟩;exact bodyPost_ret (Z0j Tryz.results155 _ rfl Tryz.isAgg50 _ Tryz.sizeOf50 h9.blk rfl) rfl HF.out
def oldN (b:Bool) (old:List Int) (sn:Int):List Int:=if b then old++[sn] else old
theorem Ze4 {C C2:Nat->List Int} {o nv:Int} {a:Acc} {old2:List Int} (h:Hold w0 w (lkA g th os old true sn*(memA m C*R))) (hC:COk C) (ho:os[old.length]?=some o) (hx:-9223372036854775808<=o/\o<=9223372036854775807) (hs:0<=sn/\sn<9223372036854775808) (ht:0<=th/\th<=15) (hv:nv=sn+th+1) (ha:opA C 3 2 o nv (valC C 2 o==sn)=a) (hl:old.length<=1000) (hC2:opC C 2 o nv (valC C 2 o==sn)=C2) (hold:oldN a.done old sn=old2) :
  Calls Tryz.prog 155 #[ptrV g,ptrV m] w (Z0b w0 (lkA g th os old2 false sn*(memA m C2*R)) a):=by
 have hk:old.length<os.length:=(List.getElem?_eq_some_iff.1 ho).1;have h1:=((nb h).newBlk (t:=50) (cs:=#[.int .i64 0,.int .i64 0,.int .i64 0,.int .u64 0,.int .u64 0,.bool false]));have H1:=hid h1;have HA:=hid ha;have HK:=hid hC;have HO:=hid ho;have HV:=hid hv;obtain⟨iU,hiU,iu0,iu1,iu2⟩:=info_parts Z3q;have et:th%18446744073709551616=th:=Int.emod_eq_of_lt ht.1 (by omega);have HC2:=hid hC2;have HOLD:=hid hold;clear h h1 hC ho ha hv hC2 hold;go_enter Tryz.func155,Tryz.ntmps155;go_upto_region 6 with fail
 have h1:=H1.out;rw[World.size_alloc] at h1;generalize hW:World.alloc _ _=W at h1 |-;generalize w.heap.size=gr at h1 |-;generalize hga:gr+1=ga at h1 |-;clear hW H1 hga;have h2:Hold w0 W (lkA g th os old true sn*(memA m C*(blkA 50 ga (acD acc0)*(blkA 50 gr (acD acc0)*R)))):=h1.pk4 [2,3,0,1];have hd:=Z65 h2;rw[show ((old.length:Int)==(os.length:Int))=false from beq_eq_false_iff_ne.2 (by omega)] at hd;have HD:=hid hd;clear h1 h2 hd;go_wp2_with fail;refine HD.out.mono ?_;rintro e w1 ⟨rfl,h2⟩;clear HD;obtain⟨A,c,B,d,h3⟩:=Zbw h2;obtain⟨n,hn⟩:∃n,n=os.length:=⟨_,rfl⟩;obtain⟨k,hkk⟩:∃k,k=old.length:=⟨_,rfl⟩;rw[<- hn,<- hkk] at h3 hk;have HNK:=hid (And.intro hn hkk);rw[<- hkk] at hl;clear hn hkk h2;have p4:=h3.blk.some_ (i:=4) rfl;go_upto_region 2 with fail
 obtain⟨fp,hp⟩:=h3.drop.get;obtain⟨-,-,-,bA,hr,-⟩:=queReads hp;obtain⟨ad,hA,-,-⟩:=hr.cellAt hk;subst hA;have hcell:∀w' Z,Hold w0 w' (queA 3 (.slice (some ad) n c) (iL os)*Z)->w'.cell? (ad.add k)=some (.int .i64 o):=fun w' Z h=>h.queAt (by rw[List.getElem?_map,HNK.out.2,HO.out];rfl);have HCE:=hid hcell;have k0:(0:Int)<=(k:Int):=by omega
 have k1:(k:Int)<(n:Int):=by omega
 clear hp hr hcell p4;replace h3:=h3.drew;refine Z01 [] (by kernel_rfl) ?_;generalize hW:w1.drew=W2 at h3 |-;clear hW;refine Z04 (fun w'=>∃Z,Hold w0 w' (blkA 255 g (lkC th sn true (.slice (some ad) n c) (.slice B k d))*(queA 3 (.slice (some ad) n c) (iL os)*Z))) (fun _ _=>trivial) _ _ _ _ ?_;refine' wbk [true,true,true,true,true,true,true,true,true,true,true,true,true,true,true,true,true,true,true,true,true,true,true,true,true,true,true] 93 ⟨_,h3⟩ (fun wq hq=>?_) ?_;rotate_left
 ·simp only[Z08]
  obtain⟨Z,hq⟩:=hq;have q0:=hq.blk.some_ (i:=0) rfl;have q1:=hq.blk.some_ (i:=1) rfl;have q2:=hq.blk.some_ (i:=2) rfl;have q4:=hq.blk.some_ (i:=3) rfl;have q3:=HCE.out _ _ hq.drop;clear hq
  repeat (go_big_quiet_step (fail))
  exact wpQuiet_nil rfl
 refine wbi 27 (fuel:=4) (fun QB hQB hQX=>?_);go_wp2_with fail;rw[show sn+th+1=nv from HV.out.symm];refine(Z7n w0 W2 _ m C 2 o sn nv (h3.pk4 [3,0,1,2]) hx HK.out.len).mono ?_;rintro e w3 ⟨rfl,h4'⟩;have h4:=h4'.pk4 [1,2,3,0];rw[HA.out];clear h3 h4';go_wp2_with fail;refine hQB.out _ _ ⟨_,h4⟩ ?_;clear hQB hQX QB;refine' wby [false,false,false,false,false,false,false,false,false,false,false,false,false,false,false,false,false,false,false,false,false,false,false,false,false,false,false,false,true,true,true] 93 ⟨_,h4⟩ ?_;refine wbi 31 (fuel:=0) (fun QB hQB hQX=>?_);have hf:=h4.pk5 [4,0,1,2,3];obtain⟨⟨x0,x1,x2,x3,x4,x5⟩,z0,z1,z2,z3,z4,z5⟩:=Z07 hf.blk;have H8:=hid (hf.Zls (.int .i64 a.kind) (.int .i64 a.cell) (.int .i64 a.index) (.int .u64 a.got) (.int .u64 a.put) (.bool a.done));clear hf h4;go_wp2_with fail;refine hQB.out _ _ ⟨_,H8.out.pk3 [1,2,0]⟩ ?_;clear hQB hQX QB;refine Z02 (by kernel_rfl) ?_ _;have h5:=H8.out;generalize hW:World.setCell _ _ _=W4 at h5 |-;clear hW H8 x0 x1 x2 x3 x4 x5 z0 z1 z2 z3 z4 z5;rw[HC2.out] at h5;have p4:=h5.drop.blk.some_ (i:=4) rfl;have z4:=h5.drop.blk.frozen 4;have H6:=hid (h5.swap.Zlp 4 (.bool false));clear h5;go_upto_region 4 with fail
 have h6:=H6.out;generalize hW:World.setCell _ _ _=W5 at h6 |-;clear hW H6 p4 z4;have h7:Hold w0 W5 (queA 34 (.slice B k d) (uL old)*(blkA 255 g (lkC th sn false (.slice (some ad) n c) (.slice B k d))*(blkA 50 ga (acD a)*(queA 3 (.slice (some ad) n c) (iL os)*(memA m C2*(blkA 50 gr (acD acc0)*R)))))):=h6.pk4 [3,0,1,2];clear h6;have q5:W5.cell? ⟨ga,5,none⟩=some (.bool a.done):=h7.drop.drop.blk.some_ (i:=5) rfl
 by_cases hdn:a.done=true
 ·rw[hdn] at q5
  have ho2:old2=old++[sn]:=by rw[<- HOLD.out,hdn];rfl
  have HO2:=hid ho2;clear hdn ho2;go_upto_region 5 with fail
  clear q5;replace h7:=h7.drew;have hpl:(uL old).length<=1000000:=by rw[List.length_map,<- HNK.out.2];omega
  have hkl:(uL old).length=k:=by rw[List.length_map];exact HNK.out.2.symm
  have HKL:=hid hkl;clear hkl;refine Z01 [13] (by kernel_rfl) ?_;generalize hW:W5.drew=W6 at h7 |-;clear hW;refine Z04 (fun w'=>∃Z,Hold w0 w' (blkA 255 g (lkC th sn false (.slice (some ad) n c) (.slice B k d))*Z)) (fun _ _=>trivial) _ _ _ _ ?_;refine' wbk [true,true,true,true,true,true,true,true,true] 93 ⟨_,h7.drop⟩ (fun wq hq=>?_) ?_;rotate_left
  ·simp only[Z08]
   obtain⟨Z,hq⟩:=hq;have q2:=hq.blk.some_ (i:=2) rfl;have q3:=hq.blk.some_ (i:=3) rfl;clear hq
   repeat (go_big_quiet_step (fail))
   exact wpQuiet_nil rfl
  refine wbi 9 (fuel:=4) (fun QB hQB hQX=>?_);go_wp2_with fail;refine hQB.out _ _ ⟨_,(h7.alloc _).drop⟩ ?_;clear hQB hQX QB;refine wbi 10 (fuel:=3) (fun QB hQB hQX=>?_);go_wp2_with (at_builtin;refine Z0r rfl _ _ 33 rfl iU (.int .u64 0) 8 Tryz.underlying33 hiU iu0 iu1 iu2 rfl (.int .u64 sn) _ rfl h7 rfl rfl hpl (by decide) ?_);intro v9 y4 h8;obtain⟨A9,c9,hv9⟩:=h8.Zlu;rw[List.length_append,HKL.out,show k + [Value.int .u64 sn].length=k+1 from rfl] at hv9;subst hv9;clear h7;have h7:=h8;clear h8;go_wp2_with fail;refine hQB.out _ _ ⟨_,h7.drop⟩ ?_;clear hQB hQX QB;refine' wbz [false,false,false,false,false,false,false,false,false,false,false,true,true] 93 ⟨_,h7.drop⟩ ?_;refine wbj 13 (fuel:=0) (fun QB hQB hQX=>?_);have p2:=h7.drop.blk.some_ (i:=2) rfl;have z2:=h7.drop.blk.frozen 2;have H9:=hid (h7.swap.Zlp 2 (.slice A9 (k+1) c9));clear h7;go_wp2_with fail;refine hQB.out _ _ ?_;refine Z06 (by kernel_rfl) ?_;refine Z02 (by kernel_rfl) ?_ _;have h9:=H9.out;generalize hW:World.setCell _ _ _=W8 at h9 |-;clear hW H9;clear hQB hQX QB p2 z2;have h10:Hold w0 W8 (blkA 50 gr (acD acc0)*(blkA 50 ga (acD a)*(blkA 255 g (lkC th sn false (.slice (some ad) n c) (.slice A9 (k+1) c9))*(queA 3 (.slice (some ad) n c) (iL os)*(queA 34 (.slice A9 (k+1) c9) (uL old++[Value.int .u64 sn])*(memA m C2*R)))))):=h9.pk6 [5,2,0,3,1,4];clear h9;go_wp2_with (first|(refine Z03 rfl 50 _ rfl ga _ _ rfl Tryz.isAgg50 _ Tryz.sizeOf50 h10.drop.blk rfl ?_)|(refine Z00 rfl 50 _ _ rfl gr _ _ (acD a) rfl rfl _ Tryz.sizeOf50 h10 rfl rfl rfl ?_;intro y3 h11));have h12:Hold w0 y3 (lkA g th os old2 false sn*(memA m C2*R)):=Z7p (v:=.slice A9 (k+1) c9) (by
   rw[HO2.out,show uL (old++[sn])=uL old++[Value.int .u64 sn] by simp];exact h11.pk5 [2,3,4])
  have HF:Hid (Z0b w0 (lkA g th os old2 false sn*(memA m C2*R)) a (.returned a.val) y3):=hid ⟨rfl,h12⟩;exact bodyPost_ret (Z0j Tryz.results155 _ rfl Tryz.isAgg50 _ Tryz.sizeOf50 h11.blk rfl) rfl HF.out
 ·have hdn2:a.done=false:=by simpa using hdn
  rw[hdn2] at q5;have ho2:old2=old:=by rw[<- HOLD.out,hdn2];rfl
  have HO2:=hid ho2;clear hdn hdn2 ho2;have h10:Hold w0 W5 (blkA 50 gr (acD acc0)*(blkA 50 ga (acD a)*(blkA 255 g (lkC th sn false (.slice (some ad) n c) (.slice B k d))*(queA 3 (.slice (some ad) n c) (iL os)*(queA 34 (.slice B k d) (uL old)*(memA m C2*R)))))):=h7.pk6 [5,2,1,3,0,4];clear h7;go_wp2_with (first|(refine Z03 rfl 50 _ rfl ga _ _ rfl Tryz.isAgg50 _ Tryz.sizeOf50 h10.drop.blk rfl ?_)|(refine Z00 rfl 50 _ _ rfl gr _ _ (acD a) rfl rfl _ Tryz.sizeOf50 h10 rfl rfl rfl ?_;intro y3 h11));have h12:Hold w0 y3 (lkA g th os old2 false sn*(memA m C2*R)):=by
   rw[HO2.out];exact Z7p (h11.pk5 [2,3,4])
  have HF:Hid (Z0b w0 (lkA g th os old2 false sn*(memA m C2*R)) a (.returned a.val) y3):=hid ⟨rfl,h12⟩;exact bodyPost_ret (Z0j Tryz.results155 _ rfl Tryz.isAgg50 _ Tryz.sizeOf50 h11.blk rfl) rfl HF.out
end
abbrev reX (g:Nat) (ps vs:List Int) (x:WLay):Asr :=
 blkA 261 g #[.slice x.A ps.length x.c,.slice x.B ps.length x.d]*(slA x.A ps.length x.c (ps.map (Value.int .i64))*slA x.B ps.length x.d (vs.map (Value.int .u64)))
def reA (g:Nat) (ps vs:List Int):Asr:=Asr.ex (reX g ps vs)
section
variable {w0 w:World} {R:Asr} {g:Nat} {ps vs:List Int}
theorem Hold.reOpen (h:Hold w0 w (reA g ps vs*R)):∃A c B d,Hold w0 w (blkA 261 g #[.slice A ps.length c,.slice B ps.length d]*(slA A ps.length c (ps.map (Value.int .i64))*(slA B ps.length d (vs.map (Value.int .u64))*R))):=by
 obtain⟨⟨A,c,B,d⟩,h⟩:=h.exOpen;exact⟨A,c,B,d,h.part.imp (Imp.under _ (Imp.assoc _ _ _))⟩
theorem Hold.reShut {A B:Option Addr} {c d:Nat} (h:Hold w0 w (blkA 261 g #[.slice A ps.length c,.slice B ps.length d]*(slA A ps.length c (ps.map (Value.int .i64))*(slA B ps.length d (vs.map (Value.int .u64))*R)))):Hold w0 w (reA g ps vs*R) :=
 Hold.exClose (x:=⟨A,c,B,d⟩) (h.imp (Imp.under _ (Imp.assoc' _ _ _))).join
end
theorem Zhf (w0 w:World) (R:Asr) (A B:Option Addr) (n c m d:Nat) (xs ys:List Int) (h:Hold w0 w R) (hA:∀w',Hold w0 w' R->∃bA,Reads w' bA A n (xs.map (Value.int .i64))) (hB:∀w',Hold w0 w' R->∃bB,Reads w' bB B m (ys.map (Value.int .u64)))
  (hn:n<=1000) (hm:m<=1000) (hc:n<=c) (hd:m<=d) (k:Nat) (hk:k=min n m) :
  Calls Tryz.prog 174 #[.slice A n c,.slice B m d] w fun e w'=>∃g,e = .returned (.pointer (some ⟨g,0,none⟩))/\Hold w0 w' (reA g (xs.take k) (ys.take k)*R):=by
 have lx:xs.length=n:=by obtain⟨_,hq⟩:=hA w h;have:=hq.len;simpa using this
 have ly:ys.length=m:=by obtain⟨_,hq⟩:=hB w h;have:=hq.len;simpa using this
 have hk1:k<=n/\k<=m:=by omega
 have hmin:min (n:Int) (m:Int)=(k:Int):=by omega
 have s1:=fun w=>Z2p (P:=Tryz.prog) 23 (by kernel_rfl) Zbc w A n c k (by omega);have s2:=fun w=>Z2p (P:=Tryz.prog) 33 (by kernel_rfl) Zbb w B m d k (by omega);have HA:Hid (∀w',Hold w0 w' R->∃bA,Reads w' bA A k ((xs.take k).map (Value.int .i64))):=hid fun w' h'=>by obtain⟨b,hq⟩:=hA w' h';have:=hq.take hk1.1;exact⟨b,by rwa [<- List.map_take] at this⟩
 have HB:Hid (∀w',Hold w0 w' R->∃bB,Reads w' bB B k ((ys.take k).map (Value.int .u64))):=hid fun w' h'=>by obtain⟨b,hq⟩:=hB w' h';have:=hq.take hk1.2;exact⟨b,by rwa [<- List.map_take] at this⟩
 have hl:(xs.take k).length=k:=by simp;omega
 have HL:=hid hl;clear hA hB lx ly hl;rcases Nat.lt_or_ge m n with hnm|hnm
 ·obtain rfl:m=k:=by omega
  clear hk;go_enter Tryz.func174,Tryz.ntmps174;go_wp2_with fail;clear hmin;replace h:=h.drew;refine Z01 [] (by kernel_rfl) ?_;refine' wby [true,true,true,false,true,true,true] 21 trivial ?_;refine wbi 3 (fuel:=4) (fun QB hQB hQX=>?_);go_wp2_with fail;obtain⟨bA,hra⟩:=HA.out _ h;refine(Z1c _ A m c bA (xs.take m) hra (by omega)).mono ?_;rintro e w1 ⟨A1,c1,rfl,hown,hc1⟩;have h1:=(h.newRow hc1 hown (Nat.le_refl _)).imp (Imp.on _ (Imp.rowSl _ _ _ _ _));clear h hown hc1;go_wp2_with fail;refine hQB.out _ _ trivial ?_;clear hQB hQX QB;refine wbi 7 (fuel:=3) (fun QB hQB hQX=>?_);go_wp2_with fail;obtain⟨bB,hrb⟩:=HB.out _ h1.drop;refine(Z0t _ B m d bB (ys.take m) hrb (by omega)).mono ?_;rintro e w2 ⟨B1,d1,rfl,hown,hc2⟩;have h2:=(h1.newRow hc2 hown (Nat.le_refl _)).imp (Imp.on _ (Imp.rowSl _ _ _ _ _));have h3:=h2.newBlk (t:=261) (cs:=#[.slice A1 m c1,.slice B1 m d1]);have H3:=hid h3;clear h1 h2 h3 hown hc2;go_wp2_with fail;refine hQB.out _ _ trivial ?_;clear hQB hQX QB;refine' wby [false,false,false,false,false,false,false,false,true] 21 trivial ?_;refine wbi 9 (fuel:=1) (fun QB hQB hQX=>?_);go_wp2_with fail;refine hQB.out _ _ trivial ?_;clear hQB hQX QB;refine' wby [false,false,false,false,false,false,false,false,false,false,true] 21 trivial ?_;refine Z02 (by kernel_rfl) ?_ _;have H4:Hid (Hold w0 _ (reA w2.heap.size (xs.take m) (ys.take m)*R)):=hid (Hold.reShut (by rw[HL.out];exact H3.out.pk3 [0,2,1]));clear s1 s2;go_wp2_with fail;go_ret;exact⟨_,rfl,H4.out⟩
 ·obtain rfl:n=k:=by omega
  clear hk;go_enter Tryz.func174,Tryz.ntmps174;go_wp2_with fail;clear hmin;replace h:=h.drew;refine Z01 [] (by kernel_rfl) ?_;refine' wby [true,true,true,false,true,true,true] 21 trivial ?_;refine wbi 3 (fuel:=4) (fun QB hQB hQX=>?_);go_wp2_with fail;obtain⟨bA,hra⟩:=HA.out _ h;refine(Z1c _ A n c bA (xs.take n) hra (by omega)).mono ?_;rintro e w1 ⟨A1,c1,rfl,hown,hc1⟩;have h1:=(h.newRow hc1 hown (Nat.le_refl _)).imp (Imp.on _ (Imp.rowSl _ _ _ _ _));clear h hown hc1;go_wp2_with fail;refine hQB.out _ _ trivial ?_;clear hQB hQX QB;refine wbi 7 (fuel:=3) (fun QB hQB hQX=>?_);go_wp2_with fail;obtain⟨bB,hrb⟩:=HB.out _ h1.drop;refine(Z0t _ B n d bB (ys.take n) hrb (by omega)).mono ?_;rintro e w2 ⟨B1,d1,rfl,hown,hc2⟩;have h2:=(h1.newRow hc2 hown (Nat.le_refl _)).imp (Imp.on _ (Imp.rowSl _ _ _ _ _));have h3:=h2.newBlk (t:=261) (cs:=#[.slice A1 n c1,.slice B1 n d1]);have H3:=hid h3;clear h1 h2 h3 hown hc2;go_wp2_with fail;refine hQB.out _ _ trivial ?_;clear hQB hQX QB;refine' wby [false,false,false,false,false,false,false,false,true] 21 trivial ?_;refine wbi 9 (fuel:=1) (fun QB hQB hQX=>?_);go_wp2_with fail;refine hQB.out _ _ trivial ?_;clear hQB hQX QB;refine' wby [false,false,false,false,false,false,false,false,false,false,true] 21 trivial ?_;refine Z02 (by kernel_rfl) ?_ _;have H4:Hid (Hold w0 _ (reA w2.heap.size (xs.take n) (ys.take n)*R)):=hid (Hold.reShut (by rw[HL.out];exact H3.out.pk3 [0,2,1]));clear s1 s2;go_wp2_with fail;go_ret;exact⟨_,rfl,H4.out⟩
theorem Z7b (w0 w:World) (R:Asr) (g:Nat) (ps vs:List Int) (h:Hold w0 w (reA g ps vs*R)) :
  Calls Tryz.prog 176 #[.pointer (some ⟨g,0,none⟩)] w fun e w'=>e = .returned (.bool ps.isEmpty)/\w=w':=by
 obtain⟨A,c,B,d,h1⟩:=h.reOpen;have q0:=h1.blk.some_ (i:=0) rfl;clear h h1
 cases ps with
 | nil =>
  go_enter Tryz.func176,Tryz.ntmps176;go_wp2;go_ret;exact⟨rfl,rfl⟩
 | cons z zs =>
  have e1:(((z::zs).length:Int)==0)=false:=by simp;omega
  go_enter Tryz.func176,Tryz.ntmps176;go_wp2;go_ret;exact⟨Z83 (by simp;try omega),rfl⟩
theorem Z9y (w0 w:World) (R:Asr) (g m:Nat) (C:Nat->List Int) (z x:Int) (zs xs:List Int) (h:Hold w0 w (reA g (z::zs) (x::xs)*(memA m C*R))) (hC:COk C) (hz:-9223372036854775808<=z/\z<=9223372036854775807) :
  Calls Tryz.prog 175 #[.pointer (some ⟨g,0,none⟩),.pointer (some ⟨m,0,none⟩)] w
   (Z0b w0 (reA g zs xs*(memA m (opC C 2 z x true)*R)) (opA C 2 2 z x true)):=by
 obtain⟨a,ha⟩:∃a,a=opA C 2 2 z x true:=⟨_,rfl⟩;obtain⟨C',hC'⟩:∃C',C'=opC C 2 z x true:=⟨_,rfl⟩;rw[<- ha,<- hC'];have HA:=hid ha;have HC':=hid hC';have HK:=hid hC;clear ha hC hC';have h1:=(nb h).swap;have H1:=hid h1;clear h h1;go_enter Tryz.func175,Tryz.ntmps175;go_wp2_with fail;have h1:=H1.out;generalize hW:World.alloc _ _=W at h1 |-;generalize w.heap.size=gr at h1 |-;clear hW H1;refine(Z7b w0 _ _ g (z::zs) (x::xs) h1).mono ?_;rintro e w' ⟨rfl,rfl⟩;rw[show (z::zs).isEmpty=false from rfl];obtain⟨A,c,B,d,h2⟩:=h1.reOpen;obtain⟨ad,rfl,hat⟩:=(h2.pk3 [1,0,2]).slAt2 (k:=0) (by simp);obtain⟨bd,rfl,hbt⟩:=(h2.pk3 [2,0,1]).slAt2 (k:=0) (by simp);have HAT:Hid (∀w' R',Hold w0 w' (slA (some ad) (z::zs).length c ((z::zs).map (Value.int .i64))*R')->w'.cell? (ad.add 0)=some (.int .i64 z)):=hid hat;have HBT:Hid (∀w' R',Hold w0 w' (slA (some bd) (z::zs).length d ((x::xs).map (Value.int .u64))*R')->w'.cell? (bd.add 0)=some (.int .u64 x)):=hid hbt;have hlen:0<(z::zs).length:=by simp
 have hlen2:0<zs.length+1:=by omega
 have hxl:xs.length=zs.length:=by have:=(h2.pk3 [2,0,1]).slLen;simpa using this
 clear h1 hat hbt;go_upto_region 3 with fail
 go_cut [5] (fun s wx=>∃ga,s = .pointer (some ⟨ga,0,none⟩)/\Hold w0 wx (blkA 50 ga #[.int .i64 a.kind,.int .i64 a.cell,.int .i64 a.index,.int .u64 a.got,.int .u64 a.put,.bool a.done]*(blkA 261 g #[.slice (some ad) (z::zs).length c,.slice (some bd) (z::zs).length d]*(slA (some ad) (z::zs).length c ((z::zs).map (Value.int .i64))*(slA (some bd) (z::zs).length d ((x::xs).map (Value.int .u64))*(blkA 50 gr #[.int .i64 0,.int .i64 0,.int .i64 0,.int .u64 0,.int .u64 0,.bool false]*(memA m C'*R)))))))
 case first =>
  replace h2:=h2.drew;refine Z01 [18] (by kernel_rfl) ?_;refine Z04 (fun w'=>∃Z,Hold w0 w' (blkA 261 g #[.slice (some ad) (z::zs).length c,.slice (some bd) (z::zs).length d]*(slA (some ad) (z::zs).length c ((z::zs).map (Value.int .i64))*(slA (some bd) (z::zs).length d ((x::xs).map (Value.int .u64))*Z)))) (fun _ _=>trivial) _ _ _ _ ?_;refine' wbk [true,true,true,true,true,true,true,true,true,true,true,true,true] 44 ⟨_,h2⟩ (fun wq hq=>?_) ?_;rotate_left
  ·simp only[Z08]
   obtain⟨Z,hq⟩:=hq;have q0:=hq.blk.some_ (i:=0) rfl;have q1:=hq.blk.some_ (i:=1) rfl;have q2:=HAT.out wq _ (hq.pk3 [1,0,2]);have q3:=HBT.out wq _ (hq.pk3 [2,0,1]);have q4:wq.cell? ad=some (.int .i64 z):=q2;have q5:wq.cell? bd=some (.int .u64 x):=q3
   repeat (go_big_quiet_step (fail))
   exact wpQuiet_nil rfl
  refine Z0f [false,false,false,false,false,false,false,false,false,false,false,false,false,true] [false,false,false,false,false,false,false,false,false,false,false,false,false,false,false,false,false,true] (fuel:=6) (by rfl) (by rfl) (by rfl) (by rfl) (by kernel_rfl) (fun QB hQB hQX=>?_) (fun QB hQB hQX=>?_)
  ·simp only[Z08]
   go_wp2_with fail
   first
    | refine(Z0z w0 _ _ m C 2 z x (h4.pk6 [5,0,1,2,3,4]) hz HK.out.len).mono ?_
    | refine(Z0z w0 _ _ m C 2 z x (h2.pk5 [4,0,1,2,3]) hz HK.out.len).mono ?_
   rintro e w2 ⟨rfl,h5⟩;rw[<- HA.out];rw[<- HC'.out] at h5;generalize opE C 2 z=er;go_wp2_with fail;refine hQB.out _ _ (by first|exact⟨_,h5.pk6 [2,3,4,5,1,0]⟩|exact⟨_,h5.pk5 [1,2,3,4,0]⟩) ?_;clear hQB hQX QB;refine' wbz [false,false,false,false,false,false,false,false,false,false,false,false,false,false,true,true,true] 44 (by first|exact⟨_,h5.pk6 [2,3,4,5,1,0]⟩|exact⟨_,h5.pk5 [1,2,3,4,0]⟩) ?_;refine wbi 17 (fuel:=2) (fun QB hQB hQX=>?_)
   first
    | have h4:=hid ((h5.pk5 [1,2,3,4,0]).newBlk (t:=50) (cs:=#[.int .i64 0,.int .i64 0,.int .i64 0,.int .u64 0,.int .u64 0,.bool false]))
    | have h4:=hid ((nb h2.undrew).drew)
   go_wp2_with fail;refine hQB.out _ _ ⟨_,h4.out.drop⟩ ?_;clear hQB hQX QB;replace h4:=h4.out;generalize hW:World.alloc _ _=W4 at h4 |-;clear hW
   first|generalize w2.heap.size=ga at h4 |- | generalize W.heap.size=ga at h4 |-
   refine wbj 18 (fuel:=1) (fun QB hQB hQX=>?_)
   first|have hf:=h5.pk6 [1,2,3,4,5,0]|have hf:=h4
   obtain⟨⟨x0,x1,x2,x3,x4,x5⟩,z0,z1,z2,z3,z4,z5⟩:=Z07 hf.blk;have H8:=hid (hf.Zls (.int .i64 a.kind) (.int .i64 a.cell) (.int .i64 a.index) (.int .u64 a.got) (.int .u64 a.put) (.bool a.done));clear hf h2 h4 h5;go_wp2_with fail;refine hQB.out _ _ ?_;clear hQB hQX QB;refine Z06 (by kernel_rfl) ?_;refine' wby [false,false,false,false,false,false,false,false,false,false,false,false,false,false,false,false,false,false,false,true] 44 trivial ?_;refine Z02 (by kernel_rfl) ?_ _;clear x0 x1 x2 x3 x4 x5 z0 z1 z2 z3 z4 z5;go_wp2_with fail;go_meet;exact⟨ga,rfl,H8.out⟩
  ·simp only[Z08]
   first
    | have h4:=hid ((h5.pk5 [1,2,3,4,0]).newBlk (t:=50) (cs:=#[.int .i64 0,.int .i64 0,.int .i64 0,.int .u64 0,.int .u64 0,.bool false]))
    | have h4:=hid ((nb h2.undrew).drew)
   go_wp2_with fail;refine hQB.out _ _ ⟨_,h4.out.drop⟩ ?_;clear hQB hQX QB;replace h4:=h4.out;generalize hW:World.alloc _ _=W4 at h4 |-;clear hW
   first|generalize w2.heap.size=ga at h4 |- | generalize W.heap.size=ga at h4 |-
   refine wbi 13 (fuel:=5) (fun QB hQB hQX=>?_);go_wp2_with fail
   first
    | refine(Z0z w0 _ _ m C 2 z x (h4.pk6 [5,0,1,2,3,4]) hz HK.out.len).mono ?_
    | refine(Z0z w0 _ _ m C 2 z x (h2.pk5 [4,0,1,2,3]) hz HK.out.len).mono ?_
   rintro e w2 ⟨rfl,h5⟩;rw[<- HA.out];rw[<- HC'.out] at h5;generalize opE C 2 z=er;go_wp2_with fail;refine hQB.out _ _ (by first|exact⟨_,h5.pk6 [2,3,4,5,1,0]⟩|exact⟨_,h5.pk5 [1,2,3,4,0]⟩) ?_;clear hQB hQX QB;refine' wbz [false,false,false,false,false,false,false,false,false,false,false,false,false,false,true,true,true] 44 (by first|exact⟨_,h5.pk6 [2,3,4,5,1,0]⟩|exact⟨_,h5.pk5 [1,2,3,4,0]⟩) ?_;refine wbj 18 (fuel:=1) (fun QB hQB hQX=>?_)
   first|have hf:=h5.pk6 [1,2,3,4,5,0]|have hf:=h4
   obtain⟨⟨x0,x1,x2,x3,x4,x5⟩,z0,z1,z2,z3,z4,z5⟩:=Z07 hf.blk;have H8:=hid (hf.Zls (.int .i64 a.kind) (.int .i64 a.cell) (.int .i64 a.index) (.int .u64 a.got) (.int .u64 a.put) (.bool a.done));clear hf h2 h4 h5;go_wp2_with fail;refine hQB.out _ _ ?_;clear hQB hQX QB;refine Z06 (by kernel_rfl) ?_;refine' wby [false,false,false,false,false,false,false,false,false,false,false,false,false,false,false,false,false,false,false,true] 44 trivial ?_;refine Z02 (by kernel_rfl) ?_ _;clear x0 x1 x2 x3 x4 x5 z0 z1 z2 z3 z4 z5;go_wp2_with fail;go_meet;exact⟨ga,rfl,H8.out⟩
 case rest =>
 obtain⟨ga,rfl,h5⟩:=hcut;clear HAT HBT h2 hlen hlen2;have t1:=fun w=>Z1x (P:=Tryz.prog) 23 (by kernel_rfl) Zbc w ad zs.length c;have t2:=fun w=>Z1x (P:=Tryz.prog) 33 (by kernel_rfl) Zbb w bd zs.length d;obtain⟨A2,hA2⟩:∃A2,A2=if c=1 then some ad else some (ad.add 1):=⟨_,rfl⟩
 obtain⟨B2,hB2⟩:∃B2,B2=if d=1 then some bd else some (bd.add 1):=⟨_,rfl⟩
 rw[<- hA2] at t1;rw[<- hB2] at t2;have HA2:=hid hA2;have HB2:=hid hB2;have HXL:=hid hxl;clear hA2 hB2 hxl;replace h5:=h5.pk3 [1,0,2];go_wp2_with fail;replace h5:=h5.drew;refine Z01 [14,17] (by kernel_rfl) ?_;refine Z04 (fun w'=>∃Z,Hold w0 w' (blkA 261 g #[.slice (some ad) (zs.length+1) c,.slice (some bd) (zs.length+1) d]*Z)) (fun _ _=>trivial) _ _ _ _ ?_;refine' wbz [true,true,true,true,true,false,false,true,true,true] 44 ⟨_,h5⟩ ?_;refine' wbk [false,false,false,false,false,true,true,false,false,false,true] 44 ⟨_,h5⟩ (fun wq hq=>?_) ?_;rotate_left
 ·simp only[Z08]
  obtain⟨Z,hq⟩:=hq;have q0:=hq.blk.some_ (i:=0) rfl;have q1:=hq.blk.some_ (i:=1) rfl
  repeat (go_big_quiet_step (fail))
  exact wpQuiet_nil rfl
 refine' wbz [false,false,false,false,false,false,false,false,false,false,false,true,true,true] 44 ⟨_,h5⟩ ?_;refine wbj 14 (fuel:=3) (fun QB hQB hQX=>?_);replace h5:=h5.undrew;have q0:=h5.blk.some_ (i:=0) (u:=.slice (some ad) (zs.length+1) c) rfl;have q1:=h5.blk.some_ (i:=1) (u:=.slice (some bd) (zs.length+1) d) rfl;have z0:=h5.blk.frozen 0;have z1:=h5.blk.frozen 1;have h6:=(h5.Zlp 0 (.slice A2 zs.length (c - 1))).Zlp 1 (.slice B2 zs.length (d - 1));have H6:=hid h6;clear h5 h6;go_wp2_with fail;refine hQB.out _ _ ?_;clear hQB hQX QB;refine Z06 (by kernel_rfl) ?_;refine' wby [false,false,false,false,false,false,false,false,false,false,false,false,false,false,false,true,true] 44 trivial ?_;refine wbi 17 (fuel:=0) (fun QB hQB hQX=>?_);go_wp2_with fail;refine hQB.out _ _ trivial ?_;clear hQB hQX QB;refine Z02 (by kernel_rfl) ?_ _;clear q0 q1 z0 z1 t1 t2;have h6:=H6.out;generalize hW:World.setCell _ _ _=W6 at h6 |-;clear hW H6;have h7:Hold w0 W6 (blkA 261 g #[.slice A2 zs.length (c - 1),.slice B2 zs.length (d - 1)]*(blkA 50 ga #[.int .i64 a.kind,.int .i64 a.cell,.int .i64 a.index,.int .u64 a.got,.int .u64 a.put,.bool a.done]*(slA A2 zs.length (c - 1) (zs.map (Value.int .i64))*(slA B2 zs.length (d - 1) (xs.map (Value.int .u64))*(blkA 50 gr #[.int .i64 0,.int .i64 0,.int .i64 0,.int .u64 0,.int .u64 0,.bool false]*(memA m C'*R)))))):=by
  rw[HA2.out,HB2.out];rw[HA2.out,HB2.out] at h6;exact h6.imp (Imp.under _ (Imp.under _ ((Imp.on _ (Imp.slTail _ _ _ _ _)).trans (Imp.under _ (Imp.on _ (Imp.slTail _ _ _ _ _))))))
 clear h6 HA2 HB2;obtain⟨⟨x0,x1,x2,x3,x4,x5⟩,z0,z1,z2,z3,z4,z5⟩:=Z07 (h7.pk5 [4,0,1,2,3]).blk;obtain⟨⟨y0,y1,y2,y3,y4,y5⟩,_⟩:=Z07 h7.drop.blk;have H8:=hid ((h7.pk5 [4,0,1,2,3]).Zls (.int .i64 a.kind) (.int .i64 a.cell) (.int .i64 a.index) (.int .u64 a.got) (.int .u64 a.put) (.bool a.done));clear h7;go_wp2_with fail;have h8:=H8.out;generalize hW:World.setCell _ _ _=W8 at h8 |-;clear hW H8 x0 x1 x2 x3 x4 x5 z0 z1 z2 z3 z4 z5 y0 y1 y2 y3 y4 y5;obtain⟨⟨y0,y1,y2,y3,y4,y5⟩,_⟩:=Z07 h8.blk;have h9:Hold w0 W8 (blkA 261 g #[.slice A2 zs.length (c - 1),.slice B2 zs.length (d - 1)]*(slA A2 zs.length (c - 1) (zs.map (Value.int .i64))*(slA B2 zs.length (d - 1) (xs.map (Value.int .u64))*(memA m C'*R)))):=h8.pk5 [1,3,4];have hfin:Hid (Z0b w0 (reA g zs xs*(memA m C'*R)) a (.returned a.val) W8.drew):=hid ⟨rfl,h9.drew.reShut⟩;exact bodyPost_ret (v:=a.val) (by simp[results,Tryz.results175,go_sem,y0,y1,y2,y3,y4,y5]) rfl hfin.out
def FinQ (w0:World) (g:Nat) (c:Cfg) (x:AtR) (al:List Int) (R:Asr) (w':World):Prop :=
 (x.pushed=(al.length:Int)/\Hold w0 w' (atA g c {x with at_:=14}*R)) \/
 ∃(k:Nat) (b:Int) (gp:Nat),x.pushed=(k:Int)/\al[k]?=some b/\Hold w0 w' (atA g c {x with at_:=13,push:=ptrV gp}*(puA gp (clsS c b) b 0 0*R))
section
variable {w0 w:World} {R:Asr} {g:Nat} {c:Cfg} {x:AtR} {A:Option Addr} {n cp:Nat} {al:List Int}
theorem Zjj (h:Hold w0 w (atA g c x*R)) (hc:x.code=1):Calls Tryz.prog 98 #[ptrV g] w fun e w'=>e = .returned (.tuple #[])/\Hold w0 w' (atA g c {x with at_:=14}*R):=by
 replace h:=h.drew;have p1:=h.Zly;have z1:=h.atZ 31;have hs0:=h.at_code;rw[hc] at hs0;have H2:=hid (h.Zlx 14);clear h hc;go_enter Tryz.func98,Tryz.ntmps98;go_upto_region 0 with fail
 refine Z01 [] (by kernel_rfl) ?_;refine Z04 (fun w'=>w'.cell? ⟨g,30,none⟩=some (.int .i64 1)) (fun _ _=>trivial) _ _ _ _ ?_;refine' wby [true,true,true,true,true,true,true,true,true,true,true,true,true,true,true,true,true,true] 50 hs0 ?_;refine Z02 (by kernel_rfl) ?_ _;go_wp2_with fail;refine bodyPost_ret (results_none rfl _ _ _) rfl ?_;exact⟨rfl,H2.out⟩
theorem Zez (h:Hold w0 w (atA g c x*(queA 3 (.slice A n cp) (iL al)*R))) (hx:x.allocs = .slice A n cp) (hn:n=al.length) {k:Nat} (hp:x.pushed=(k:Int)) (hk:k<=n) (hn2:n<=1000) (hc:x.code≠1) (hcf:CfS c) (hal:∀b∈al,0<=b/\b<(nbl c:Nat)) :
  Calls Tryz.prog 98 #[ptrV g] w fun e w'=>e = .returned (.tuple #[])/\FinQ w0 g c x al (queA 3 (.slice A n cp) (iL al)*R) w':=by
 replace h:=h.drew;have e1:(x.code==1)=false:=beq_eq_false_iff_ne.2 hc;have hs0:w.drew.cell? ⟨g,30,none⟩=some (.int .i64 x.code)/\w.drew.cell? ⟨g,3,none⟩=some (.slice A n cp)/\w.drew.cell? ⟨g,39,none⟩=some (.int .i64 (k:Int)):=by
  have h1:=h.at_allocs;have h2:=h.at_pushed;rw[hx] at h1;rw[hp] at h2;exact⟨h.at_code,h1,h2⟩
 have H:=hid h;have HX:=hid (And.intro hx (And.intro hn (And.intro hp (And.intro hcf hal))));clear h hx hp hc;go_enter Tryz.func98,Tryz.ntmps98;go_upto_region 0 with fail
 refine Z01 [] (by kernel_rfl) ?_;refine Z04 (fun w'=>w'.cell? ⟨g,30,none⟩=some (.int .i64 x.code)/\w'.cell? ⟨g,3,none⟩=some (.slice A n cp)/\w'.cell? ⟨g,39,none⟩=some (.int .i64 (k:Int))) (fun _ _=>trivial) _ _ _ _ ?_;refine' wbk [true,true,true,true,true,true,true,true,true,true,true,true,true,true,true,true,true,true] 50 hs0 (fun wq hq=>?_) ?_;rotate_left
 ·simp only[Z08]
  obtain⟨q1,q2,q3⟩:=hq
  repeat (go_big_quiet_step (fail))
  exact wpQuiet_nil rfl
 refine Z02 (by kernel_rfl) ?_ _;clear hs0
 by_cases hkn:k=n
 ·have e2:((k:Int)==(n:Int))=true:=beq_iff_eq.2 (by omega)
  have HK:Hid (x.pushed=(al.length:Int)):=hid (by rw[HX.out.2.2.1,hkn,HX.out.2.1]);have p1:=H.out.Zly;have z1:=H.out.atZ 31;have H2:=hid (H.out.Zlx 14);clear hkn H;go_wp2_with fail;refine bodyPost_ret (results_none rfl _ _ _) rfl ?_;exact⟨rfl,.inl ⟨HK.out,H2.out⟩⟩
 ·have e2:((k:Int)==(n:Int))=false:=beq_eq_false_iff_ne.2 (by omega)
  obtain⟨b,hb⟩:∃b,al[k]?=some b:=⟨_,List.getElem?_eq_getElem (by omega)⟩;have hbr:=hal b (List.mem_of_getElem? hb);obtain⟨ad,rfl⟩:∃ad,A=some ad:=by
   obtain⟨fp,hp⟩:=H.out.swap.get;obtain⟨_,_,_,bb,h4,_⟩:=queReads hp;obtain⟨ad,hA,_,_⟩:=h4.cellAt (k:=k) (by omega);exact⟨ad,hA⟩
  have HB:=hid (And.intro hb hbr);have n0:(0:Int)<=(k:Int):=by omega
  have n1:(k:Int)<(n:Int):=by omega
  have n2:k<n:=by omega
  have h:=H.out.drew;have hs2:w.drew.drew.cell? ⟨g,3,none⟩=some (.slice (some ad) n cp)/\w.drew.drew.cell? ⟨g,39,none⟩=some (.int .i64 (k:Int))/\w.drew.drew.cell? (ad.add k)=some (.int .i64 b):=by
   have h1:=h.at_allocs;have h2:=h.at_pushed;rw[HX.out.1] at h1;rw[HX.out.2.2.1] at h2;exact⟨h1,h2,h.swap.queAt (by rw[List.getElem?_map,hb];rfl)⟩
  clear hkn hb hbr H hal hcf;go_upto_region 2 with fail
  refine Z01 [] (by kernel_rfl) ?_;generalize hW:w.drew.drew=W at h hs2 |-;clear hW;refine Z04 (fun w'=>w'.cell? ⟨g,3,none⟩=some (.slice (some ad) n cp)/\w'.cell? ⟨g,39,none⟩=some (.int .i64 (k:Int))/\w'.cell? (ad.add k)=some (.int .i64 b)) (fun _ _=>trivial) _ _ _ _ ?_;refine' wbk [true,true,true,true,true,true,true,true,true,true,true,true] 50 hs2 (fun wq hq=>?_) ?_;rotate_left
  ·simp only[Z08]
   obtain⟨q1,q2,q3⟩:=hq
   repeat (go_big_quiet_step (fail))
   exact wpQuiet_nil rfl
  refine Z02 (by kernel_rfl) ?_ _;clear hs2;have HCL:=hid (Z82 W HX.out.2.2.2.1 HB.out.2.1 HB.out.2.2);go_wp2_with (refine Z0l rfl 32 _ rfl g 15 155 40 _ c.cells rfl Tryz.isAgg32 13 Tryz.sizeOf32 h rfl (by decide) ?_);refine HCL.out.mono ?_;rintro e w1 ⟨rfl,hc1⟩;have h1:=h.chg0 hc1;have HP:=hid (Zhh w0 w1 _ (clsS c b) b h1);clear hc1 h HCL h1;go_wp2_with fail;refine HP.out.mono ?_;rintro e w2 ⟨gp,rfl,h2⟩;replace h2:=h2.swap;have p1:=h2.Zly;have z1:=h2.atZ 31;have h3:=h2.Zlx 13;have p2:=h2.at_push;have z2:=h2.atZ 14;have H4:=hid (h3.at_push_set (ptrV gp));clear h2 h3 HP;go_wp2_with fail
  go_end0
  exact⟨rfl,.inr ⟨k,b,gp,HX.out.2.2.1,HB.out.1,H4.out⟩⟩
theorem Z2j {k:Nat} (v:Int) (h:Hold w0 w (atA g c x*(queA 3 (.slice A n cp) (iL al)*R))) (hx:x.allocs = .slice A n cp) (hn:n=al.length) (hp:x.pushed=(k:Int)) (hk:k<=n) (hn2:n<=1000) (hv:v≠1) (hcf:CfS c) (hal:∀b∈al,0<=b/\b<(nbl c:Nat)) :
  Calls Tryz.prog 147 #[ptrV g,.int .i64 v] w fun e w'=>e = .returned (.tuple #[])/\FinQ w0 g c {x with code:=v} al (queA 3 (.slice A n cp) (iL al)*R) w':=by
 have p1:=h.at_code;have z1:=h.atZ 30;have HF:=hid (Zez (h.at_code_set v) hx hn hp hk hn2 hv hcf hal);clear h hx hp hv hcf hal hn;go_enter Tryz.func147,Tryz.ntmps147;go_wp2_with fail;refine HF.out.mono ?_;rintro e w' ⟨rfl,h1⟩;have H1:=hid h1;clear h1;go_wp2_with fail
 go_end0
 exact⟨rfl,H1.out⟩
theorem Z9e {gl k:Nat} {L:PL} {a v:Int} (h:Hold w0 w (atA g c x*(lgA gl L*(queA 3 (.slice A n cp) (iL al)*R)))) (hxl:x.log=gl) (H:Inv L) (hok:Z1y L a=false) (hx:x.allocs = .slice A n cp) (hn:n=al.length) (hp:x.pushed=(k:Int)) (hk:k<=n) (hn2:n<=1000) (hcf:CfS c) (hal:∀b∈al,0<=b/\b<(nbl c:Nat)) :
  Calls Tryz.prog 118 #[ptrV g,.int .i64 a,.int .u64 v] w fun e w'=>e = .returned (.bool false)/\FinQ w0 g c {x with code:=3} al (queA 3 (.slice A n cp) (iL al)*(lgA gl (putL L a v)*R)) w':=by
 have q2:=h.at_log;rw[hxl] at q2;have hl:=Zho a v h.swap H;rw[hok] at hl;have HL:=hid hl;have HU:∀w',Hold w0 w' (atA g c x*(queA 3 (.slice A n cp) (iL al)*(lgA gl (putL L a v)*R)))->Hid (Calls Tryz.prog 147 #[ptrV g,.int .i64 3] w' fun e w'=>e = .returned (.tuple #[])/\FinQ w0 g c {x with code:=3} al (queA 3 (.slice A n cp) (iL al)*(lgA gl (putL L a v)*R)) w'):=fun w' h=>hid (Z2j 3 h hx hn hp hk hn2 (by decide) hcf hal);clear h hx hok hl hxl hp hcf hal hn;go_enter Tryz.func118,Tryz.ntmps118;go_wp2_with fail;refine HL.out.mono ?_;rintro e w' ⟨rfl,h1⟩;have HUU:=HU _ (h1.pk3 [1,2,0]);clear h1 HU;go_wp2_with fail;refine HUU.out.mono ?_;rintro e w' ⟨rfl,h1⟩;have H1:=hid h1;clear h1;go_wp2_with fail;go_ret;exact⟨rfl,H1.out⟩
end
section
variable {w0 w:World} {R:Asr} {g m:Nat} {c:Cfg} {x:AtR} {C C2:Nat->List Int} {a:Acc}
theorem Z89 {ge:Nat} {th ck:Int} (h:Hold w0 w (atA g c x*(enA ge th 0 ck*(memA m C*R)))) (hx:x.enter=ptrV ge) (hC:COk C) (h0:0<=ck/\ck<=1099511627776) (hth:0<=th/\th<=100) (ha:opA C 2 6 th 1 true=a) (hC2:opC C 6 th 1 true=C2) :
  Calls Tryz.prog 86 #[ptrV g,ptrV m] w (Z5o w0 (atA g c x*(enA ge th 1 ck*(memA m C2*R))) a 2):=by
 have HX:=hid hx;have HC:=hid hC;have HA:=hid ha;have HC2:=hid hC2;clear hx hC ha hC2;have H1:=hid (nb h);clear h;go_enter Tryz.func86,Tryz.ntmps86;go_upto_region 1 with fail
 have h1:=H1.out;generalize hW:w.alloc _=W at h1 |-;generalize w.heap.size=gr at h1 |-;clear hW H1;have h2:Hold w0 W (atA g c x*(enA ge th 0 ck*(memA m C*(blkA 50 gr (acD acc0)*R)))):=h1.pk4 [1,2,3,0];clear h1;have q:=h2.at_enter;rw[HX.out] at q;have hs:=Z4w h2 HX.out ⟨h0.1,by omega⟩;have HE:=hid (Z4p w0 W _ ge th 0 ck h2.swap ⟨h0.1,by omega⟩);have HS:=hid (Zgv w0 W _ ge m C th ck a (h2.pk3 [1,2,0]) HC.out (by omega) HA.out);clear h2 hs;go_upto_region 2 with(refine HE.out.mono ?_;rintro e w' ⟨rfl,rfl⟩)
 go_wp2_with fail;refine HS.out.mono ?_;rintro e w3 ⟨rfl,h3⟩;rw[HC2.out] at h3;clear HS HE q;have H7:=hid (nb h3);clear h3;go_upto_region 3 with(refine Z00 rfl 50 _ _ rfl w3.heap.size _ _ (acD a) rfl rfl _ Tryz.sizeOf50 H7.out rfl rfl rfl ?_;intro y2 h4);clear H7;generalize w3.heap.size=gc at h4 |-;have h5:Hold w0 y2 (atA g c x*(enA ge th 1 ck*(memA m C2*(blkA 50 gr (acD acc0)*(blkA 50 gc (acD a)*R))))):=h4.pk5 [3,1,2,4,0];clear h4;have q:=h5.at_enter;rw[HX.out] at q;have HD:=hid (Zam w0 y2 _ ge th 1 ck h5.swap);have HE:=hid (Z4p w0 y2 _ ge th 1 ck h5.swap ⟨by omega,by omega⟩);have h6:Hold w0 y2 (blkA 50 gr (acD acc0)*(blkA 50 gc (acD a)*(atA g c x*(enA ge th 1 ck*(memA m C2*R))))):=h5.pk5 [3,4,0,1,2];clear h5;have e1:(Z2z 0 ck != Z2z 1 ck)=false:=rfl;go_upto_region 8 with(first|(refine HD.out.mono ?_;rintro e w' ⟨rfl,rfl⟩)|(refine HE.out.mono ?_;rintro e w' ⟨rfl,rfl⟩));clear HD HE q e1;go_wp2_with (first|(refine Z03 rfl 50 _ rfl gc _ _ rfl Tryz.isAgg50 _ Tryz.sizeOf50 h6.drop.blk rfl ?_)|(refine Z00 rfl 50 _ _ rfl gr _ _ (acD a) rfl rfl _ Tryz.sizeOf50 h6 rfl rfl rfl ?_;intro y9 h99));have HF:Hid (Z5o w0 (atA g c x*(enA ge th 1 ck*(memA m C2*R))) a 2 (.returned (.tuple #[a.val,.int .i64 2])) y9):=hid ⟨rfl,h99.drop.drop⟩;exact bodyPost_ret (Z05 Tryz.results86 _ rfl Tryz.isAgg50 _ Tryz.sizeOf50 h99.blk rfl) rfl HF.out
theorem Z88 {ge:Nat} {th ck:Int} (h:Hold w0 w (atA g c x*(enA ge th 1 ck*(memA m C*R)))) (hx:x.enter=ptrV ge) (hC:COk C) (h0:0<=ck/\ck<=1099511627776) (hth:0<=th/\th<=100) (ha:opA C 1 3 0 (valC C 3 0) true=a) (hC2:C=C2) (hg:0<=a.got/\a.got<=1099511627776) :
  Calls Tryz.prog 86 #[ptrV g,ptrV m] w (Z5o w0 (atA g c x*(enA ge th 2 a.got*(memA m C2*R))) a 3):=by
 have HX:=hid hx;have HC:=hid hC;have HA:=hid ha;have HC2:=hid hC2;clear hx hC ha hC2;have H1:=hid (nb h);clear h;go_enter Tryz.func86,Tryz.ntmps86;go_upto_region 1 with fail
 have h1:=H1.out;generalize hW:w.alloc _=W at h1 |-;generalize w.heap.size=gr at h1 |-;clear hW H1;have h2:Hold w0 W (atA g c x*(enA ge th 1 ck*(memA m C*(blkA 50 gr (acD acc0)*R)))):=h1.pk4 [1,2,3,0];clear h1;have q:=h2.at_enter;rw[HX.out] at q;have hs:=Z4w h2 HX.out ⟨h0.1,by omega⟩;have HE:=hid (Z4p w0 W _ ge th 1 ck h2.swap ⟨h0.1,by omega⟩);have HS:=hid (Zgu w0 W _ ge m C th ck a (h2.pk3 [1,2,0]) HC.out HA.out);clear h2 hs;go_upto_region 2 with(refine HE.out.mono ?_;rintro e w' ⟨rfl,rfl⟩)
 go_wp2_with fail;refine HS.out.mono ?_;rintro e w3 ⟨rfl,h3⟩;have hCC:=HC2.out;subst hCC;clear HS HE q;have H7:=hid (nb h3);clear h3;go_upto_region 3 with(refine Z00 rfl 50 _ _ rfl w3.heap.size _ _ (acD a) rfl rfl _ Tryz.sizeOf50 H7.out rfl rfl rfl ?_;intro y2 h4);clear H7;generalize w3.heap.size=gc at h4 |-;have h5:Hold w0 y2 (atA g c x*(enA ge th 2 a.got*(memA m C*(blkA 50 gr (acD acc0)*(blkA 50 gc (acD a)*R))))):=h4.pk5 [3,1,2,4,0];clear h4;have q:=h5.at_enter;rw[HX.out] at q;have HD:=hid (Zam w0 y2 _ ge th 2 a.got h5.swap);have HE:=hid (Z4p w0 y2 _ ge th 2 a.got h5.swap ⟨by omega,by omega⟩);have h6:Hold w0 y2 (blkA 50 gr (acD acc0)*(blkA 50 gc (acD a)*(atA g c x*(enA ge th 2 a.got*(memA m C*R))))):=h5.pk5 [3,4,0,1,2];clear h5;have e1:(Z2z 1 ck != Z2z 2 a.got)=true:=(by simp[Z2z];omega);go_upto_region 7 with(first|(refine HD.out.mono ?_;rintro e w' ⟨rfl,rfl⟩)|(refine HE.out.mono ?_;rintro e w' ⟨rfl,rfl⟩));clear HD HE q e1;go_wp2_with (first|(refine Z03 rfl 50 _ rfl gc _ _ rfl Tryz.isAgg50 _ Tryz.sizeOf50 h6.drop.blk rfl ?_)|(refine Z00 rfl 50 _ _ rfl gr _ _ (acD a) rfl rfl _ Tryz.sizeOf50 h6 rfl rfl rfl ?_;intro y9 h99));have HF:Hid (Z5o w0 (atA g c x*(enA ge th 2 a.got*(memA m C*R))) a 3 (.returned (.tuple #[a.val,.int .i64 3])) y9):=hid ⟨rfl,h99.drop.drop⟩;exact bodyPost_ret (Z05 Tryz.results86 _ rfl Tryz.isAgg50 _ Tryz.sizeOf50 h99.blk rfl) rfl HF.out
theorem Z87 {ge:Nat} {th ck:Int} (h:Hold w0 w (atA g c x*(enA ge th 2 ck*(memA m C*R)))) (hx:x.enter=ptrV ge) (hC:COk C) (h0:0<=ck/\ck<=1099511627776) (hth:0<=th/\th<=100) (ha:opA C 2 6 th (ck+2) true=a) (hC2:opC C 6 th (ck+2) true=C2) :
  Calls Tryz.prog 86 #[ptrV g,ptrV m] w (Z5o w0 (atA g c {x with at_:=0}*(enA ge th 3 ck*(memA m C2*R))) a 4):=by
 have HX:=hid hx;have HC:=hid hC;have HA:=hid ha;have HC2:=hid hC2;clear hx hC ha hC2;have H1:=hid (nb h);clear h;go_enter Tryz.func86,Tryz.ntmps86;go_upto_region 1 with fail
 have h1:=H1.out;generalize hW:w.alloc _=W at h1 |-;generalize w.heap.size=gr at h1 |-;clear hW H1;have h2:Hold w0 W (atA g c x*(enA ge th 2 ck*(memA m C*(blkA 50 gr (acD acc0)*R)))):=h1.pk4 [1,2,3,0];clear h1;have q:=h2.at_enter;rw[HX.out] at q;have hs:=Z4w h2 HX.out ⟨h0.1,by omega⟩;have HE:=hid (Z4p w0 W _ ge th 2 ck h2.swap ⟨h0.1,by omega⟩);have HS:=hid (Zgt w0 W _ ge m C th ck a (h2.pk3 [1,2,0]) HC.out h0 (by omega) HA.out);clear h2 hs;go_upto_region 2 with(refine HE.out.mono ?_;rintro e w' ⟨rfl,rfl⟩)
 go_wp2_with fail;refine HS.out.mono ?_;rintro e w3 ⟨rfl,h3⟩;rw[HC2.out] at h3;clear HS HE q;have H7:=hid (nb h3);clear h3;go_upto_region 3 with(refine Z00 rfl 50 _ _ rfl w3.heap.size _ _ (acD a) rfl rfl _ Tryz.sizeOf50 H7.out rfl rfl rfl ?_;intro y2 h4);clear H7;generalize w3.heap.size=gc at h4 |-;have h5:Hold w0 y2 (atA g c x*(enA ge th 3 ck*(memA m C2*(blkA 50 gr (acD acc0)*(blkA 50 gc (acD a)*R))))):=h4.pk5 [3,1,2,4,0];clear h4;have q:=h5.at_enter;rw[HX.out] at q;have HD:=hid (Zam w0 y2 _ ge th 3 ck h5.swap);have p:=h5.Zly;have z:=h5.atZ 31;have H6:=hid ((h5.Zlx 0).pk5 [3,4,0,1,2]);clear h5;go_upto_region 5 with(refine HD.out.mono ?_;rintro e w' ⟨rfl,rfl⟩);have h6:=H6.out;generalize hW:World.setCell _ _ _=W6 at h6 |-;clear hW H6 HD q p z;go_wp2_with (first|(refine Z03 rfl 50 _ rfl gc _ _ rfl Tryz.isAgg50 _ Tryz.sizeOf50 h6.drop.blk rfl ?_)|(refine Z00 rfl 50 _ _ rfl gr _ _ (acD a) rfl rfl _ Tryz.sizeOf50 h6 rfl rfl rfl ?_;intro y9 h99));have HF:Hid (Z5o w0 (atA g c {x with at_:=0}*(enA ge th 3 ck*(memA m C2*R))) a 4 (.returned (.tuple #[a.val,.int .i64 4])) y9):=hid ⟨rfl,h99.drop.drop⟩;exact bodyPost_ret (Z05 Tryz.results86 _ rfl Tryz.isAgg50 _ Tryz.sizeOf50 h99.blk rfl) rfl HF.out
end
theorem Zap {zs:List Int} (h:0<zs.length):0<(Lib.compact zs).length:=by
 unfold Lib.compact Lib.compactUpTo;rw[List.length_map];exact List.length_pos_of_mem (List.mem_filter.2 ⟨List.mem_range.2 (by simpa using h),Lib.keeps_lt_one _ 0 (by decide)⟩)
theorem Zdc {xs:List Int} (h:0<xs.length):0<(srt xs).length:=Zap (by rw[List.length_mergeSort];exact h)
section
variable {w0 w:World} {R R':Asr} {g m gl:Nat} {c:Cfg} {x:AtR} {L:PL}
theorem Zax (h:Hold w0 w (atA g c x*(lgA gl L*R))) (hxl:x.log=gl) (hL:L.addrs=[]) :
  Calls Tryz.prog 109 #[ptrV g,.int .i64 1] w fun e w'=>∃gt,e = .returned (.tuple #[])/\Hold w0 w' (atA g c {x with code:=1,at_:=6,turn:=ptrV gt}*(tuA gt false 0 false*(lgA gl L*R))):=by
 have p:=h.at_code;have z:=h.atZ 30;have h1:=h.at_code_set 1;have H1:=hid h1;have HX:=hid (And.intro hxl hL);clear h h1 hxl hL;go_enter Tryz.func109,Tryz.ntmps109;go_upto_region 1 with fail
 have h1:=H1.out;generalize hW:World.setCell _ _ _=W at h1 |-;clear hW H1 p z;have hs:=Z1j h1 HX.out.1;rw[HX.out.2] at hs;have HS:=hid hs;clear hs;go_wp2_with fail;refine HS.out.mono ?_;rintro e w' ⟨rfl,rfl⟩;rw[show ((1:Int)==1 && decide (0<((([]:List Int).length:Nat):Int)))=false from rfl];go_wp2_with fail;refine(Z76 w0 W _ h1).mono ?_;rintro e w2 ⟨gt,rfl,h2⟩;clear HS h1;replace h2:=h2.swap;have p1:=h2.Zly;have z1:=h2.atZ 31;have h3:=h2.Zlx 6;have p2:=h2.at_turn;have z2:=h2.atZ 10;have H4:=hid (h3.at_turn_set (ptrV gt));clear h2 h3;go_wp2_with fail;refine bodyPost_ret (results_none rfl _ _ _) rfl ?_;exact⟨gt,rfl,H4.out⟩
theorem Zay (h:Hold w0 w (atA g c x*(lgA gl L*R))) (hxl:x.log=gl) (H:Inv L) (hL:0<L.addrs.length) (hc:Z18 c=0) (hadr:∀a∈L.addrs,0<=a/\a<c.words+((nbl c:Nat):Int)) :
  Calls Tryz.prog 109 #[ptrV g,.int .i64 1] w fun e w'=>∃gk A n cp,e = .returned (.tuple #[])/\n=(srt (lgO c L)).length/\Hold w0 w' (atA g c {x with code:=1,orecs:=.slice A n cp,at_:=5,lock:=ptrV gk}*(lkA gk x.th (srt (srt (lgO c L))) [] false 0*(queA 3 (.slice A n cp) (iL (srt (lgO c L)))*(lgA gl L*R)))):=by
 obtain⟨iI,hiI,iz0,iz1,iz2⟩:=info_parts Z1i;have p:=h.at_code;have z:=h.atZ 30;have h1:=h.at_code_set 1;have H1:=hid h1;have HX:=hid (And.intro hxl hadr);have hl32:L.addrs.length<=32:=by have:=H.le;have:=H.cap32;omega
 have HI:=hid H;have HC:=hid hc;clear h h1 hxl hadr hc H;go_enter Tryz.func109,Tryz.ntmps109;go_upto_region 1 with fail
 have h1:=H1.out;generalize hW:World.setCell _ _ _=W at h1 |-;clear hW H1 p z;have hs:=Z1j h1 HX.out.1;have e1:((1:Int)==1 && decide (0<((L.addrs.length:Nat):Int)))=true:=by rw[decide_eq_true (by omega)];rfl
 rw[e1] at hs;have HS:=hid hs;clear hs e1;go_wp2_with fail;refine HS.out.mono ?_;rintro e w' ⟨rfl,rfl⟩;have ql:=h1.at_log;rw[HX.out.1] at ql;have HA:=hid (Z5t h1.swap HI.out);clear HS h1;obtain⟨n,hn⟩:∃n,n=L.addrs.length:=⟨_,rfl⟩;rw[<- hn] at hL hl32 HA;have HN:=hid hn;clear hn;go_wp2_with fail;refine HA.out.mono ?_;rintro e w1 ⟨A1,c1,rfl,h2⟩;clear HA ql;have h3:=h2.nilQue 3;clear h2;go_wp2_with fail;go_loopw [4,29] (fun v4 i wr=>∃(k:Nat) (A2:Option Addr) (c2:Nat),k<=n/\i = .int .i64 (k:Int)/\v4 = .slice A2 k c2/\Hold w0 wr (queA 3 v4 (iL ((lgO c L).take k))*(queA 3 (.slice A1 n c1) (L.addrs.map (Value.int .i64))*(lgA gl L*(atA g c {x with code:=1}*R))))) (fun _ i _=>n - (intOf i).toNat)
 case atStart=>exact⟨0,none,0,Nat.zero_le _,rfl,rfl,h3⟩
 case round =>
  clear h3;obtain⟨k,A2,c2,hk,rfl,rfl,h⟩:=hrel
  by_cases hlt:k<n
  ·have e1:decide ((k:Int)<(n:Int))=true:=decide_eq_true (by omega)
   have e1':decide (k<n)=true:=decide_eq_true hlt;have hkl:k<L.addrs.length:=by rw[<- HN.out];exact hlt
   obtain⟨z,hz⟩:∃z,z=L.addrs[k]:=⟨_,rfl⟩;have hzk:L.addrs[k]?=some z:=by rw[hz];exact List.getElem?_eq_getElem hkl
   have hzb:=HX.out.2 z (List.mem_of_getElem? hzk);obtain⟨fp,hp⟩:=h.drop.get;obtain⟨-,-,-,bA,hr,-⟩:=queReads hp;obtain⟨ad,hA,-,-⟩:=hr.cellAt hlt;subst hA;have d0:w1.cell? (ad.add k)=w1.cell? (ad.add k):=rfl;have d0:=h.drop.queAt (k:=k) (u:=.int .i64 z) (by rw[List.getElem?_map,hzk];rfl);have k0:(0:Int)<=(k:Int):=by omega
   have k1:(k:Int)<(n:Int):=by omega
   have hok:(lgO c L).take (k+1)=(lgO c L).take k++[z%c.orecs]:=by
    have h9:(lgO c L)[k]?=some (z%c.orecs):=by unfold lgO;rw[List.getElem?_map,hzk];rfl
    obtain⟨h10,h11⟩:=List.getElem?_eq_some_iff.1 h9;rw[<- h11];exact(List.take_append_getElem h10).symm
   have hlen:(iL ((lgO c L).take k)).length=k:=by unfold lgO;simp;omega
   have HOK:=hid hok;generalize hxs:iL ((lgO c L).take k)=xs0 at h hlen;have HXS:=hid hxs;have HLN:=hid hlen;clear hp hr hz hzk hok hlen hxs;obtain⟨zr,hzr⟩:∃zr,zr=z%c.orecs:=⟨_,rfl⟩;have HO:=orec_any wr c z HC.out hzb.1 hzb.2;rw[<- hzr] at HO;have HO:=hid HO;have HZ:=hid hzr;have H0:=hid (h.pk4 [3,0,1,2]);clear h hzb hzr;go_wp2_with (refine Z0l rfl 32 _ rfl g 15 155 40 _ c.cells rfl Tryz.isAgg32 13 Tryz.sizeOf32 H0.out rfl (by decide) ?_);refine HO.out.mono ?_;rintro e w3 ⟨rfl,hc1⟩;have h4:=(H0.out.chg0 hc1).swap;clear H0 HO hc1 d0;go_wp2_with (at_builtin;refine Z0r rfl _ _ 23 rfl iI (.int .i64 0) 8 Tryz.underlying23 hiI iz0 iz1 iz2 rfl (.int .i64 zr) _ rfl h4 rfl rfl (by rw[HLN.out];omega) (by decide) ?_);intro v9 y4 h5;obtain⟨A9,c9,hv9⟩:=h5.Zlu;rw[List.length_append,HLN.out,show k + [Value.int .i64 zr].length=k+1 from rfl] at hv9;subst hv9;have H5:=hid (h5.pk4 [0,2,3,1]);clear h4 h5;go_wp2_with fail;go_roundw
   case rel =>
    refine⟨k+1,A9,c9,by omega,by go_num,rfl,?_⟩;rw[HOK.out,iL,List.map_append,<- HZ.out];have h9:=H5.out;rw[<- HXS.out] at h9;exact h9
   case measure=>simp[intOf];omega
  ·obtain rfl:k=n:=by omega
   have e1:decide ((k:Int)<(k:Int))=false:=decide_eq_false (by omega);have hol:(lgO c L).length=k:=by unfold lgO;rw[List.length_map];exact HN.out.symm
   rw[List.take_of_length_le (by omega)] at h;obtain⟨fp,hp⟩:=h.get;obtain⟨-,-,-,bA,hr,-⟩:=queReads hp;have HSo:=hid (sorted_any w0 wr _ A2 k c2 bA (lgO c L) (h.pk4 [3,2]) hr (by omega) hL);have hsl:=Zdd (lgO c L);have hs0:0<(srt (lgO c L)).length:=Zdc (by omega);obtain⟨ns,hns⟩:∃ns,ns=(srt (lgO c L)).length:=⟨_,rfl⟩;rw[<- hns] at HSo hsl hs0;have HNS:=hid hns;clear h hp hr hns;go_wp2_with fail;refine HSo.out.mono ?_;rintro e w3 ⟨A3,c3,rfl,h4⟩;have h5:=h4.swap;have p1:=h5.Zlz;have z1:=h5.atZ 36;have h6:=h5.at_orecs_set (.slice A3 ns c3);have H6:=hid h6;clear HSo h4 h5 h6;go_upto_region 10 with fail
   have h6:=H6.out;generalize hW:World.setCell _ _ _=W6 at h6 |-;clear hW H6 p1 z1;replace h6:=h6.drew;refine Z01 [] (by kernel_rfl) ?_;generalize hW:W6.drew=W7 at h6 |-;clear hW;have hS0:W7.cell? ⟨g,28,none⟩=some (.int .i64 x.th)/\W7.cell? ⟨g,36,none⟩=some (.slice A3 ns c3):=⟨h6.at_th,h6.Zlz⟩;refine Z04 (fun w'=>w'.cell? ⟨g,28,none⟩=some (.int .i64 x.th)/\w'.cell? ⟨g,36,none⟩=some (.slice A3 ns c3)) (fun _ _=>trivial) _ _ _ _ ?_;refine' wbk [true,true,true,true,true,true,true,true,true,true] 64 hS0 (fun wq hq=>?_) ?_;rotate_left
   ·simp only[Z08]
    obtain⟨q1,q2⟩:=hq
    repeat (go_big_quiet_step (fail))
    exact wpQuiet_nil rfl
   refine wbi 10 (fuel:=7) (fun QB hQB hQX=>?_);go_wp2_with fail;obtain⟨fp,hp⟩:=h6.drop.get;obtain⟨-,-,-,bA,hr,-⟩:=queReads hp;refine(Zkh (th:=x.th) h6 hr (by omega) hs0).mono ?_;rintro e w8 ⟨gk,rfl,h7'⟩;have h7:=h7'.swap;clear h6 h7' hp hr hS0;go_wp2_with fail;refine hQB.out _ _ ⟨h7.at_th,h7.Zlz⟩ ?_;clear hQB hQX QB;refine' wby [false,false,false,false,false,false,false,false,false,false,false,true,true] 64 ⟨h7.at_th,h7.Zlz⟩ ?_;refine wbi 13 (fuel:=4) (fun QB hQB hQX=>?_);have p1:=h7.Zly;have z1:=h7.atZ 31;have H8:=hid (h7.Zlx 5);clear h7;go_wp2_with fail;refine hQB.out _ _ ⟨H8.out.at_th,H8.out.Zlz⟩ ?_;clear hQB hQX QB p1 z1;have h8:=H8.out;generalize hW:World.setCell _ _ _=W8 at h8 |-;clear hW H8;refine' wby [false,false,false,false,false,false,false,false,false,false,false,false,false,false,true,true,true] 64 ⟨h8.at_th,h8.Zlz⟩ ?_;refine wbi 17 (fuel:=0) (fun QB hQB hQX=>?_);have p1:=h8.at_lock;have z1:=h8.atZ 9;have H9:=hid (h8.at_lock_set (ptrV gk));clear h8;go_wp2_with fail;refine hQB.out _ _ ⟨H9.out.at_th,H9.out.Zlz⟩ ?_;clear hQB hQX QB p1 z1;refine Z02 (by kernel_rfl) ?_ _;go_wp2_with fail
   go_end0
   exact⟨gk,A3,ns,c3,rfl,HNS.out,H9.out⟩
end
section
variable {w0 w:World} {R R':Asr} {g m gl gk:Nat} {c:Cfg} {x:AtR} {L:PL} {C C2:Nat->List Int} {a:Acc} {th sn:Int} {os old old2:List Int}
theorem Zjk (h:Hold w0 w (atA g c x*R)) (hat:x.at_=0) (hst:x.state=1) :
  Calls Tryz.prog 62 #[ptrV g,.int .i64 1] w fun e w'=>∃b1 b2,e = .returned (.int .i64 0)/\Hold w0 w' (atA g c {x with at_:=1,then_:=.func (.func 108) #[] #[ptrV b1,ptrV b2]}*(blkA 108 b1 #[ptrV g]*(blkA 3 b2 #[.int .i64 1]*R))):=by
 have h1:=h.newBlk (t:=108) (cs:=#[ptrV g]);have H3:=hid (h1.newBlk (t:=3) (cs:=#[.int .i64 1]));have HX:=hid (And.intro hat hst);clear h h1 hat hst;go_enter Tryz.func62,Tryz.ntmps62;go_upto_region 1 with fail
 have h3:=H3.out;rw[World.size_alloc] at h3;clear H3;generalize hW:World.alloc _ _=W at h3 |-;generalize w.heap.size=b1 at h3 |-;generalize hb2:b1+1=b2 at h3 |-;clear hW hb2;have h4:Hold w0 W (atA g c x*(blkA 108 b1 #[ptrV g]*(blkA 3 b2 #[.int .i64 1]*R))):=h3.pk3 [2,1,0];have q0:=h4.drop.blk.some_ (i:=0) rfl;have q1:=h4.drop.drop.blk.some_ (i:=0) rfl;have HR:=hid (Z1t h4 HX.out.1 HX.out.2);have HL:=hid (Z1g (.func 108) #[] #[ptrV b1,ptrV b2] h4);clear h3 h4;go_wp2_with fail;refine HR.out.mono ?_;rintro e w' ⟨rfl,rfl⟩;go_wp2_with fail;refine HL.out.mono ?_;rintro e w6 ⟨rfl,h9⟩;have H9:=hid h9;clear h9 HL HR q0 q1;go_wp2_with fail;go_ret;exact⟨b1,b2,rfl,H9.out⟩
theorem Zat (h:Hold w0 w (atA g c x*R)) (hx:x.orecs = .slice none 0 0):Calls Tryz.prog 166 #[ptrV g] w fun e w'=>e = .returned (.tuple #[])/\Hold w0 w' (atA g c {x with at_:=12}*R):=by
 have q:=h.Zlz;rw[hx] at q;have p:=h.Zly;have z:=h.atZ 31;have H1:=hid (h.Zlx 12);clear h hx;go_enter Tryz.func166,Tryz.ntmps166;go_wp2_with fail;refine bodyPost_ret (results_none rfl _ _ _) rfl ?_;exact⟨rfl,H1.out⟩
theorem Zas {A:Option Addr} {n cp:Nat} {os2:List Int} (h:Hold w0 w (atA g c x*(lkA gk th os old false sn*(queA 3 (.slice A n cp) (iL os2)*R)))) (hx:x.orecs = .slice A n cp) (hk:x.lock=ptrV gk) (hn:os2.length=n) (h0:0<n) (hn2:n<=1000) (ho:old.length=n) :
  Calls Tryz.prog 166 #[ptrV g] w fun e w'=>∃gr,e = .returned (.tuple #[])/\Hold w0 w' (atA g c {x with at_:=10,release:=ptrV gr}*(reA gr os2 old*(lkA gk th os old false sn*(queA 3 (.slice A n cp) (iL os2)*R)))):=by
 have q:=h.Zlz;rw[hx] at q;have e1:((n:Int)==0)=false:=beq_eq_false_iff_ne.2 (by omega);have HX:=hid (And.intro hx (And.intro hk (And.intro hn ho)));have h1:=h.drew;have hcap:n<=cp:=(queReads h.drop.drop.get.choose_spec).2.1;clear hx hk hn ho h;go_enter Tryz.func166,Tryz.ntmps166;go_upto_region 2 with fail
 clear q;refine Z01 [] (by kernel_rfl) ?_;generalize hW:w.drew=W at h1 |-;clear hW;have hS0:W.cell? ⟨g,36,none⟩=some (.slice A n cp)/\W.cell? ⟨g,9,none⟩=some (ptrV gk):=by
  have q1:=h1.Zlz;have q2:=h1.at_lock;rw[HX.out.1] at q1;rw[HX.out.2.1] at q2;exact⟨q1,q2⟩
 refine Z04 (fun w'=>w'.cell? ⟨g,36,none⟩=some (.slice A n cp)/\w'.cell? ⟨g,9,none⟩=some (ptrV gk)) (fun _ _=>trivial) _ _ _ _ ?_;refine' wbk [true,true,true,true,true,true,true,true,true,true,true] 29 hS0 (fun wq hq=>?_) ?_;rotate_left
 ·simp only[Z08]
  obtain⟨q1,q2⟩:=hq
  repeat (go_big_quiet_step (fail))
  exact wpQuiet_nil rfl
 refine wbi 11 (fuel:=8) (fun QB hQB hQX=>?_);go_wp2_with fail;have hol:old.length=n:=HX.out.2.2.2;have hsq:∀{w':World} {R':Asr},Hold w0 w' (atA g c x*R')->w'.cell? ⟨g,36,none⟩=some (.slice A n cp)/\w'.cell? ⟨g,9,none⟩=some (ptrV gk):=fun h=>by
  have q1:=h.Zlz;have q2:=h.at_lock;rw[HX.out.1] at q1;rw[HX.out.2.1] at q2;exact⟨q1,q2⟩
 have hlk:=Zkg h1.swap (by omega);rw[hol] at hlk;refine hlk.mono ?_;rintro e w2 ⟨B,d,rfl,h2'⟩;have h2:=h2'.pk3 [0,2,1];clear h1 h2' hS0 hlk;go_wp2_with fail;refine hQB.out _ _ (hsq h2.drop) ?_;clear hQB hQX QB;refine wbi 12 (fuel:=7) (fun QB hQB hQX=>?_);go_wp2_with fail;have hB:=fun(w':World) (h':Hold w0 w' (queA 34 (.slice B n d) (uL old)*(atA g c x*(lkA gk th os old false sn*(queA 3 (.slice A n cp) (iL os2)*R)))))=>(queReads h'.get.choose_spec);have hd:n<=d:=(hB _ h2).2.1;refine(Zhf w0 _ _ A B n cp n d os2 old h2 (fun w' h'=>by obtain⟨-,-,-,b,hr,-⟩:=queReads (h'.drop.drop.drop.get.choose_spec);exact⟨b,hr⟩) (fun w' h'=>by obtain⟨-,-,-,b,hr,-⟩:=hB w' h';exact⟨b,hr⟩) hn2 hn2 hcap hd n (by simp)).mono ?_;rintro e w3 ⟨gr,rfl,h3'⟩;rw[List.take_of_length_le (by rw[HX.out.2.2.1];exact Nat.le_refl _),List.take_of_length_le (by omega)] at h3';have h3:=h3'.pk5 [2,0,3,4];clear h2 h3' hB hd;go_wp2_with fail;refine hQB.out _ _ (hsq h3) ?_;clear hQB hQX QB;refine' wby [false,false,false,false,false,false,false,false,false,false,false,false,false,true,true] 29 (hsq h3) ?_;refine wbi 15 (fuel:=4) (fun QB hQB hQX=>?_);have p1:=h3.Zly;have z1:=h3.atZ 31;have H4:=hid (h3.Zlx 10);clear h3;go_wp2_with fail;have hs2:∀{w':World} {R':Asr},Hold w0 w' (atA g c {x with at_:=10}*R')->w'.cell? ⟨g,36,none⟩=some (.slice A n cp)/\w'.cell? ⟨g,9,none⟩=some (ptrV gk):=fun h=>by
  have q1:=h.Zlz;have q2:=h.at_lock;rw[show ({x with at_:=10}:AtR).orecs=x.orecs from rfl,HX.out.1] at q1;rw[show ({x with at_:=10}:AtR).lock=x.lock from rfl,HX.out.2.1] at q2;exact⟨q1,q2⟩
 refine hQB.out _ _ (hs2 H4.out) ?_;clear hQB hQX QB p1 z1;have h4:=H4.out;generalize hW:World.setCell _ _ _=W4 at h4 |-;clear hW H4;refine' wby [false,false,false,false,false,false,false,false,false,false,false,false,false,false,false,false,true,true,true] 29 (hs2 h4) ?_;refine wbi 19 (fuel:=0) (fun QB hQB hQX=>?_);have p1:=h4.at_release;have z1:=h4.atZ 13;have H5:=hid (h4.at_release_set (ptrV gr));clear h4;go_wp2_with fail;have hs3:∀{w':World} {R':Asr},Hold w0 w' (atA g c {x with at_:=10,release:=ptrV gr}*R')->w'.cell? ⟨g,36,none⟩=some (.slice A n cp)/\w'.cell? ⟨g,9,none⟩=some (ptrV gk):=fun h=>by
  have q1:=h.Zlz;have q2:=h.at_lock;rw[show ({x with at_:=10,release:=ptrV gr}:AtR).orecs=x.orecs from rfl,HX.out.1] at q1;rw[show ({x with at_:=10,release:=ptrV gr}:AtR).lock=x.lock from rfl,HX.out.2.1] at q2;exact⟨q1,q2⟩
 refine hQB.out _ _ (hs3 H5.out) ?_;clear hQB hQX QB p1 z1;refine Z02 (by kernel_rfl) ?_ _;go_wp2_with fail
 go_end0
 exact⟨gr,rfl,H5.out⟩
end
end Go.Proofs.YtmlfangeanmmeaaGreatDoor
namespace Go.Proofs.YtmlfangeanmmeaaGreatDoor
open Go
structure StR where
 th:Int
 phase:Int
 att:Int
 acc:Acc
inductive Ph where
 | none
 | ent1
 | ent2
 | idle
 | rd1 (ad bf:Int)
 | rd2 (ad bf vl:Int)
 | lk (ld:Bool) (sn:Int)
 | take
 | wait (tk:Int)
 | chk (tk:Int) (zs:List Int)
 | dec (tk:Int)
 | wr (tk ck:Int) (k:Nat)
 | rel (tk ck:Int) (k:Nat) (st:Bool)
 | stamp (tk ck:Int)
 | pass (tk:Int)
 | leave
structure TS where
 pc:Int
 regs:Nat->Int
 saved:Nat->Int
 begin_:Int
 tries:Int
 count:Int
 outcome:Int
 seen:List ObR
 obs:List ObR
 ph:Ph
 L:PL
 S:List Int
 sn:List Int
 rv:Int
 code:Int
 old:List Int
abbrev Cells:=Nat->List Int
def u64 (v:Int):Int:=v%18446744073709551616
def Zh8 (sn:List Int) (a:Int):List Int:=if a∈sn then sn else sn++[a]
def Z0h (p:List InsR) (b:Int):Int:=match (p.drop (b.toNat+1)).findIdx? (fun i=>i.op==8) with|some k=>b+1+k|none=>p.length
end Go.Proofs.YtmlfangeanmmeaaGreatDoor
