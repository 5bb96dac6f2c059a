/-
 What the proof of TopAlone leans on, part 30 of 49: At16, Xi, Nu, Nv, Nw, Nx, Nr, Ny, Nz, Th. No statement of its own.
-/
import Derived.Test.YtmlfangeanmmeaaGreatDoorAm1
import Derived.Test.YtmlfangeanmmeaaGreatDoorAm28
import Derived.Test.YtmlfangeanmmeaaGreatDoorAm29
set_option maxHeartbeats 16000000
set_option maxRecDepth 8000
set_option linter.unusedVariables false
namespace Go.Proofs.YtmlfangeanmmeaaGreatDoor
open Go.RowKit
section
variable {w0 w:World} {R R':Asr} {g gl:Nat} {c:Cfg} {x:AtR} {L:PL} {sn:List Int} {n cp:Nat} {A1:Option Addr}
theorem at_words (h:Hold w0 w (atA g c x*(lgA gl L*(queA 3 (.slice A1 n cp) (iL sn)*R)))) (hxl:x.log=gl) (hs:x.seen = .slice A1 n cp) (hadr:∀z∈L.addrs,0<=z/\z<c.words) (hcw:c.words<=64) (H:Inv L) (hn:n<=1000) :
  Calls Tryz.prog 59 #[ptrV g] w fun e w'=>∃A2 c2 A3 c3,e = .returned (.tuple #[.slice A2 n c2,.slice A3 L.addrs.length c3])/\Hold w0 w' (queA 3 (.slice A2 n c2) (iL sn)*(queA 3 (.slice A3 L.addrs.length c3) (iL L.addrs)*(atA g c x*(lgA gl L*(queA 3 (.slice A1 n cp) (iL sn)*R))))):=by
 have hl32:L.addrs.length<=32:=by have:=H.le;have:=H.cap32;omega
 obtain⟨iI,hiI,iz0,iz1,iz2⟩:=info_parts Z1i;have HX:=hid (And.intro hxl (And.intro hs hadr));have HI:=hid H;have ql:=h.at_log;rw[hxl] at ql;have HA:=hid (Z5t h.swap H);clear hxl hs hadr H h;obtain⟨k9,hk9⟩:∃k9,k9=L.addrs.length:=⟨_,rfl⟩;rw[<- hk9] at HA hl32 |-;have HN:=hid hk9;clear hk9;go_enter Tryz.func59,Tryz.ntmps59;go_wp2_with fail;refine HA.out.mono ?_;rintro e w1 ⟨A0,c0,rfl,h2⟩;have h3:=h2.nilQue 3;clear HA ql h2;go_wp2_with fail;go_loopw [3,13] (fun v4 i wr=>∃(k:Nat) (A2:Option Addr) (c2:Nat),k<=k9/\i = .int .i64 (k:Int)/\v4 = .slice A2 k c2/\Hold w0 wr (queA 3 v4 (iL (L.addrs.take k))*(queA 3 (.slice A0 k9 c0) (L.addrs.map (Value.int .i64))*(lgA gl L*(atA g c x*(queA 3 (.slice A1 n cp) (iL sn)*R)))))) (fun _ i _=>k9 - (intOf i).toNat)
 case atStart=>exact⟨0,none,0,Nat.zero_le _,rfl,rfl,h3⟩
 case round =>
  clear h3;obtain⟨k,A2,c2,hk,rfl,rfl,h⟩:=hrel
  by_cases hlt:k<k9
  ·have e1:decide ((k:Int)<(k9:Int))=true:=decide_eq_true (by omega)
   have e1':decide (k<k9)=true:=decide_eq_true hlt;have hkl:k<L.addrs.length:=by rw[<- HN.out];exact hlt
   obtain⟨z,hz⟩:∃z,z=L.addrs[k]:=⟨_,rfl⟩;have hzk:L.addrs[k]?=some z:=by rw[hz];exact List.getElem?_eq_getElem hkl
   have hzb:=HX.out.2.2 z (List.mem_of_getElem? hzk);obtain⟨fp,hp⟩:=h.drop.get;obtain⟨-,-,-,bA,hr,-⟩:=queReads hp;obtain⟨ad,hA,-,-⟩:=hr.cellAt hlt;subst hA;have d0:=h.drop.queAt (k:=k) (u:=.int .i64 z) (by rw[List.getElem?_map,hzk];rfl);have k0:(0:Int)<=(k:Int):=by omega
   have k1:(k:Int)<(k9:Int):=by omega
   have hok:L.addrs.take (k+1)=L.addrs.take k++[z]:=by
    obtain⟨h10,h11⟩:=List.getElem?_eq_some_iff.1 hzk;rw[<- h11];exact(List.take_append_getElem h10).symm
   have hlen:(iL (L.addrs.take k)).length=k:=by simp;omega
   have HOK:=hid hok;generalize hxs:iL (L.addrs.take k)=xs0 at h hlen;have HXS:=hid hxs;have HLN:=hid hlen;have e2:decide (z<c.words)=true:=decide_eq_true hzb.2;have qw:=(h.pk4 [3,0,1,2]).at_words;clear hp hr hz hzk hok hlen hxs hzb;go_wp2_with (at_builtin;refine Z0r rfl _ _ 23 rfl iI (.int .i64 0) 8 Tryz.underlying23 hiI iz0 iz1 iz2 rfl (.int .i64 z) _ rfl h rfl rfl (by rw[HLN.out];omega) (by decide) ?_);intro v9 y4 h5;obtain⟨A9,c9,hv9⟩:=h5.Zlu;rw[List.length_append,HLN.out,show k + [Value.int .i64 z].length=k+1 from rfl] at hv9;subst hv9;have H5:=hid h5;clear h h5 qw e2 d0;go_wp2_with fail;go_roundw
   case rel =>
    refine⟨k+1,A9,c9,by omega,by go_num,rfl,?_⟩;rw[HOK.out,iL,List.map_append];have h9:=H5.out;rw[<- HXS.out] at h9;exact h9
   case measure=>simp[intOf];omega
  ·obtain rfl:k=k9:=by omega
   have e1:decide ((k:Int)<(k:Int))=false:=decide_eq_false (by omega);rw[List.take_of_length_le (by rw[HN.out];exact Nat.le_refl _)] at h;have h4:Hold w0 wr (queA 3 (.slice A1 n cp) (iL sn)*(queA 3 (.slice A2 k c2) (iL L.addrs)*(atA g c x*(lgA gl L*R)))):=h.pk5 [4,0,3,2];obtain⟨fp,hp⟩:=h4.get;obtain⟨-,-,-,bA,hr,-⟩:=queReads hp;have qs:=(h4.pk3 [2,0,1]).at_seen;rw[HX.out.2.1] at qs;have HC:=hid (Z1c wr A1 n cp bA sn hr (by omega));have H4:=hid h4;clear h h4 hp hr;go_wp2_with fail;refine HC.out.mono ?_;rintro e w5 ⟨A5,c5,rfl,hown,hc⟩;have H6:=hid (H4.out.new (p:=queA 3 (.slice A5 n c5) (iL sn)) hc (Z8q hown) (fun b hb=>Z8p hown b hb));clear HC H4 hown hc qs;go_wp2_with fail
   go_ret2
   exact⟨A5,c5,A2,c2,rfl,H6.out.pk5 [0,2,3,4,1]⟩
end
section
variable {w0 w:World} {R:Asr} {v:Value} {xs:List Int}
theorem Zc4 (h:Hold w0 w (queA 3 v (xs.map (Value.int .i64))*R)) (hn:xs.length<=1000000) :
  Calls Tryz.prog 24 #[v] w fun e w'=>∃A c,e = .returned (.slice A xs.length c)/\Hold w0 w' (queA 3 (.slice A xs.length c) (xs.map (Value.int .i64))*(queA 3 v (xs.map (Value.int .i64))*R)):=by
 obtain⟨A,c,rfl⟩:=h.Zlu;obtain⟨fp,hp⟩:=h.get;obtain⟨_,_,_,b,hr,_⟩:=queReads hp;rw[List.length_map] at h hr |-;refine(Z1c w A xs.length c b xs hr hn).mono ?_;rintro e w' ⟨A',c',rfl,hown,hch⟩;refine⟨A',c',rfl,h.new hch (Z8q hown) ?_⟩;intro y hy;rcases hown.2 with⟨hv,h0⟩|⟨g,cap,cur,hv,hg,_⟩
 ·injection hv with hA
  subst hA;exact absurd hy (by simp[mem_fpV,Value.ownBlock])
 ·injection hv with hA
  subst hA;rw[Z0x] at hy;simp at hy;omega
end
section
variable {w0 w:World} {R R':Asr} {g m gl gk gc2 gt:Nat} {c:Cfg} {x:AtR} {L:PL} {C C2:Nat->List Int} {a:Acc} {th sn z v rv tk:Int} {zs vs os os2 old:List Int} {A1:Option Addr} {n cp:Nat}
theorem Z4g (h:Hold w0 w (atA g c x*(lgA gl L*(memA m C*R)))) (hx:x.log=gl) (hC:COk C) (ha:opA C 1 3 0 (valC C 3 0) true=a) (hg:0<=a.got/\a.got<=1099511627776) (hns:(x.code==1 && decide (0<(L.addrs.length:Int)))=false) (hxo:x.orecs = .slice none 0 0) :
  Calls Tryz.prog 92 #[ptrV g,ptrV m] w (Z0e (ι:=Unit) w0 (fun _=>atA g c {x with clock:=a.got,decided:=true,at_:=12}*(lgA gl L*(memA m C*R))) a 16):=by
 have HX:=hid hx;have HS0:=hid (And.intro hC ha);have HB:=hid hns;have HO:=hid hxo;clear hxo hns;clear hx hC ha;have H1:=hid (nb h);clear h;go_enter Tryz.func92,Tryz.ntmps92;go_upto_region 1 with fail
 have h1:=H1.out;generalize hW:w.alloc _=W at h1 |-;generalize w.heap.size=gr at h1 |-;clear hW H1;have h2:Hold w0 W (memA m C*(atA g c x*(lgA gl L*(blkA 50 gr (acD acc0)*R)))):=h1.pk4 [3,1,2,0];clear h1;have HLd:=hid (Z13 w0 W _ m C 3 0 h2 (by omega) HS0.out.1.len);clear h2;go_wp2_with fail;refine HLd.out.mono ?_;rintro e w3 ⟨rfl,h3⟩;rw[HS0.out.2];generalize opE C 3 0=er;clear HLd;have H7:=hid (nb h3);clear h3;go_upto_region 2 with(refine Z00 rfl 50 _ _ rfl w3.heap.size _ _ (acD a) rfl rfl _ Tryz.sizeOf50 H7.out rfl rfl rfl ?_;intro y2 h4)
 clear H7;generalize w3.heap.size=gc at h4 |-;have h5:Hold w0 y2 (atA g c x*(lgA gl L*(memA m C*(blkA 50 gr (acD acc0)*(blkA 50 gc (acD a)*R))))):=h4.pk5 [2,3,1,4,0];clear h4;have q3:=(h5.pk5 [4]).blk.some_ (i:=3) (u:=.int .u64 a.got) rfl;have p1:=h5.at_clock;have z1:=h5.atZ 37;have H6:=hid (h5.at_clock_set a.got);clear h5;go_upto_region 3 with fail
 have h6:=H6.out;generalize hW:World.setCell _ _ _=W6 at h6 |-;clear hW H6 p1 z1 q3;replace h6:=h6.drew;refine Z01 [] (by kernel_rfl) ?_;generalize hW:W6.drew=W7 at h6 |-;clear hW;refine' wby [true] 67 trivial ?_;refine wbi 1 (fuel:=13) (fun QB hQB hQX=>?_);go_wp2_with fail;have hst:=Z1j h6 HX.out;rw[show (({x with clock:=a.got}:AtR).code==1 && decide (0<(L.addrs.length:Int)))=false from HB.out] at hst;refine hst.mono ?_;rintro e w' ⟨rfl,rfl⟩;clear hst;go_wp2_with fail;refine hQB.out _ _ trivial ?_;clear hQB hQX QB;refine' wby [false,false,true,true,true,true,true,true,true,true,true,true,true,true,true] 67 trivial ?_;refine Z02 (by kernel_rfl) ?_ _;have p1:=h6.at_decided;have z1:=h6.atZ 38;have H8:=hid (h6.at_decided_set true);clear h6;go_upto_region 8 with fail
 have h8:=H8.out;generalize hW:World.setCell _ _ _=W8 at h8 |-;clear hW H8 p1 z1;have hst:=Z1j h8 HX.out;rw[show (({x with clock:=a.got,decided:=true}:AtR).code==1 && decide (0<(L.addrs.length:Int)))=false from HB.out] at hst;have HST:=hid hst;clear hst;have HR:=hid (Zat h8 HO.out);clear h8;go_wp2_with (first|(refine HST.out.mono ?_;rintro e w' ⟨rfl,rfl⟩)|fail);refine HR.out.mono ?_;rintro e w9 ⟨rfl,h9⟩;clear HR HST;have h10:Hold w0 w9 (blkA 50 gr (acD acc0)*(blkA 50 gc (acD a)*(atA g c {x with clock:=a.got,decided:=true,at_:=12}*(lgA gl L*(memA m C*R))))):=h9.pk5 [3,4,0,1,2];clear h9;go_upto_region 11 with fail
 go_wp2_with (first|(refine Z03 rfl 50 _ rfl gc _ _ rfl Tryz.isAgg50 _ Tryz.sizeOf50 h10.drop.blk rfl ?_)|(refine Z00 rfl 50 _ _ rfl gr _ _ (acD a) rfl rfl _ Tryz.sizeOf50 h10 rfl rfl rfl ?_;intro y9 h99));have HF:Hid (Z0e w0 (fun _=>atA g c {x with clock:=a.got,decided:=true,at_:=12}*(lgA gl L*(memA m C*R))) a 16 (.returned (.tuple #[a.val,.int .i64 16])) y9):=hid ⟨(),rfl,h99.drop.drop⟩;exact bodyPost_ret (Z05 Tryz.results92 _ rfl Tryz.isAgg50 _ Tryz.sizeOf50 h99.blk rfl) rfl HF.out
theorem Z4h (h:Hold w0 w (atA g c x*(lgA gl L*(memA m C*(lkA gk th os old false sn*(queA 3 (.slice A1 n cp) (iL os2)*R)))))) (hx:x.log=gl) (hC:COk C) (ha:opA C 1 3 0 (valC C 3 0) true=a) (hg:0<=a.got/\a.got<=1099511627776) (hcode:x.code=1) (hL:0<L.addrs.length) (hcl0:0<=c.clock) (hcl:c.clock<=a.got) (hxo:x.orecs = .slice A1 n cp) (hk:x.lock=ptrV gk) (hn:os2.length=n) (h0:0<n) (hn2:n<=1000) (ho:old.length=n) :
  Calls Tryz.prog 92 #[ptrV g,ptrV m] w (Z0e (ι:=Nat) w0 (fun gr2=>atA g c {x with clock:=a.got,code:=6,at_:=10,release:=ptrV gr2}*(reA gr2 os2 old*(lkA gk th os old false sn*(queA 3 (.slice A1 n cp) (iL os2)*(lgA gl L*(memA m C*R)))))) a 16):=by
 have HX:=hid hx;have HS0:=hid (And.intro hC ha);have HO:=hid (And.intro hxo (And.intro hk (And.intro hn (And.intro h0 (And.intro hn2 ho)))));have HB:Hid ((x.code==1 && decide (0<(L.addrs.length:Int)))=true):=hid (by rw[hcode,decide_eq_true (p:=0<(L.addrs.length:Int)) (by omega)];rfl);clear hxo hk hn h0 hn2 ho hcode hL;clear hx hC ha;have H1:=hid (nb h);clear h;go_enter Tryz.func92,Tryz.ntmps92;go_upto_region 1 with fail
 have h1:=H1.out;generalize hW:w.alloc _=W at h1 |-;generalize w.heap.size=gr at h1 |-;clear hW H1;have h2:Hold w0 W (memA m C*(atA g c x*(lgA gl L*(blkA 50 gr (acD acc0)*(lkA gk th os old false sn*(queA 3 (.slice A1 n cp) (iL os2)*R)))))):=h1.pk6 [3,1,2,0,4,5];clear h1;have HLd:=hid (Z13 w0 W _ m C 3 0 h2 (by omega) HS0.out.1.len);clear h2;go_wp2_with fail;refine HLd.out.mono ?_;rintro e w3 ⟨rfl,h3⟩;rw[HS0.out.2];generalize opE C 3 0=er;clear HLd;have H7:=hid (nb h3);clear h3;go_upto_region 2 with(refine Z00 rfl 50 _ _ rfl w3.heap.size _ _ (acD a) rfl rfl _ Tryz.sizeOf50 H7.out rfl rfl rfl ?_;intro y2 h4)
 clear H7;generalize w3.heap.size=gc at h4 |-;have h5:Hold w0 y2 (atA g c x*(lgA gl L*(memA m C*(blkA 50 gr (acD acc0)*(blkA 50 gc (acD a)*(lkA gk th os old false sn*(queA 3 (.slice A1 n cp) (iL os2)*R))))))):=h4.pk5 [2,3,1,4,0];clear h4;have q3:=(h5.pk5 [4]).blk.some_ (i:=3) (u:=.int .u64 a.got) rfl;have p1:=h5.at_clock;have z1:=h5.atZ 37;have H6:=hid (h5.at_clock_set a.got);clear h5;go_upto_region 3 with fail
 have h6:=H6.out;generalize hW:World.setCell _ _ _=W6 at h6 |-;clear hW H6 p1 z1 q3;replace h6:=h6.drew;refine Z01 [] (by kernel_rfl) ?_;generalize hW:W6.drew=W7 at h6 |-;clear hW;have hsv:W7.cell? ⟨g,37,none⟩=some (.int .u64 a.got)/\W7.cell? ⟨g,26,none⟩=some (.int .i64 c.clock):=⟨h6.at_clock,h6.at_clockn⟩;refine Z04 (fun w'=>w'.cell? ⟨g,37,none⟩=some (.int .u64 a.got)/\w'.cell? ⟨g,26,none⟩=some (.int .i64 c.clock)) (fun _ _=>trivial) _ _ _ _ ?_;refine' wbk [true] 67 hsv (fun wq hq=>?_) ?_;rotate_left
 ·simp only[Z08]
  obtain⟨q1,q2⟩:=hq
  repeat (go_big_quiet_step (fail))
  exact wpQuiet_nil rfl
 refine wbi 1 (fuel:=13) (fun QB hQB hQX=>?_);go_wp2_with fail;have hst:=Z1j h6 HX.out;rw[show (({x with clock:=a.got}:AtR).code==1 && decide (0<(L.addrs.length:Int)))=true from HB.out] at hst;refine hst.mono ?_;rintro e w' ⟨rfl,rfl⟩;clear hst;go_wp2_with fail;refine hQB.out _ _ hsv ?_;clear hQB hQX QB;have ecl:decide (c.clock<=a.got)=true:=decide_eq_true hcl;have ecm:c.clock%18446744073709551616=c.clock:=Int.emod_eq_of_lt hcl0 (by omega);refine' wbk [false,false,true,true,true,true,true,true,true,true,true,true,true,true,true] 67 hsv (fun wq hq=>?_) ?_;rotate_left
 ·simp only[Z08]
  obtain⟨q1,q2⟩:=hq
  repeat (go_big_quiet_step (fail))
  exact wpQuiet_nil rfl
 refine Z02 (by kernel_rfl) ?_ _;have p1:=h6.at_code;have z1:=h6.atZ 30;have H8:=hid (h6.at_code_set 6);clear h6 hsv ecm hcl hcl0;go_upto_region 5 with fail
 have h8:=H8.out;generalize hW:World.setCell _ _ _=W8 at h8 |-;clear hW H8 p1 z1 ecl;have HR:=hid (Zas (h8.pk7 [0,5,6,1,2,3,4]) HO.out.1 HO.out.2.1 HO.out.2.2.1 HO.out.2.2.2.1 HO.out.2.2.2.2.1 HO.out.2.2.2.2.2);clear h8;go_wp2_with fail;refine HR.out.mono ?_;rintro e w9 ⟨gr2,rfl,h9⟩;clear HR;have h10:Hold w0 w9 (blkA 50 gr (acD acc0)*(blkA 50 gc (acD a)*(atA g c {x with clock:=a.got,code:=6,at_:=10,release:=ptrV gr2}*(reA gr2 os2 old*(lkA gk th os old false sn*(queA 3 (.slice A1 n cp) (iL os2)*(lgA gl L*(memA m C*R)))))))):=h9.pk8 [6,7,0,1,2,3,4,5];clear h9;go_wp2_with (first|(refine Z03 rfl 50 _ rfl gc _ _ rfl Tryz.isAgg50 _ Tryz.sizeOf50 h10.drop.blk rfl ?_)|(refine Z00 rfl 50 _ _ rfl gr _ _ (acD a) rfl rfl _ Tryz.sizeOf50 h10 rfl rfl rfl ?_;intro y9 h99));have HF:Hid (Z0e w0 (fun gr2=>atA g c {x with clock:=a.got,code:=6,at_:=10,release:=ptrV gr2}*(reA gr2 os2 old*(lkA gk th os old false sn*(queA 3 (.slice A1 n cp) (iL os2)*(lgA gl L*(memA m C*R)))))) a 16 (.returned (.tuple #[a.val,.int .i64 16])) y9):=hid ⟨gr2,rfl,h99.drop.drop⟩;exact bodyPost_ret (Z05 Tryz.results92 _ rfl Tryz.isAgg50 _ Tryz.sizeOf50 h99.blk rfl) rfl HF.out
theorem Z4e {Q:Asr} (h:Hold w0 w (atA g c x*(tuA gt true tk true*(memA m C*R)))) (hat:x.at_=12) (hC:COk C) (ha:opA C 2 5 0 (tk+1) true=a) (hC2:opC C 5 0 (tk+1) true=C2) (hx:x.turn=ptrV gt) (h0:0<=tk/\tk<=9223372036854775806)
  (hf:∀F w',Hold w0 w' (atA g c x*(memA m C2*(F*R)))->Calls Tryz.prog 98 #[ptrV g] w' fun e w2=>e = .returned (.tuple #[])/\Hold w0 w2 (F*Q)) :
  Calls Tryz.prog 57 #[ptrV g,ptrV m] w (Z5o w0 Q a 20):=by
 have HS0:=hid (And.intro hC (And.intro ha (And.intro hC2 hat)));have HX:=hid (And.intro hx hf);clear hx hf;clear hC ha hC2 hat;have H1:=hid (nb h);clear h;go_enter Tryz.func57,Tryz.ntmps57;go_upto_region 1 with fail
 have h1:=H1.out;generalize hW:w.alloc _=W at h1 |-;generalize w.heap.size=gr at h1 |-;clear hW H1;have h2:Hold w0 W (atA g c x*(memA m C*(tuA gt true tk true*(blkA 50 gr (acD acc0)*R)))):=h1.pk4 [1,3,2,0];clear h1;have p1:=h2.Zly;rw[HS0.out.2.2.2] at p1;have q:=h2.at_turn;rw[HX.out.1] at q;have HT:=hid (Z9m w0 W _ gt tk true (h2.pk3 [2,0,1]) h0.1 (by omega));have HS:=hid (Zd4 w0 W _ m C tk h2.swap HS0.out.1 h0.1 h0.2);clear h2;go_wp2_with fail;refine HT.out.mono ?_;rintro e w' ⟨rfl,rfl⟩;clear HT;go_wp2_with fail;refine HS.out.mono ?_;rintro e w3 ⟨rfl,h3⟩;rw[HS0.out.2.2.1] at h3;rw[HS0.out.2.1];clear HS;have H7:=hid (nb h3);clear h3;go_upto_region 29 with(refine Z00 rfl 50 _ _ rfl w3.heap.size _ _ (acD a) rfl rfl _ Tryz.sizeOf50 H7.out rfl rfl rfl ?_;intro y2 h4)
 clear H7;generalize w3.heap.size=gc at h4 |-;have h5:Hold w0 y2 (atA g c x*(memA m C2*((blkA 50 gr (acD acc0)*blkA 50 gc (acD a))*R))):=(h4.pk5 [2,1,4,0]).imp (Imp.under _ (Imp.under _ (Imp.assoc' _ _ _)));have HF:=hid (HX.out.2 _ _ h5);clear h4 h5 q p1;go_wp2_with fail;refine HF.out.mono ?_;rintro e w9 ⟨rfl,h9⟩;have h10:Hold w0 w9 (blkA 50 gr (acD acc0)*(blkA 50 gc (acD a)*Q)):=h9.imp (Imp.assoc _ _ _);clear HF h9;go_wp2_with (first|(refine Z03 rfl 50 _ rfl gc _ _ rfl Tryz.isAgg50 _ Tryz.sizeOf50 h10.drop.blk rfl ?_)|(refine Z00 rfl 50 _ _ rfl gr _ _ (acD a) rfl rfl _ Tryz.sizeOf50 h10 rfl rfl rfl ?_;intro y9 h99));have HF:Hid (Z5o w0 Q a 20 (.returned (.tuple #[a.val,.int .i64 20])) y9):=hid ⟨rfl,h99.drop.drop⟩;exact bodyPost_ret (Z05 Tryz.results57 _ rfl Tryz.isAgg50 _ Tryz.sizeOf50 h99.blk rfl) rfl HF.out
theorem Zh2 (h:Hold w0 w (atA g c x*R)) (hat:x.at_=0) (hst:x.state=1) :
  Calls Tryz.prog 62 #[ptrV g,.int .i64 2] w fun e w'=>∃b1 b2,e = .returned (.int .i64 0)/\Hold w0 w' (atA g c {x with at_:=1,then_:=.func (.func 108) #[] #[ptrV b1,ptrV b2]}*(blkA 108 b1 #[ptrV g]*(blkA 3 b2 #[.int .i64 2]*R))):=by
 have h1:=h.newBlk (t:=108) (cs:=#[ptrV g]);have H3:=hid (h1.newBlk (t:=3) (cs:=#[.int .i64 2]));have HX:=hid (And.intro hat hst);clear h h1 hat hst;go_enter Tryz.func62,Tryz.ntmps62;go_upto_region 1 with fail
 have h3:=H3.out;rw[World.size_alloc] at h3;clear H3;generalize hW:World.alloc _ _=W at h3 |-;generalize w.heap.size=b1 at h3 |-;generalize hb2:b1+1=b2 at h3 |-;clear hW hb2;have h4:Hold w0 W (atA g c x*(blkA 108 b1 #[ptrV g]*(blkA 3 b2 #[.int .i64 2]*R))):=h3.pk3 [2,1,0];have q0:=h4.drop.blk.some_ (i:=0) rfl;have q1:=h4.drop.drop.blk.some_ (i:=0) rfl;have HR:=hid (Z1t h4 HX.out.1 HX.out.2);have HL:=hid (Z1g (.func 108) #[] #[ptrV b1,ptrV b2] h4);clear h3 h4;go_wp2_with fail;refine HR.out.mono ?_;rintro e w' ⟨rfl,rfl⟩;go_wp2_with fail;refine HL.out.mono ?_;rintro e w6 ⟨rfl,h9⟩;have H9:=hid h9;clear h9 HL HR q0 q1;go_wp2_with fail;go_ret;exact⟨b1,b2,rfl,H9.out⟩
theorem Zf0 {v:Int} {ι:Type} {Q:ι->Asr} {b1 b2:Nat} (h:Hold w0 w (atA g c x*(blkA 108 b1 #[ptrV g]*(blkA 3 b2 #[.int .i64 v]*R)))) (he:Calls Tryz.prog 109 #[ptrV g,.int .i64 v] w fun e w'=>e = .returned (.tuple #[])/\∃i,Hold w0 w' (Q i)) :
  Calls Tryz.prog 108 #[ptrV b1,ptrV b2] w fun e w'=>e = .returned (.tuple #[])/\∃i,Hold w0 w' (Q i):=by
 have q1:=h.drop.blk.some_ (i:=0) rfl;have q2:=h.drop.drop.blk.some_ (i:=0) rfl;have HE:=hid he;clear h he;go_enter Tryz.func108,Tryz.ntmps108;go_wp2_with fail;refine HE.out.mono ?_;rintro e w' ⟨rfl,i,h1⟩;have H1:=hid h1;clear h1;go_wp2_with fail
 go_end0
 exact⟨rfl,i,H1.out⟩
end
section
variable {w0 w:World} {R R':Asr} {g gl:Nat} {c:Cfg} {x:AtR} {L:PL} {sn:List Int} {n cp:Nat} {A1:Option Addr}
def WdsQ (w0:World) (sn:List Int) (n:Nat) (R:Asr) (e:Ending) (w':World):Prop:=∃A2 c2 A3 c3 ws,ws.length<=32/\e = .returned (.tuple #[.slice A2 n c2,.slice A3 ws.length c3])/\Hold w0 w' (queA 3 (.slice A2 n c2) (iL sn)*(queA 3 (.slice A3 ws.length c3) (iL ws)*R))
theorem Zct (h:Hold w0 w (atA g c x*(lgA gl L*(queA 3 (.slice A1 n cp) (iL sn)*R)))) (hxl:x.log=gl) (hs:x.seen = .slice A1 n cp) (H:Inv L) (hns:sn.length=n) (hn:n<=1000) :
  Calls Tryz.prog 59 #[ptrV g] w (WdsQ w0 sn n (atA g c x*(lgA gl L*(queA 3 (.slice A1 n cp) (iL sn)*R)))):=by
 have hl32:L.addrs.length<=32:=by have:=H.le;have:=H.cap32;omega
 obtain⟨iI,hiI,iz0,iz1,iz2⟩:=info_parts Z1i;have HX:=hid (And.intro hxl hs);have HI:=hid H;have ql:=h.at_log;rw[hxl] at ql;have HA:=hid (Z5t h.swap H);clear hxl hs H h;obtain⟨k9,hk9⟩:∃k9,k9=L.addrs.length:=⟨_,rfl⟩;rw[<- hk9] at HA hl32;have HN:=hid hk9;have HSN:=hid hns;clear hk9 hns;go_enter Tryz.func59,Tryz.ntmps59;go_wp2_with fail;refine HA.out.mono ?_;rintro e w1 ⟨A0,c0,rfl,h2⟩;have h3:=h2.nilQue 3;clear HA ql h2;go_wp2_with fail;go_loopw [3,13] (fun v4 i wr=>∃(k:Nat) (ws:List Int) (A2:Option Addr) (c2:Nat),k<=k9/\ws.length<=k/\i = .int .i64 (k:Int)/\v4 = .slice A2 ws.length c2/\Hold w0 wr (queA 3 v4 (iL ws)*(queA 3 (.slice A0 k9 c0) (L.addrs.map (Value.int .i64))*(lgA gl L*(atA g c x*(queA 3 (.slice A1 n cp) (iL sn)*R)))))) (fun _ i _=>k9 - (intOf i).toNat)
 case atStart=>exact⟨0,[],none,0,Nat.zero_le _,Nat.le_refl _,rfl,rfl,h3⟩
 case round =>
  clear h3;obtain⟨k,ws,A2,c2,hk,hwl,rfl,rfl,h⟩:=hrel
  by_cases hlt:k<k9
  ·have e1:decide ((k:Int)<(k9:Int))=true:=decide_eq_true (by omega)
   have e1':decide (k<k9)=true:=decide_eq_true hlt;have hkl:k<L.addrs.length:=by rw[<- HN.out];exact hlt
   obtain⟨z,hz⟩:∃z,z=L.addrs[k]:=⟨_,rfl⟩;have hzk:L.addrs[k]?=some z:=by rw[hz];exact List.getElem?_eq_getElem hkl
   obtain⟨fp,hp⟩:=h.drop.get;obtain⟨-,-,-,bA,hr,-⟩:=queReads hp;obtain⟨ad,hA,-,-⟩:=hr.cellAt hlt;subst hA;have d0:=h.drop.queAt (k:=k) (u:=.int .i64 z) (by rw[List.getElem?_map,hzk];rfl);have k0:(0:Int)<=(k:Int):=by omega
   have k1:(k:Int)<(k9:Int):=by omega
   have hlen:(iL ws).length=ws.length:=by simp
   have qw:=(h.pk4 [3,0,1,2]).at_words;obtain⟨cw,hcw⟩:∃cw,cw=c.words:=⟨_,rfl⟩;rw[<- hcw] at qw
   by_cases hzw:z<cw
   ·have e2:decide (z<cw)=true:=decide_eq_true hzw
    generalize hxs:iL ws=xs0 at h hlen;have HXS:=hid hxs;have HLN:=hid hlen;have HWL:=hid hwl;obtain⟨nw,hnw⟩:∃nw,nw=ws.length:=⟨_,rfl⟩;rw[<- hnw] at h |-;have HNW:=hid hnw;clear hp hr hz hzk hlen hxs hwl hcw hzw hnw;go_wp2_with (at_builtin;refine Z0r rfl _ _ 23 rfl iI (.int .i64 0) 8 Tryz.underlying23 hiI iz0 iz1 iz2 rfl (.int .i64 z) _ rfl h rfl rfl (by have:=HWL.out;rw[HLN.out];omega) (by decide) ?_);intro v9 y4 h5;obtain⟨A9,c9,hv9⟩:=h5.Zlu;rw[List.length_append,HLN.out] at hv9;subst hv9;have H5:=hid h5;clear h h5 qw e2 d0;go_wp2_with fail;go_roundw
    case rel =>
     refine⟨k+1,ws++[z],A9,c9,by omega,by rw[List.length_append];exact Nat.add_le_add_right HWL.out 1,by go_num,by rw[List.length_append];rfl,?_⟩;rw[iL,List.map_append];have h9:=H5.out;rw[<- HXS.out] at h9;exact h9
    case measure=>simp[intOf];omega
   ·have e2:decide (z<cw)=false:=decide_eq_false hzw
    have HWL:=hid hwl;have HH:=hid h;clear hp hr hz hzk hlen hwl hcw hzw h;go_wp2_with fail;go_roundw
    case rel=>exact⟨k+1,ws,A2,c2,by omega,Nat.le_succ_of_le HWL.out,by go_num,rfl,HH.out⟩
    case measure=>simp[intOf];omega
  ·obtain rfl:k=k9:=by omega
   have e1:decide ((k:Int)<(k:Int))=false:=decide_eq_false (by omega);have h4:Hold w0 wr (queA 3 (.slice A1 n cp) (iL sn)*(queA 3 (.slice A2 ws.length c2) (iL ws)*(atA g c x*(lgA gl L*R)))):=h.pk5 [4,0,3,2];have qs:=(h4.pk3 [2,0,1]).at_seen;rw[HX.out.2] at qs;have HC:=hid (Zc4 h4 (by rw[HSN.out];omega));rw[HSN.out] at HC;have HWL:=hid (Nat.le_trans hwl hl32);clear h h4 hwl;go_wp2_with fail;refine HC.out.mono ?_;rintro e w5 ⟨A5,c5,rfl,h6⟩;have H6:=hid (h6.pk5 [0,2,3,4,1]);clear HC h6 qs;go_wp2_with fail
   go_ret2
   exact⟨A5,c5,A2,c2,ws,HWL.out,rfl,H6.out⟩
end
structure CfA (c:Cfg):Prop where
 s:CfS c
 clk:0<=c.clock/\c.clock<=1000
 al:c.allocs<=2
 fr:c.frees<=2
 rd:Z09 c.reads<=6
 rd1:1<=Z09 c.reads
 pt:∀a,0<=a->Z1y (newL c.writes) a=true
 wr:(newL c.writes).cap<=8
def BlOk (c:Cfg) (k b:Int):Prop:=(0<=b/\b<(nbl c:Nat))/\clsS c b=k
def HdOk (c:Cfg) (k h:Int):Prop:=(0<=h/\h<18446744073709551616)/\(h%65536=0\/BlOk c k (h%65536 - 1))
def LkOk (c:Cfg) (k l:Int):Prop:=l=0\/BlOk c k (l - 1)
theorem nbl4 {c:Cfg} (h:CfS c):nbl c<=4:=by have:=h.nbl;have:=h.c0;have:=h.c1;omega
theorem LkOk.rng {c:Cfg} (hc:CfS c) {k l:Int} (h:LkOk c k l):0<=l/\l<=4:=by
 have:=nbl4 hc;rcases h with h|h
 ·omega
 ·have:=h.1;omega
theorem Zak {c:Cfg} (hc:CfS c) {k hd l:Int} (h0:0<=hd/\hd<18446744073709551616) (hl:LkOk c k l):HdOk c k (Z2a hd (l - 1)):=by
 have hr:=hl.rng hc;have hv:Z2a hd (l - 1)=(hd / 65536+1)%281474976710656*65536+l:=by
  unfold Z2a W.headW W.okG W.okB;rw[decide_eq_true (show (0:Int)<=(hd / 65536+1)%281474976710656 by omega),decide_eq_true (show (hd / 65536+1)%281474976710656<(281474976710656:Int) by omega),decide_eq_true (show (-1:Int)<=l - 1 by omega),decide_eq_true (show l - 1<64 by omega)];refine(if_pos rfl).trans ?_;omega
 refine⟨by rw[hv];omega,?_⟩;have hm:Z2a hd (l - 1)%65536=l:=by rw[hv];omega
 rw[hm];exact hl
structure MI (c:Cfg) (ck tn ts B:Int) (H:List Int) (C:Nat->List Int):Prop where
 ok:COk C
 l1:(C 1).length=(c.words+(nbl c:Nat)).toNat
 l2:(C 2).length=c.orecs.toNat
 l6:(C 6).length=1
 l7:(C 7).length=4
 l8:(C 8).length=nbl c
 ck:valC C 3 0=ck/\0<=ck/\ck<=1000
 nx:valC C 4 0=tn/\0<=tn/\tn<=5000
 sv:valC C 5 0=ts
 orc:∀o:Int,0<=o->o<c.orecs->0<=valC C 2 o/\valC C 2 o / 64<=B/\(valC C 2 o%64=0\/o∈H)
 hd:∀k:Int,k=0\/k=1->HdOk c k (valC C 7 k)
 lk:∀b:Int,0<=b->b<(nbl c:Nat)->LkOk c (clsS c b) (valC C 8 b)
def FrW (B v:Int):Prop:=0<=v/\v%64=0/\v / 64<=B
section
variable {c:Cfg} {ck tn ts B:Int} {H:List Int} {C:Nat->List Int}
theorem Z2i {k:Int} {n:Nat} (hk:1<=k/\k<=8) (h:(C k.toNat).length=n) {i:Int} (h0:0<=i) (h1:i<n):hasC C k i:=⟨h0,by unfold getC;rw[if_pos hk,h];exact h1⟩
theorem MI.has2 (M:MI c ck tn ts B H C) {i:Int} (h0:0<=i) (h1:i<c.orecs):hasC C 2 i:=Z2i ⟨by decide,by decide⟩ M.l2 h0 (by omega)
theorem MI.has3 (M:MI c ck tn ts B H C):hasC C 3 0:=Z2i ⟨by decide,by decide⟩ M.ok.l3 (by decide) (by decide)
theorem MI.has4 (M:MI c ck tn ts B H C):hasC C 4 0:=Z2i ⟨by decide,by decide⟩ M.ok.l4 (by decide) (by decide)
theorem MI.has5 (M:MI c ck tn ts B H C):hasC C 5 0:=Z2i ⟨by decide,by decide⟩ M.ok.l5 (by decide) (by decide)
theorem MI.has7 (M:MI c ck tn ts B H C) {k:Int} (hk:k=0\/k=1):hasC C 7 k:=Z2i ⟨by decide,by decide⟩ M.l7 (by omega) (by omega)
theorem MI.has8 (M:MI c ck tn ts B H C) {b:Int} (h0:0<=b) (h1:b<(nbl c:Nat)):hasC C 8 b:=Z2i ⟨by decide,by decide⟩ M.l8 h0 (by omega)
theorem MI.op (M:MI c ck tn ts B H C) (k i v:Int) (d:Bool) {ck' tn' ts' B':Int} {H':List Int}
  (h3:valC (opC C k i v d) 3 0=ck'/\0<=ck'/\ck'<=1000) (h4:valC (opC C k i v d) 4 0=tn'/\0<=tn'/\tn'<=5000) (h5:valC (opC C k i v d) 5 0=ts')
  (h2:∀o:Int,0<=o->o<c.orecs->0<=valC (opC C k i v d) 2 o/\valC (opC C k i v d) 2 o / 64<=B'/\(valC (opC C k i v d) 2 o%64=0\/o∈H'))
  (h7:∀j:Int,j=0\/j=1->HdOk c j (valC (opC C k i v d) 7 j)) (h8:∀b:Int,0<=b->b<(nbl c:Nat)->LkOk c (clsS c b) (valC (opC C k i v d) 8 b)):MI c ck' tn' ts' B' H' (opC C k i v d):=by
 refine⟨⟨fun j=>?_,?_,?_,?_⟩,?_,?_,?_,?_,?_,h3,h4,h5,h2,h7,h8⟩
 ·rw[Z2s];exact M.ok.len j
 ·rw[Z2s];exact M.ok.l3
 ·rw[Z2s];exact M.ok.l4
 ·rw[Z2s];exact M.ok.l5
 ·rw[Z2s];exact M.l1
 ·rw[Z2s];exact M.l2
 ·rw[Z2s];exact M.l6
 ·rw[Z2s];exact M.l7
 ·rw[Z2s];exact M.l8
theorem MI.orc_ne (M:MI c ck tn ts B H C) {k i v:Int} {d:Bool} (hk:k≠2):∀o:Int,0<=o->o<c.orecs->0<=valC (opC C k i v d) 2 o/\valC (opC C k i v d) 2 o / 64<=B/\(valC (opC C k i v d) 2 o%64=0\/o∈H):=fun o h0 h1=>by rw[Z0y hk];exact M.orc o h0 h1
theorem MI.hd_ne (M:MI c ck tn ts B H C) {k i v:Int} {d:Bool} (hk:k≠7):∀j:Int,j=0\/j=1->HdOk c j (valC (opC C k i v d) 7 j):=fun j h=>by rw[Z0y hk];exact M.hd j h
theorem MI.lk_ne (M:MI c ck tn ts B H C) {k i v:Int} {d:Bool} (hk:k≠8):∀b:Int,0<=b->b<(nbl c:Nat)->LkOk c (clsS c b) (valC (opC C k i v d) 8 b):=fun b h0 h1=>by rw[Z0y hk];exact M.lk b h0 h1
theorem MI.side (M:MI c ck tn ts B H C) {k i v:Int} {d:Bool} (hk:k=1\/k=6):MI c ck tn ts B H (opC C k i v d) :=
 M.op k i v d (by rw[Z0y (by omega)];exact M.ck) (by rw[Z0y (by omega)];exact M.nx) (by rw[Z0y (by omega)];exact M.sv) (M.orc_ne (by omega)) (M.hd_ne (by omega)) (M.lk_ne (by omega))
theorem MI.stamp (M:MI c ck tn ts B H C) {v:Int} (hv:0<=v/\v<=1000):MI c v tn ts B H (opC C 3 0 v true) :=
 M.op 3 0 v true ⟨Z2d M.has3,hv⟩ (by rw[Z0y (by omega)];exact M.nx) (by rw[Z0y (by omega)];exact M.sv) (M.orc_ne (by omega)) (M.hd_ne (by omega)) (M.lk_ne (by omega))
theorem MI.take (M:MI c ck tn ts B H C) {v:Int} (hv:0<=v/\v<=5000):MI c ck v ts B H (opC C 4 0 v true) :=
 M.op 4 0 v true (by rw[Z0y (by omega)];exact M.ck) ⟨Z2d M.has4,hv⟩ (by rw[Z0y (by omega)];exact M.sv) (M.orc_ne (by omega)) (M.hd_ne (by omega)) (M.lk_ne (by omega))
theorem MI.pass (M:MI c ck tn ts B H C) (v:Int):MI c ck tn v B H (opC C 5 0 v true) :=
 M.op 5 0 v true (by rw[Z0y (by omega)];exact M.ck) (by rw[Z0y (by omega)];exact M.nx) (Z2d M.has5) (M.orc_ne (by omega)) (M.hd_ne (by omega)) (M.lk_ne (by omega))
theorem MI.orcSet (M:MI c ck tn ts B H C) {i v B':Int} {H':List Int} (h0:0<=i) (h1:i<c.orecs) (hB:B<=B') (hi:0<=v/\v / 64<=B'/\(v%64=0\/i∈H')) (hH:∀o∈H,o≠i->o∈H'):MI c ck tn ts B' H' (opC C 2 i v true):=by
 refine M.op 2 i v true (by rw[Z0y (by omega)];exact M.ck) (by rw[Z0y (by omega)];exact M.nx) (by rw[Z0y (by omega)];exact M.sv) (fun o h2 h3=>?_) (M.hd_ne (by omega)) (M.lk_ne (by omega))
 by_cases he:o=i
 ·subst he
  rw[Z2d (M.has2 h0 h1)];exact hi
 ·rw[Z4k h0 h2 (Ne.symm he)]
  obtain⟨e1,e2,e3⟩:=M.orc o h2 h3;exact⟨e1,by omega,e3.imp id fun h=>hH o h he⟩
theorem MI.head (M:MI c ck tn ts B H C) {k v:Int} (hk:k=0\/k=1) (hv:HdOk c k v):MI c ck tn ts B H (opC C 7 k v true):=by
 refine M.op 7 k v true (by rw[Z0y (by omega)];exact M.ck) (by rw[Z0y (by omega)];exact M.nx) (by rw[Z0y (by omega)];exact M.sv) (M.orc_ne (by omega)) (fun j hj=>?_) (M.lk_ne (by omega))
 by_cases he:j=k
 ·subst he;rw[Z2d (M.has7 hk)];exact hv
 ·rw[Z4k (by omega) (by omega) (Ne.symm he)];exact M.hd j hj
theorem MI.link (M:MI c ck tn ts B H C) {b v:Int} (h0:0<=b) (h1:b<(nbl c:Nat)) (hv:LkOk c (clsS c b) v):MI c ck tn ts B H (opC C 8 b v true):=by
 refine M.op 8 b v true (by rw[Z0y (by omega)];exact M.ck) (by rw[Z0y (by omega)];exact M.nx) (by rw[Z0y (by omega)];exact M.sv) (M.orc_ne (by omega)) (M.hd_ne (by omega)) (fun j h2 h3=>?_)
 by_cases he:j=b
 ·subst he;rw[Z2d (M.has8 h0 h1)];exact hv
 ·rw[Z4k (by omega) (by omega) (Ne.symm he)];exact M.lk j h2 h3
theorem MI.wid (M:MI c ck tn ts B H C) {B':Int} (h:B<=B'):MI c ck tn ts B' H C:=⟨M.ok,M.l1,M.l2,M.l6,M.l7,M.l8,M.ck,M.nx,M.sv,fun o h0 h1=>by have:=M.orc o h0 h1;exact⟨this.1,by omega,this.2.2⟩,M.hd,M.lk⟩
end
inductive AP
 | en (k:Nat)
 | idle0
 | idle
 | lrd
 | lget
 | lwr
 | lal
 | lfr
 | lfree
 | lend
 | rd (k:Nat)
 | pop (k:Nat)
 | lk (r:Nat) (b:Bool)
 | tk
 | tw
 | ck (r:Nat)
 | de
 | wr (r:Nat)
 | re (r:Nat)
 | st
 | pa
 | pu (r:Nat)
 | lv
 | fin
def AP.msr:AP->Nat
 | .en k=>59 - k
 | .idle0=>56
 | .idle=>52
 | .lrd | .lget | .lwr | .lal | .lfr | .lfree=>55
 | .lend=>51
 | .rd k=>55 - k
 | .pop k=>55 - k
 | .lk r b=>2*r+34 - b.toNat
 | .tk=>34
 | .tw=>33
 | .ck r=>26+r
 | .de=>26
 | .wr r=>17+r
 | .re r=>9+r
 | .st=>9
 | .pa=>8
 | .pu r=>1+r
 | .lv=>1
 | .fin=>0
structure QD where
 x:AtR
 L:PL
 al:List Int
 fr:List Int
 sn:List Int
 xs:List Int
 C:Nat->List Int
 ge:Nat
 rv:Int
 ck:Int
 t:Int
 gk:Nat:=0
 gt:Nat:=0
 gw:Nat:=0
 b1:Nat:=0
 b2:Nat:=0
 b3:Nat:=0
 ad:Int:=0
 bf:Int:=0
 vl:Int:=0
 s1:Int:=0
 fb:Option Int:=none
 os:List Int:=[]
 old:List Int:=[]
 zs:List Int:=[]
 vs:List Int:=[]
 hl:Bool:=false
 cm:Bool:=false
 cl:Int:=0
 hd:Int:=0
 nx:Int:=0
 pk:Nat:=0
 pj:Nat:=0
def SlV (v:Value) (n:Nat):Prop:=∃A cp,v = .slice A n cp
abbrev nilS:Value:=.slice none 0 0
def Zcs (sg:Bool) (st:Nat) (v:Int):Prop:=(v≠5/\v≠9/\0<=v/\v<=8)/\(st≠0->sg=true->v=1\/v=6)
structure CF (c:Cfg) (sg:Bool) (s:Nat) (st:Nat) (en:Value) (th state:Int) (av fv sv:Value) (clk code:Int) (ge:Nat) (L:PL) (al fr sn xs:List Int) (t:Int):Prop where
 ent:en=ptrV ge
 th0:th=0
 st1:state=if st=2 then 2 else 1
 als:SlV av al.length
 frs:SlV fv fr.length
 sns:SlV sv sn.length
 log:LgOk c L
 cap:L.cap<=8
 alr:∀b∈al,0<=b/\b<(nbl c:Nat)
 frr:∀b∈fr,0<=b/\b<(nbl c:Nat)
 al2:al.length<=2
 frl:fr.length<=2
 snl:sn.length<=s
 xsl:xs.length<=Z09 c.reads
 xsr:∀o∈xs,0<=o/\o<c.orecs
 ckr:0<=clk/\clk<=1000
 cod:Zcs sg st code
 tb:0<=t/\t<=s
abbrev CFq (c:Cfg) (sg:Bool) (s:Nat) (q:QD) (st:Nat):Prop:=CF c sg s st q.x.enter q.x.th q.x.state q.x.allocs q.x.frees q.x.seen q.x.clock q.x.code q.ge q.L q.al q.fr q.sn q.xs q.t
theorem CF.up {c:Cfg} {sg:Bool} {s st:Nat} {en:Value} {th state:Int} {av fv sv:Value} {clk code:Int} {ge:Nat} {L:PL} {al fr sn xs:List Int} {t:Int} (h:CF c sg s st en th state av fv sv clk code ge L al fr sn xs t):CF c sg (s+1) st en th state av fv sv clk code ge L al fr sn xs t :=
 {h with snl:=Nat.le_succ_of_le h.snl,tb:=⟨h.tb.1,by have:=h.tb.2;omega⟩}
abbrev EF (c:Cfg) (sg:Bool) (s:Nat) (q:QD):Prop:=CFq c sg s q 0/\q.x.pushed=0/\q.x.orecs=nilS/\MI c q.ck q.t q.t q.ck [] q.C
def LF (c:Cfg) (q:QD):Prop :=
 (q.hl=true->q.x.code=1/\0<q.L.addrs.length/\q.x.lock=ptrV q.gk/\SlV q.x.orecs q.os.length/\q.old.length=q.os.length/\(0<q.os.length/\q.os.length<=8)/\(∀o∈q.os,0<=o/\o<c.orecs)/\∀v∈q.old,FrW q.ck v) /\
 (q.hl=false->q.x.orecs=nilS/\(q.x.code==1 && decide (0<(q.L.addrs.length:Int)))=false)
abbrev TF (c:Cfg) (sg:Bool) (s:Nat) (q:QD) (tn:Int):Prop:=CFq c sg s q 1/\q.x.pushed=0/\q.rv=q.ck/\q.x.turn=ptrV q.gt/\LF c q/\MI c q.ck tn q.t q.ck (if q.hl then q.os else []) q.C
def ph (c:Cfg) (sg:Bool) (s:Nat) (q:QD):AP->Prop
 | .en k=>EF c sg s q/\q.x.at_=2/\(k<=1/\q.rv=0\/k=2/\q.rv=q.ck)/\q.xs=[]/\q.L=newL c.writes
 | .idle0=>EF c sg s q/\q.x.at_=0/\q.rv=q.ck/\q.xs=[]/\q.L=newL c.writes
 | .idle=>EF c sg s q/\q.x.at_=0/\q.rv=q.ck
 | .lrd=>EF c sg s q/\q.x.at_=1/\q.rv=q.ck/\sg=false/\q.x.then_ = .func (.func 111) #[] #[ptrV q.b1]
 | .lget=>EF c sg s q/\q.x.at_=1/\q.rv=q.ck/\q.x.then_ = .func (.func 114) #[] #[ptrV q.b2,ptrV q.b3]
 | .lwr=>EF c sg s q/\q.x.at_=1/\q.rv=q.ck/\(sg=true->q.ad<c.words/\Z1y q.L q.ad=true)/\q.x.then_ = .func (.func 117) #[] #[ptrV q.b1,ptrV q.b2,ptrV q.b3]/\0<=q.ad/\q.ad<18446744073709551616
 | .lal=>EF c sg s q/\q.x.at_=1/\q.rv=q.ck/\sg=false/\q.x.then_ = .func (.func 190) #[] #[ptrV q.b1]
 | .lfr=>EF c sg s q/\q.x.at_=1/\q.rv=q.ck/\sg=false/\q.x.then_ = .func (.func 195) #[] #[ptrV q.b1]
 | .lfree=>EF c sg s q/\q.x.at_=1/\q.rv=q.ck/\sg=false/\q.x.then_ = .func (.func 196) #[] #[ptrV q.b1,ptrV q.b2,ptrV q.b3]/\0<=q.ad/\q.ad<(nbl c:Nat)
 | .lend=>EF c sg s q/\q.x.at_=1/\q.rv=q.ck/\q.x.then_ = .func (.func 108) #[] #[ptrV q.b1,ptrV q.b2]/\(q.ad=1\/q.ad=2/\sg=false)
 | .rd k=>EF c sg s q/\q.x.at_=3/\q.rv=q.ck/\(sg=true->q.xs=[]/\q.fb=none)/\q.x.loads=(k:Int)/\q.x.read=ptrV q.gk/\q.x.addr=q.ad/\(0<=q.ad/\q.ad<c.words+(nbl c:Nat))/\(match q.fb with|none=>q.x.use_=Z4l q.b1|some b=>q.x.use_ = .func (.func 198) #[] #[ptrV q.b1,ptrV q.b2]/\0<=b/\b<(nbl c:Nat))/\(1<=k->q.bf=valC q.C 2 (q.ad%c.orecs))
 | .pop k=>EF c sg s q/\q.x.at_=4/\q.rv=q.ck/\sg=false/\q.x.pop=ptrV q.gk/\q.x.then_ = .func (.func 192) #[] #[ptrV q.b1,ptrV q.b2]/\(q.cl=0\/q.cl=1)/\q.al.length<=1/\(1<=k->q.hd=valC q.C 7 q.cl/\q.hd%65536≠0)/\(2<=k->q.nx=valC q.C 8 (q.hd%65536 - 1))
 | .lk r b=>CFq c sg s q 1/\q.x.pushed=0/\q.rv=q.ck/\q.x.at_=5/\q.x.code=1/\0<q.L.addrs.length/\q.x.lock=ptrV q.gk/\SlV q.x.orecs q.os.length/\q.os.length<=8/\(∀o∈q.os,0<=o/\o<c.orecs)/\q.os.Pairwise (· < ·)/\(r+q.old.length=q.os.length/\0<r)/\(∀v∈q.old,FrW q.ck v)/\MI c q.ck q.t q.t q.ck (q.os.take q.old.length) q.C/\(b=true->∀o,q.os[q.old.length]?=some o->q.s1=valC q.C 2 o)
 | .tk=>TF c sg s q q.t/\q.x.at_=6
 | .tw=>TF c sg s q (q.t+1)/\q.x.at_=6
 | .ck r=>TF c sg s q (q.t+1)/\q.x.at_=7/\q.x.check=ptrV q.gw/\(q.zs.length=r/\0<r)/\∀o∈q.zs,0<=o/\o<c.orecs
 | .de=>TF c sg s q (q.t+1)/\q.x.at_=8
 | .wr r=>CFq c sg s q 1/\q.x.pushed=0/\q.x.at_=9/\q.x.turn=ptrV q.gt/\q.x.code=1/\0<q.L.addrs.length/\SlV q.x.orecs q.os.length/\(0<q.os.length/\q.os.length<=8)/\(∀o∈q.os,0<=o/\o<c.orecs)/\q.x.write=ptrV q.gw/\q.x.clock=q.ck/\q.ck<1000/\q.x.decided=true/\(q.zs.length=r/\q.vs.length=r/\0<r)/\(∀a∈q.zs,0<=a/\a<c.words+(nbl c:Nat))/\MI c q.ck (q.t+1) q.t q.ck q.os q.C
 | .re r=>CFq c sg s q 1/\q.x.pushed=0/\q.x.at_=10/\q.x.turn=ptrV q.gt/\q.x.release=ptrV q.gw/\(q.zs.length=r/\q.vs.length=r/\0<r)/\(∀o∈q.zs,0<=o/\o<c.orecs) /\
   (q.cm=true->q.x.decided=true/\q.x.code=1/\0<q.L.addrs.length/\q.x.clock=q.ck/\q.ck<1000/\(∀v∈q.vs,FrW (q.ck+1) v)/\MI c q.ck (q.t+1) q.t (q.ck+1) q.zs q.C) /\
   (q.cm=false->q.x.code=6/\(∀v∈q.vs,FrW q.ck v)/\MI c q.ck (q.t+1) q.t q.ck q.zs q.C)
 | .st=>CFq c sg s q 1/\q.x.pushed=0/\q.x.at_=11/\q.x.turn=ptrV q.gt/\q.x.clock=q.ck/\q.ck<1000/\MI c q.ck (q.t+1) q.t (q.ck+1) [] q.C
 | .pa=>CFq c sg s q 1/\q.x.pushed=0/\q.x.at_=12/\q.x.turn=ptrV q.gt/\MI c q.ck (q.t+1) q.t q.ck [] q.C
 | .pu r=>CFq c sg s q 1/\q.x.at_=13/\q.x.code≠1/\q.x.push=ptrV q.gk/\q.x.pushed=(q.pk:Int)/\(q.pk<q.al.length/\q.pj<=2/\r+q.pj=3*(q.al.length - q.pk))/\q.al[q.pk]?=some q.bf/\q.cl=clsS c q.bf/\(1<=q.pj->q.hd=valC q.C 7 q.cl)/\MI c q.ck q.t q.t q.ck [] q.C
 | .lv=>CFq c sg s q 1/\q.x.at_=14/\MI c q.ck q.t q.t q.ck [] q.C
 | .fin=>CFq c sg s q 2/\q.x.at_=0/\MI c q.ck q.t q.t q.ck [] q.C
def clx (g m:Nat) (c:Cfg) (q:QD) (k:Int) (l:List Asr):List Asr:=atA g c q.x::memA m q.C::lgA q.x.log q.L::queA 3 q.x.allocs (iL q.al)::queA 3 q.x.frees (iL q.fr)::queA 3 q.x.seen (iL q.sn)::stA q.x.set (Z09 c.reads) q.xs::enA q.ge 0 k q.rv::l
def lokP (q:QD):Asr:=if q.hl then lkA q.gk 0 q.os q.old false q.s1*queA 3 q.x.orecs (iL q.os) else Asr.emp
def fbA (q:QD):Asr:=match q.fb with|none=>Asr.emp|some b=>blkA 3 q.b2 #[.int .i64 b]
def ps (g m:Nat) (c:Cfg) (q:QD):AP->List Asr
 | .en k=>clx g m c q (k:Int) []
 | .idle0=>clx g m c q 3 []
 | .idle=>clx g m c q 3 []
 | .lrd=>clx g m c q 3 [blkA 108 q.b1 #[ptrV g]]
 | .lget=>clx g m c q 3 [blkA 108 q.b1 #[ptrV g],blkA 153 q.b2 #[Z4l q.b1],blkA 34 q.b3 #[.int .u64 q.vl]]
 | .lwr=>clx g m c q 3 [blkA 108 q.b1 #[ptrV g],blkA 34 q.b2 #[.int .u64 q.ad],blkA 34 q.b3 #[.int .u64 q.vl]]
 | .lal=>clx g m c q 3 [blkA 108 q.b1 #[ptrV g]]
 | .lfr=>clx g m c q 3 [blkA 108 q.b1 #[ptrV g]]
 | .lfree=>clx g m c q 3 [blkA 108 q.b1 #[ptrV g],blkA 3 q.b2 #[.int .i64 q.ad],blkA 34 q.b3 #[.int .u64 q.vl]]
 | .lend=>clx g m c q 3 [blkA 108 q.b1 #[ptrV g],blkA 3 q.b2 #[.int .i64 q.ad]]
 | .rd k=>clx g m c q 3 [rdA q.gk q.ad (q.ad%c.orecs) q.rv (k:Int) q.bf q.vl false,blkA 108 q.b1 #[ptrV g],fbA q]
 | .pop k=>clx g m c q 3 [poA q.gk q.cl (k:Int) q.hd q.nx (-1),blkA 108 q.b1 #[ptrV g],blkA 3 q.b2 #[.int .i64 q.cl]]
 | .lk r b=>clx g m c q 3 [lkA q.gk 0 q.os q.old b q.s1,queA 3 q.x.orecs (iL q.os)]
 | .tk=>clx g m c q 3 [tuA q.gt false 0 false,lokP q]
 | .tw=>clx g m c q 3 [tuA q.gt true q.t false,lokP q]
 | .ck r=>clx g m c q 3 [tuA q.gt true q.t true,lokP q,chkA q.gw q.zs q.rv false]
 | .de=>clx g m c q 3 [tuA q.gt true q.t true,lokP q]
 | .wr r=>clx g m c q 3 [tuA q.gt true q.t true,wrA q.gw q.zs q.vs,queA 3 q.x.orecs (iL q.os)]
 | .re r=>clx g m c q 3 [tuA q.gt true q.t true,reA q.gw q.zs q.vs]
 | .st=>clx g m c q 3 [tuA q.gt true q.t true]
 | .pa=>clx g m c q 3 [tuA q.gt true q.t true]
 | .pu r=>clx g m c q 3 [puA q.gk q.cl q.bf (q.pj:Int) q.hd]
 | .lv=>clx g m c q 3 []
 | .fin=>clx g m c q 3 []
def aS (g m:Nat) (c:Cfg) (sg:Bool) (s:Nat) (P:AP):Asr:=Asr.exs (fun q=>ph c sg s q P) (fun q=>ps g m c q P)
theorem Hold.pkS {w0 w:World} {R:Asr} {l:List Asr} (h:Hold w0 w (sepR l R)) (n:Nat) (is:List Nat) (hl:l.length=n:=by rfl) (hn:is.Nodup/\∀i∈is,i<n:=by decide):Hold w0 w (sepR (is.map fun i=>l.getD i Asr.emp) R):=h.imp (Imp.pick R is l hn.1 (by rw[hl];exact hn.2))
theorem Hold.pk12 {w0 w:World} {R a1 a2 a3 a4 a5 a6 a7 a8 a9 b0 b1 b2:Asr} (h:Hold w0 w (a1*(a2*(a3*(a4*(a5*(a6*(a7*(a8*(a9*(b0*(b1*(b2*R))))))))))))) (is:List Nat) (hn:is.Nodup/\∀i∈is,i<12:=by decide):Hold w0 w (sepR (is.map fun i=>[a1,a2,a3,a4,a5,a6,a7,a8,a9,b0,b1,b2].getD i Asr.emp) R):=h.imp (Imp.pick R is [a1,a2,a3,a4,a5,a6,a7,a8,a9,b0,b1,b2] hn.1 hn.2)
theorem Imp.late (b:Asr) (F:Asr):∀l:List Asr,Imp (b*sepR l F) (sepR l (b*F))
 | []=>Imp.refl _
 | a::l=>(Imp.swap _ _ _).trans (Imp.under _ (Imp.late b F l))
section
variable {w0 w:World} {R F:Asr} {g m s:Nat} {c:Cfg} {sg:Bool}
abbrev StpX (w0:World) (g m:Nat) (c:Cfg) (sg:Bool) (s:Nat) (F:Asr) (ok:AP->Prop) (a:Acc) (p:Int):Ending->World->Prop:=Z0e (ι:={P:AP // ok P}) w0 (fun P=>aS g m c sg (s+1) P.1*F) a p
def Stp (g m:Nat) (c:Cfg) (sg:Bool) (s:Nat) (P:AP) (p:Int) (ok:AP->Prop):Prop:=∀q,ph c sg s q P->∃a,∀w0 w F,Hold w0 w (sepR (ps g m c q P) F)->Calls Tryz.prog 57 #[ptrV g,ptrV m] w (StpX w0 g m c sg s F ok a p)
theorem stD {ι:Type} {Q:ι->Asr} {l:List Asr} {f:FuncId} {args:Array Value} {a:Acc} {p:Int} (hs:∀w' F',Hold w0 w' (sepR l F')->Calls Tryz.prog f args w' (Z0e w0 (fun i=>Q i*F') a p)) :
  ∀w' gr,Hold w0 w' (blkA 50 gr (acD acc0)*sepR l F)->Calls Tryz.prog f args w' (Z0e w0 (fun i=>blkA 50 gr (acD acc0)*(Q i*F)) a p):=fun w' gr h=>by
 refine(hs w' _ (h.imp (Imp.late _ _ _))).mono ?_;rintro e w'' ⟨i,h1,h2⟩;exact⟨i,h1,h2.imp (Imp.swap _ _ _)⟩
theorem Z0c {P:AP} (q:QD) (hq:ph c sg s q P) (h:Hold w0 w (sepR (ps g m c q P) F)):Hold w0 w (aS g m c sg s P*F):=Hold.Zlr q hq h
end
section
variable {w0 w:World} {R R':Asr} {g gl gp m k:Nat} {c:Cfg} {x:AtR} {L:PL} {A B:Option Addr} {n cp nf cb:Nat} {al fr:List Int} {b st:Int} {a:Acc} {C C2:Nat->List Int}
theorem Z6m {ι:Type} {Q:ι->Asr} {f:FuncId} {cs:Array Value} {cl i0 j0 k0 l0 i1 j1 k1 l1:Int} (h:Hold w0 w (atA g c x*(poA gp cl i0 j0 k0 l0*(memA m C*R)))) (hx:x.pop=ptrV gp)
  (hs:∀F w',Hold w0 w' (poA gp cl i0 j0 k0 l0*(memA m C*F))->Calls Tryz.prog 152 #[ptrV gp,ptrV m] w' fun e w2=>e = .returned a.val/\Hold w0 w2 (poA gp cl i1 j1 k1 l1*(memA m C2*F))) (h3:i1=3)
  (ht:x.then_ = .func (.func f) #[] cs) (hce:∀w,(callFunc f cs).run Tryz.prog w = .ok (.enter f cs) w)
  (hT:∀F w',Hold w0 w' (atA g c {x with at_:=0}*(poA gp cl i1 j1 k1 l1*(memA m C2*(F*R))))->Calls Tryz.prog f cs w' fun e w2=>e = .returned (.tuple #[])/\∃i,Hold w0 w2 (F*Q i)) :
  Calls Tryz.prog 88 #[ptrV g,ptrV m] w (Z0e w0 Q a (Z5g a)):=by
 have HT:=hid (And.intro ht hT);clear ht hT;have HX:=hid hx;have HS:=hid hs;have e3:(i1==3)=true:=beq_iff_eq.2 h3;clear hx hs h3;have H1:=hid (nb h);clear h;go_enter Tryz.func88,Tryz.ntmps88;go_upto_region 1 with fail
 have h1:=H1.out;generalize hW:w.alloc _=W at h1 |-;generalize w.heap.size=gr at h1 |-;clear hW H1;have q:=(h1.pk2 [1]).at_pop;rw[HX.out] at q;have h2:Hold w0 W (poA gp cl i0 j0 k0 l0*(memA m C*(atA g c x*(blkA 50 gr (acD acc0)*R)))):=h1.pk4 [2,3,1,0];have HC:=hid (HS.out _ _ h2);clear h1 h2;go_wp2_with fail;refine HC.out.mono ?_;rintro e w3 ⟨rfl,h3⟩;clear HC q;have H7:=hid (nb h3);clear h3;go_upto_region 2 with(refine Z00 rfl 50 _ _ rfl w3.heap.size _ _ (acD a) rfl rfl _ Tryz.sizeOf50 H7.out rfl rfl rfl ?_;intro y2 h4)
 clear H7;generalize w3.heap.size=gc at h4 |-;have h5:Hold w0 y2 (atA g c x*(poA gp cl i1 j1 k1 l1*(memA m C2*(blkA 50 gr (acD acc0)*(blkA 50 gc (acD a)*R))))):=h4.pk5 [3,1,2,4,0];clear h4;have q:=h5.at_pop;rw[HX.out] at q;have hd:=Zdo w0 y2 _ gp cl i1 j1 k1 l1 h5.swap;rw[e3] at hd;have HD:=hid hd;clear hd e3;have p5:=h5.Zly;have z5:=h5.atZ 31;have q2:=h5.at_then_;rw[HT.out.1] at q2;have h6:Hold w0 _ (atA g c {x with at_:=0}*(poA gp cl i1 j1 k1 l1*(memA m C2*(blkA 50 gr (acD acc0)*(blkA 50 gc (acD a)*R))))):=h5.Zlx 0;have h7:Hold w0 _ ((blkA 50 gr (acD acc0)*blkA 50 gc (acD a))*(atA g c {x with at_:=0}*(poA gp cl i1 j1 k1 l1*(memA m C2*R)))):=Hold.join (h6.pk5 [3,4,0,1,2]);have HC:=hid (HT.out.2 _ _ (h7.pk4 [1,2,3,0]));clear h5 h6 h7;go_wp2_with (refine HD.out.mono ?_;rintro e w' ⟨rfl,rfl⟩);refine HC.out.mono ?_;rintro e w7 ⟨rfl,i,h8⟩;have h9:Hold w0 w7 (blkA 50 gr (acD acc0)*(blkA 50 gc (acD a)*Q i)):=h8.imp (Imp.assoc _ _ _);clear HC h8 q2 p5 z5 q HD;go_upto_region 5 with fail
 replace h9:=h9.drew;refine Z01 [] (by kernel_rfl) ?_;generalize hW:World.drew _=W9 at h9 |-;clear hW;refine Z0f [true] [false,true] (fuel:=4) (by rfl) (by rfl) (by rfl) (by rfl) (by kernel_rfl) (fun QB hQB hQX=>?_) (fun QB hQB hQX=>?_)
 ·simp only[Z08]
  go_wp2_with (refine Z03 rfl 50 _ rfl gc _ _ rfl Tryz.isAgg50 _ Tryz.sizeOf50 h9.drop.blk rfl ?_);go_wp2_with fail;refine hQB.out _ _ trivial ?_;clear hQB hQX QB;refine wbi 1 (fuel:=3) (fun QB hQB hQX=>?_);go_wp2_with (refine Z03 rfl 50 _ rfl gc _ _ rfl Tryz.isAgg50 _ Tryz.sizeOf50 h9.drop.blk rfl ?_);go_wp2_with fail;refine hQB.out _ _ trivial ?_;clear hQB hQX QB;refine wbi 2 (fuel:=2) (fun QB hQB hQX=>?_);go_wp2_with fail
  first
   | refine(Z2y h9).mono ?_
   | refine(Z2y h9).mono ?_
  rintro e w9 ⟨rfl,h9'⟩;have h9:=h9';clear h9';go_wp2_with fail;refine hQB.out _ _ trivial ?_;clear hQB hQX QB;refine wbi 3 (fuel:=1) (fun QB hQB hQX=>?_);go_wp2_with (refine Z00 rfl 50 _ _ rfl gr _ _ (acD a) rfl rfl _ Tryz.sizeOf50 h9 rfl rfl rfl ?_;intro y9 h99);have h9:=h99;go_wp2_with fail;refine hQB.out _ _ trivial ?_;clear hQB hQX QB;refine' wby [false,false,false,false,true] 31 trivial ?_;refine Z02 (by kernel_rfl) ?_ _;go_wp2_with fail;exact bodyPost_ret (Z05 Tryz.results88 _ rfl Tryz.isAgg50 _ Tryz.sizeOf50 h9.blk rfl) rfl ⟨i,rfl,h9.drop.drop⟩
 ·simp only[Z08]
  go_wp2_with (refine Z03 rfl 50 _ rfl gc _ _ rfl Tryz.isAgg50 _ Tryz.sizeOf50 h9.drop.blk rfl ?_);go_wp2_with fail;refine hQB.out _ _ trivial ?_;clear hQB hQX QB;refine Z0f [true] [false,false,true] (fuel:=3) (by rfl) (by rfl) (by rfl) (by rfl) (by kernel_rfl) (fun QB hQB hQX=>?_) (fun QB hQB hQX=>?_)
  ·simp only[Z08]
   go_wp2_with (refine Z03 rfl 50 _ rfl gc _ _ rfl Tryz.isAgg50 _ Tryz.sizeOf50 h9.drop.blk rfl ?_);go_wp2_with fail;refine hQB.out _ _ trivial ?_;clear hQB hQX QB;refine wbi 2 (fuel:=2) (fun QB hQB hQX=>?_);go_wp2_with fail
   first
    | refine(Z2y h9).mono ?_
    | refine(Z2y h9).mono ?_
   rintro e w9 ⟨rfl,h9'⟩;have h9:=h9';clear h9';go_wp2_with fail;refine hQB.out _ _ trivial ?_;clear hQB hQX QB;refine wbi 3 (fuel:=1) (fun QB hQB hQX=>?_);go_wp2_with (refine Z00 rfl 50 _ _ rfl gr _ _ (acD a) rfl rfl _ Tryz.sizeOf50 h9 rfl rfl rfl ?_;intro y9 h99);have h9:=h99;go_wp2_with fail;refine hQB.out _ _ trivial ?_;clear hQB hQX QB;refine' wby [false,false,false,false,true] 31 trivial ?_;refine Z02 (by kernel_rfl) ?_ _;go_wp2_with fail;exact bodyPost_ret (Z05 Tryz.results88 _ rfl Tryz.isAgg50 _ Tryz.sizeOf50 h9.blk rfl) rfl ⟨i,rfl,h9.drop.drop⟩
  ·simp only[Z08]
   go_wp2_with fail
   first
    | refine(Z2y h9).mono ?_
    | refine(Z2y h9).mono ?_
   rintro e w9 ⟨rfl,h9'⟩;have h9:=h9';clear h9';go_wp2_with fail;refine hQB.out _ _ trivial ?_;clear hQB hQX QB;refine wbi 0 (fuel:=2) (fun QB hQB hQX=>?_);go_wp2_with (refine Z03 rfl 50 _ rfl gc _ _ rfl Tryz.isAgg50 _ Tryz.sizeOf50 h9.drop.blk rfl ?_);go_wp2_with fail;refine hQB.out _ _ trivial ?_;clear hQB hQX QB;refine wbi 3 (fuel:=1) (fun QB hQB hQX=>?_);go_wp2_with (refine Z00 rfl 50 _ _ rfl gr _ _ (acD a) rfl rfl _ Tryz.sizeOf50 h9 rfl rfl rfl ?_;intro y9 h99);have h9:=h99;go_wp2_with fail;refine hQB.out _ _ trivial ?_;clear hQB hQX QB;refine' wby [false,false,false,false,true] 31 trivial ?_;refine Z02 (by kernel_rfl) ?_ _;go_wp2_with fail;exact bodyPost_ret (Z05 Tryz.results88 _ rfl Tryz.isAgg50 _ Tryz.sizeOf50 h9.blk rfl) rfl ⟨i,rfl,h9.drop.drop⟩
theorem Z6e {cl b0 i0 j0 i1 j1:Int} (h:Hold w0 w (atA g c x*(puA gp cl b0 i0 j0*(memA m C*(queA 3 (.slice A n cp) (iL al)*R))))) (hx:x.push=ptrV gp)
  (hs:∀F w',Hold w0 w' (puA gp cl b0 i0 j0*(memA m C*F))->Calls Tryz.prog 84 #[ptrV gp,ptrV m] w' fun e w2=>e = .returned a.val/\Hold w0 w2 (puA gp cl b0 i1 j1*(memA m C2*F))) (h3:i1=3)
  (O:AlOk c x gl A n cp k al) (hkn:k<n) (hcd:x.code≠1) :
  Calls Tryz.prog 99 #[ptrV g,ptrV m] w (Z5o w0 (finA g c {x with pushed:=(k:Int)+1} al*(queA 3 (.slice A n cp) (iL al)*(puA gp cl b0 i1 j1*(memA m C2*R)))) a (Z1q a)):=by
 have HO:=hid (And.intro O hcd);have k9:k<=100:=by have:=O.n2;omega
 clear O hcd;have HX:=hid hx;have HS:=hid hs;have e3:(i1==3)=true:=beq_iff_eq.2 h3;clear hx hs h3;have H1:=hid (nb h);clear h;go_enter Tryz.func99,Tryz.ntmps99;go_upto_region 1 with fail
 have h1:=H1.out;generalize hW:w.alloc _=W at h1 |-;generalize w.heap.size=gr at h1 |-;clear hW H1;have q:=(h1.pk2 [1]).at_push;rw[HX.out] at q;have h2:Hold w0 W (puA gp cl b0 i0 j0*(memA m C*(atA g c x*(blkA 50 gr (acD acc0)*(queA 3 (.slice A n cp) (iL al)*R))))):=h1.pk4 [2,3,1,0];have HC:=hid (HS.out _ _ h2);clear h1 h2;go_wp2_with fail;refine HC.out.mono ?_;rintro e w3 ⟨rfl,h3⟩;clear HC q;have H7:=hid (nb h3);clear h3;go_upto_region 2 with(refine Z00 rfl 50 _ _ rfl w3.heap.size _ _ (acD a) rfl rfl _ Tryz.sizeOf50 H7.out rfl rfl rfl ?_;intro y2 h4)
 clear H7;generalize w3.heap.size=gc at h4 |-;have h5:Hold w0 y2 (atA g c x*(puA gp cl b0 i1 j1*(memA m C2*(blkA 50 gr (acD acc0)*(blkA 50 gc (acD a)*(queA 3 (.slice A n cp) (iL al)*R)))))):=h4.pk5 [3,1,2,4,0];clear h4;have q:=h5.at_push;rw[HX.out] at q;have hd:=Za0 w0 y2 _ gp cl b0 i1 j1 h5.swap;rw[e3] at hd;have HD:=hid hd;clear hd e3;have p5:=h5.at_pushed;rw[HO.out.1.pu] at p5;have z5:=h5.atZ 39;have H6:=hid (h5.at_pushed_set ((k:Int)+1));clear h5;go_wp2_with (refine HD.out.mono ?_;rintro e w' ⟨rfl,rfl⟩;go_upto_region 4 with fail);go_upto_region 4 with fail
 clear HD q;have h6:Hold w0 _ (atA g c {x with pushed:=(k:Int)+1}*(puA gp cl b0 i1 j1*(memA m C2*(blkA 50 gr (acD acc0)*(blkA 50 gc (acD a)*(queA 3 (.slice A n cp) (iL al)*R)))))):=H6.out;generalize hW:World.setCell _ _ _=W6 at h6 |-;clear hW H6 p5 z5;have h7:Hold w0 W6 (atA g c {x with pushed:=(k:Int)+1}*(queA 3 (.slice A n cp) (iL al)*(puA gp cl b0 i1 j1*(memA m C2*(blkA 50 gr (acD acc0)*(blkA 50 gc (acD a)*R)))))):=h6.pk6 [0,5,1,2,3,4];have HC:=hid (Zez (k:=k+1) h7 HO.out.1.all HO.out.1.len (by rfl) hkn (by have:=HO.out.1.n2;omega) HO.out.2 HO.out.1.cfg HO.out.1.rng);clear h6 h7;go_wp2_with fail;refine HC.out.mono ?_;rintro e w7 ⟨rfl,h8⟩;have h9:Hold w0 w7 (blkA 50 gr (acD acc0)*(blkA 50 gc (acD a)*(finA g c {x with pushed:=(k:Int)+1} al*(queA 3 (.slice A n cp) (iL al)*(puA gp cl b0 i1 j1*(memA m C2*R)))))):=h8.asr.pk6 [4,5,0,1,2,3];clear HC h8;go_upto_region 5 with fail
 replace h9:=h9.drew;refine Z01 [] (by kernel_rfl) ?_;generalize hW:World.drew _=W9 at h9 |-;clear hW;refine Z0f [true] [false,true] (fuel:=4) (by rfl) (by rfl) (by rfl) (by rfl) (by kernel_rfl) (fun QB hQB hQX=>?_) (fun QB hQB hQX=>?_)
 ·simp only[Z08]
  go_wp2_with (refine Z03 rfl 50 _ rfl gc _ _ rfl Tryz.isAgg50 _ Tryz.sizeOf50 h9.drop.blk rfl ?_);go_wp2_with fail;refine hQB.out _ _ trivial ?_;clear hQB hQX QB;refine wbi 1 (fuel:=3) (fun QB hQB hQX=>?_);go_wp2_with (refine Z03 rfl 50 _ rfl gc _ _ rfl Tryz.isAgg50 _ Tryz.sizeOf50 h9.drop.blk rfl ?_);go_wp2_with fail;refine hQB.out _ _ trivial ?_;clear hQB hQX QB;refine wbi 2 (fuel:=2) (fun QB hQB hQX=>?_);go_wp2_with fail
  first
   | refine(Z1k h9).mono ?_
   | refine(Z1k h9).mono ?_
  rintro e w9 ⟨rfl,h9'⟩;have h9:=h9';clear h9';go_wp2_with fail;refine hQB.out _ _ trivial ?_;clear hQB hQX QB;refine wbi 3 (fuel:=1) (fun QB hQB hQX=>?_);go_wp2_with (refine Z00 rfl 50 _ _ rfl gr _ _ (acD a) rfl rfl _ Tryz.sizeOf50 h9 rfl rfl rfl ?_;intro y9 h99);have h9:=h99;go_wp2_with fail;refine hQB.out _ _ trivial ?_;clear hQB hQX QB;refine' wby [false,false,false,false,true] 32 trivial ?_;refine Z02 (by kernel_rfl) ?_ _;go_wp2_with fail;exact bodyPost_ret (Z05 Tryz.results99 _ rfl Tryz.isAgg50 _ Tryz.sizeOf50 h9.blk rfl) rfl ⟨rfl,h9.drop.drop⟩
 ·simp only[Z08]
  go_wp2_with (refine Z03 rfl 50 _ rfl gc _ _ rfl Tryz.isAgg50 _ Tryz.sizeOf50 h9.drop.blk rfl ?_);go_wp2_with fail;refine hQB.out _ _ trivial ?_;clear hQB hQX QB;refine Z0f [true] [false,false,true] (fuel:=3) (by rfl) (by rfl) (by rfl) (by rfl) (by kernel_rfl) (fun QB hQB hQX=>?_) (fun QB hQB hQX=>?_)
  ·simp only[Z08]
   go_wp2_with (refine Z03 rfl 50 _ rfl gc _ _ rfl Tryz.isAgg50 _ Tryz.sizeOf50 h9.drop.blk rfl ?_);go_wp2_with fail;refine hQB.out _ _ trivial ?_;clear hQB hQX QB;refine wbi 2 (fuel:=2) (fun QB hQB hQX=>?_);go_wp2_with fail
   first
    | refine(Z1k h9).mono ?_
    | refine(Z1k h9).mono ?_
   rintro e w9 ⟨rfl,h9'⟩;have h9:=h9';clear h9';go_wp2_with fail;refine hQB.out _ _ trivial ?_;clear hQB hQX QB;refine wbi 3 (fuel:=1) (fun QB hQB hQX=>?_);go_wp2_with (refine Z00 rfl 50 _ _ rfl gr _ _ (acD a) rfl rfl _ Tryz.sizeOf50 h9 rfl rfl rfl ?_;intro y9 h99);have h9:=h99;go_wp2_with fail;refine hQB.out _ _ trivial ?_;clear hQB hQX QB;refine' wby [false,false,false,false,true] 32 trivial ?_;refine Z02 (by kernel_rfl) ?_ _;go_wp2_with fail;exact bodyPost_ret (Z05 Tryz.results99 _ rfl Tryz.isAgg50 _ Tryz.sizeOf50 h9.blk rfl) rfl ⟨rfl,h9.drop.drop⟩
  ·simp only[Z08]
   go_wp2_with fail
   first
    | refine(Z1k h9).mono ?_
    | refine(Z1k h9).mono ?_
   rintro e w9 ⟨rfl,h9'⟩;have h9:=h9';clear h9';go_wp2_with fail;refine hQB.out _ _ trivial ?_;clear hQB hQX QB;refine wbi 0 (fuel:=2) (fun QB hQB hQX=>?_);go_wp2_with (refine Z03 rfl 50 _ rfl gc _ _ rfl Tryz.isAgg50 _ Tryz.sizeOf50 h9.drop.blk rfl ?_);go_wp2_with fail;refine hQB.out _ _ trivial ?_;clear hQB hQX QB;refine wbi 3 (fuel:=1) (fun QB hQB hQX=>?_);go_wp2_with (refine Z00 rfl 50 _ _ rfl gr _ _ (acD a) rfl rfl _ Tryz.sizeOf50 h9 rfl rfl rfl ?_;intro y9 h99);have h9:=h99;go_wp2_with fail;refine hQB.out _ _ trivial ?_;clear hQB hQX QB;refine' wby [false,false,false,false,true] 32 trivial ?_;refine Z02 (by kernel_rfl) ?_ _;go_wp2_with fail;exact bodyPost_ret (Z05 Tryz.results99 _ rfl Tryz.isAgg50 _ Tryz.sizeOf50 h9.blk rfl) rfl ⟨rfl,h9.drop.drop⟩
theorem Z3x {ι:Type} {Q:ι->Asr} {m:Value} {a:Acc} {p:Int} (h:Hold w0 w (atA g c x*R)) (ha:x.at_=4)
  (hs:∀w' gr,Hold w0 w' (blkA 50 gr (acD acc0)*(atA g c x*R))->Calls Tryz.prog 88 #[ptrV g,m] w' (Z0e w0 (fun i=>blkA 50 gr (acD acc0)*Q i) a p)) :
  Calls Tryz.prog 57 #[ptrV g,m] w (Z0e w0 Q a p):=by
 have H1:=hid (nb h);have HA:=hid ha;have HS:=hid hs;clear h ha hs;go_enter Tryz.func57,Tryz.ntmps57;go_upto_region 1 with fail
 have h1:=H1.out;generalize hW:w.alloc _=W at h1 |-;generalize w.heap.size=gr at h1 |-;clear hW H1;replace h1:Hold w0 W (blkA 50 gr (acD acc0)*(atA g c x*R)):=h1;have p1:=h1.drop.Zly;rw[HA.out] at p1;have HC:=hid (HS.out _ _ h1);clear h1;go_wp2_with fail;refine HC.out.mono ?_;rintro e w1 ⟨i,rfl,h4⟩;clear HC p1;go_wp2_with (refine Z00 rfl 50 _ _ rfl gr _ _ (acD a) rfl rfl _ Tryz.sizeOf50 h4 rfl rfl rfl ?_;intro y h5);exact bodyPost_ret (Z05 Tryz.results57 _ rfl Tryz.isAgg50 _ Tryz.sizeOf50 h5.blk rfl) rfl ⟨i,rfl,h5.drop⟩
theorem Z3c {ι:Type} {Q:ι->Asr} {m:Value} {a:Acc} {p:Int} (h:Hold w0 w (atA g c x*R)) (ha:x.at_=13)
  (hs:∀w' gr,Hold w0 w' (blkA 50 gr (acD acc0)*(atA g c x*R))->Calls Tryz.prog 99 #[ptrV g,m] w' (Z0e w0 (fun i=>blkA 50 gr (acD acc0)*Q i) a p)) :
  Calls Tryz.prog 57 #[ptrV g,m] w (Z0e w0 Q a p):=by
 have H1:=hid (nb h);have HA:=hid ha;have HS:=hid hs;clear h ha hs;go_enter Tryz.func57,Tryz.ntmps57;go_upto_region 1 with fail
 have h1:=H1.out;generalize hW:w.alloc _=W at h1 |-;generalize w.heap.size=gr at h1 |-;clear hW H1;replace h1:Hold w0 W (blkA 50 gr (acD acc0)*(atA g c x*R)):=h1;have p1:=h1.drop.Zly;rw[HA.out] at p1;have HC:=hid (HS.out _ _ h1);clear h1;go_wp2_with fail;refine HC.out.mono ?_;rintro e w1 ⟨i,rfl,h4⟩;clear HC p1;go_wp2_with (refine Z00 rfl 50 _ _ rfl gr _ _ (acD a) rfl rfl _ Tryz.sizeOf50 h4 rfl rfl rfl ?_;intro y h5);exact bodyPost_ret (Z05 Tryz.results57 _ rfl Tryz.isAgg50 _ Tryz.sizeOf50 h5.blk rfl) rfl ⟨i,rfl,h5.drop⟩
end
section
variable {w0 w:World} {R F:Asr} {g m s:Nat} {c:Cfg} {sg:Bool}
theorem Zlg (hc:CfA c) (hs:s<=4000):Stp g m c sg s (.en 1) 3 (fun P=>P = .en 2):=by
 rintro q ⟨⟨K,hp,ho,M⟩,hat,hrv,hfx,hfL⟩;have hr:q.rv=0:=by omega
 have hg:(opA q.C 1 3 0 (valC q.C 3 0) true).got=q.ck:=(Z1z M.has3 1).trans M.ck.1;have hck:=M.ck.2;refine⟨opA q.C 1 3 0 (valC q.C 3 0) true,fun w0 w F h=>?_⟩;refine Z2v h hat (stD (l:=ps g m c q (.en 1)) (F:=F) (Q:=fun P:{P:AP // P = .en 2}=>aS g m c sg (s+1) P.1) fun w' F' h=>?_);refine(Z88 (h.pkS 8 [0,7,1,2,3,4,5,6]) K.ent M.ok ⟨by rw[hr];decide,by rw[hr];decide⟩ ⟨by decide,by decide⟩ rfl rfl (by rw[hg];omega)).mono ?_;rintro e w'' ⟨rfl,h2⟩;exact⟨⟨.en 2,rfl⟩,rfl,Z0c {q with rv:=(opA q.C 1 3 0 (valC q.C 3 0) true).got} ⟨⟨K.up,hp,ho,M⟩,hat,.inr ⟨rfl,hg⟩,hfx,hfL⟩ (h2.pk8 [0,2,3,4,5,6,7,1])⟩
theorem Zlf (hc:CfA c) (hs:s<=4000):Stp g m c sg s (.en 2) 4 (fun P=>P = .idle0):=by
 rintro q ⟨⟨K,hp,ho,M⟩,hat,hrv,hfx,hfL⟩;have hr:q.rv=q.ck:=by omega
 have hck:=M.ck.2;refine⟨opA q.C 2 6 0 (q.rv+2) true,fun w0 w F h=>?_⟩;refine Z2v h hat (stD (l:=ps g m c q (.en 2)) (F:=F) (Q:=fun P:{P:AP // P = .idle0}=>aS g m c sg (s+1) P.1) fun w' F' h=>?_);refine(Z87 (h.pkS 8 [0,7,1,2,3,4,5,6]) K.ent M.ok ⟨by omega,by omega⟩ ⟨by decide,by decide⟩ rfl rfl).mono ?_;rintro e w'' ⟨rfl,h2⟩;exact⟨⟨.idle0,rfl⟩,rfl,Z0c {q with x:={q.x with at_:=0},C:=opC q.C 6 0 (q.rv+2) true} ⟨⟨K.up,hp,ho,M.side (.inr rfl)⟩,rfl,hr,hfx,hfL⟩ (h2.pk8 [0,2,3,4,5,6,7,1])⟩
end
def okF (n:Nat) (P:AP):Prop:=P = .lv\/0<n/\P = .pu (3*n)
section
variable {w0 w:World} {R F:Asr} {g m s:Nat} {c:Cfg} {sg:Bool}
theorem Z58 (q:QD) (k:Nat) (K:CFq c sg s q 1) (hp:q.x.pushed=(k:Int)) (hcd:q.x.code≠1) (M:MI c q.ck q.t q.t q.ck [] q.C)
  (h:Hold w0 w (finA g c q.x q.al*sepR [memA m q.C,lgA q.x.log q.L,queA 3 q.x.allocs (iL q.al),queA 3 q.x.frees (iL q.fr),queA 3 q.x.seen (iL q.sn),stA q.x.set (Z09 c.reads) q.xs,enA q.ge 0 3 q.rv] F)) :
  ∃P:{P:AP // okF (q.al.length - k) P},Hold w0 w (aS g m c sg s P.1*F):=by
 obtain⟨z,hz,h⟩:=h.Zlq
 cases z with
 | none=>exact⟨⟨.lv,.inl rfl⟩,Z0c {q with x:={q.x with at_:=14}} ⟨K,rfl,M⟩ h⟩
 | some gp =>
  have hz:0<=q.x.pushed/\q.x.pushed.toNat<q.al.length:=hz;have hk:q.x.pushed.toNat=k:=by omega
  rw[hk] at h hz;refine⟨⟨.pu (3*(q.al.length - k)),.inr ⟨by omega,rfl⟩⟩,Z0c {q with x:={q.x with at_:=13,push:=ptrV gp},gk:=gp,pk:=k,pj:=0,bf:=q.al.getD k 0,cl:=clsS c (q.al.getD k 0),hd:=0} ⟨K,rfl,hcd,rfl,hp,⟨hz.2,by show 0<=2;omega,rfl⟩,?_,rfl,fun h=>absurd h (by show ¬ 1<=0;omega),M⟩ (h.pk9 [0,2,3,4,5,6,7,8,1])⟩;show q.al[k]?=some (q.al.getD k 0);rw[List.getD_eq_getElem?_getD,List.getElem?_eq_getElem hz.2];rfl
theorem CF.alok {q:QD} {st:Nat} (K:CFq c sg s q st) (hc:CfA c) {A:Option Addr} {cp k:Nat} (ha:q.x.allocs = .slice A q.al.length cp) (hp:q.x.pushed=(k:Int)) (hk:k<=q.al.length):AlOk c q.x q.x.log A q.al.length cp k q.al :=
 ⟨rfl,ha,rfl,hp,hk,by have:=K.al2;omega,hc.s,K.alr⟩
theorem s_lv (hc:CfA c) (hs:s<=900):Stp g m c sg s .lv 24 (fun P=>P = .fin):=by
 rintro q ⟨K,hat,M⟩;refine⟨opA q.C 2 6 0 0 true,fun w0 w F h=>?_⟩;refine(Z86 (th:=0) h hat M.ok rfl rfl K.th0 ⟨by decide,by decide⟩).mono ?_;rintro e w'' ⟨_,rfl,h2⟩;exact⟨⟨.fin,rfl⟩,rfl,Z0c {q with x:={q.x with at_:=0,state:=2},C:=opC q.C 6 0 0 true} ⟨{K.up with st1:=rfl,cod:=⟨K.cod.1,fun _=>K.cod.2 (by decide)⟩},rfl,M.side (.inr rfl)⟩ h2⟩
theorem s_st (hc:CfA c) (hs:s<=900):Stp g m c sg s .st 19 (fun P=>P = .pa):=by
 rintro q ⟨K,hp,hat,htu,hck,hc1,M⟩;have hcr:=M.ck.2;refine⟨opA q.C 2 3 0 (q.ck+1) true,fun w0 w F h=>?_⟩;refine(Z85 (ck:=q.ck) h hat M.ok rfl rfl hck ⟨by omega,by omega⟩).mono ?_;rintro e w'' ⟨_,rfl,h2⟩;exact⟨⟨.pa,rfl⟩,rfl,Z0c {q with x:={q.x with at_:=12},C:=opC q.C 3 0 (q.ck+1) true,ck:=q.ck+1} ⟨K.up,hp,rfl,htu,M.stamp ⟨by show 0<=q.ck+1;omega,by show q.ck+1<=1000;omega⟩⟩ h2⟩
theorem s_pa (hc:CfA c) (hs:s<=900):Stp g m c sg s .pa 20 (fun P=>okF 1 P\/okF 2 P):=by
 rintro q ⟨K,hp,hat,htu,M⟩;have hb:=K.tb;have ha2:=K.al2;refine⟨opA q.C 2 5 0 (q.t+1) true,fun w0 w F h=>?_⟩;have h1:=h.pkS 9 [0,8,1,2,3,4,5,6,7];have M2:MI c q.ck (q.t+1) (q.t+1) q.ck [] (opC q.C 5 0 (q.t+1) true):=M.pass (q.t+1);have K2:CF c sg (s+1) 1 q.x.enter q.x.th q.x.state q.x.allocs q.x.frees q.x.seen q.x.clock q.x.code q.ge q.L q.al q.fr q.sn q.xs (q.t+1):={K.up with tb:=⟨by omega,by have:=hb.2;omega⟩}
 by_cases hcd:q.x.code=1
 ·refine(Z4e (Q:=aS g m c sg (s+1) .lv*F) h1 hat M.ok rfl rfl htu ⟨hb.1,by omega⟩ (fun F' w' h=>?_)).mono ?_
  ·refine(Zjj h hcd).mono ?_
   rintro e w2 ⟨rfl,h⟩;refine⟨rfl,?_⟩;have h:Hold w0 w2 (sepR [atA g c {q.x with at_:=14},memA m (opC q.C 5 0 (q.t+1) true),F',lgA q.x.log q.L,queA 3 q.x.allocs (iL q.al),queA 3 q.x.frees (iL q.fr),queA 3 q.x.seen (iL q.sn),stA q.x.set (Z09 c.reads) q.xs,enA q.ge 0 3 q.rv] F):=h;have h2:=(h.pkS 9 [2,0,1,3,4,5,6,7,8]).imp (Imp.late F' F (ps g m c {q with x:={q.x with at_:=14},C:=opC q.C 5 0 (q.t+1) true,t:=q.t+1} .lv));exact(Z0c (P:=.lv) {q with x:={q.x with at_:=14},C:=opC q.C 5 0 (q.t+1) true,t:=q.t+1} ⟨K2,rfl,M2⟩ h2).imp (Imp.swap _ _ _)
  ·rintro e w2 ⟨rfl,h⟩
   exact⟨⟨.lv,.inl (.inl rfl)⟩,rfl,h⟩
 ·obtain⟨A,cp,ha⟩:=K.als
  refine(Z4e (Q:=finA g c q.x q.al*sepR [memA m (opC q.C 5 0 (q.t+1) true),lgA q.x.log q.L,queA 3 q.x.allocs (iL q.al),queA 3 q.x.frees (iL q.fr),queA 3 q.x.seen (iL q.sn),stA q.x.set (Z09 c.reads) q.xs,enA q.ge 0 3 q.rv] F) h1 hat M.ok rfl rfl htu ⟨hb.1,by omega⟩ (fun F' w' h=>?_)).mono ?_
  ·have h:Hold w0 w' (sepR [atA g c q.x,memA m (opC q.C 5 0 (q.t+1) true),F',lgA q.x.log q.L,queA 3 q.x.allocs (iL q.al),queA 3 q.x.frees (iL q.fr),queA 3 q.x.seen (iL q.sn),stA q.x.set (Z09 c.reads) q.xs,enA q.ge 0 3 q.rv] F):=h
   have h:=h.pkS 9 [0,4,1,2,3,5,6,7,8];have h:Hold w0 w' (sepR [atA g c q.x,queA 3 (.slice A q.al.length cp) (iL q.al),memA m (opC q.C 5 0 (q.t+1) true),F',lgA q.x.log q.L,queA 3 q.x.frees (iL q.fr),queA 3 q.x.seen (iL q.sn),stA q.x.set (Z09 c.reads) q.xs,enA q.ge 0 3 q.rv] F):=by rw[<- ha];exact h
   refine(Zez (k:=0) h ha rfl hp (Nat.zero_le _) (by omega) hcd hc.s K.alr).mono ?_;rintro e w2 ⟨rfl,h⟩;have h:=h.asr;rw[<- ha] at h;exact⟨rfl,Hold.pkS (l:=[finA g c q.x q.al,queA 3 q.x.allocs (iL q.al),memA m (opC q.C 5 0 (q.t+1) true),F',lgA q.x.log q.L,queA 3 q.x.frees (iL q.fr),queA 3 q.x.seen (iL q.sn),stA q.x.set (Z09 c.reads) q.xs,enA q.ge 0 3 q.rv]) h 9 [3,0,2,4,1,5,6,7,8]⟩
  ·rintro e w2 ⟨rfl,h⟩
   obtain⟨⟨P,hP⟩,h⟩:=Z58 (s:=s+1) {q with C:=opC q.C 5 0 (q.t+1) true,t:=q.t+1} 0 K2 hp hcd M2 h;refine⟨⟨P,?_⟩,rfl,h⟩;rcases hP with h3|⟨h1,h2⟩
   ·exact .inl (.inl h3)
   ·have h1:0<q.al.length - 0:=h1
    obtain h3|h3:q.al.length - 0=1\/q.al.length - 0=2:=by omega
    ·exact .inl (.inr ⟨by decide,by rw[h2];show AP.pu (3*(q.al.length - 0))=_;rw[h3]⟩)
    ·exact .inr (.inr ⟨by decide,by rw[h2];show AP.pu (3*(q.al.length - 0))=_;rw[h3]⟩)
def StN (g m:Nat) (c:Cfg) (sg:Bool) (s:Nat) (P:AP) (ok:AP->Prop):Prop:=∀q,ph c sg s q P->∃a p,(p≠2/\p≠3/\p≠16)/\∀w0 w F,Hold w0 w (sepR (ps g m c q P) F)->Calls Tryz.prog 57 #[ptrV g,ptrV m] w (StpX w0 g m c sg s F ok a p)
theorem Stp.n {P:AP} {p:Int} {ok:AP->Prop} (h:Stp g m c sg s P p ok) (hp:p≠2/\p≠3/\p≠16):StN g m c sg s P ok:=fun q hq=>by
 obtain⟨a,h⟩:=h q hq;exact⟨a,p,hp,h⟩
theorem Z41 (a:Acc):Z1q a≠2/\Z1q a≠3/\Z1q a≠16:=by
 unfold Z1q
 split
 ·decide
 ·split <;> decide
theorem Z7g (a:Acc):Z5g a≠2/\Z5g a≠3/\Z5g a≠16:=by
 unfold Z5g
 split
 ·decide
 ·split <;> decide
theorem Zes (c:Cfg) (b:Int):clsS c b=0\/clsS c b=1:=by
 unfold clsS
 split
 ·exact .inl rfl
 ·exact .inr rfl
theorem s_pu (hc:CfA c) (hs:s<=900) (r:Nat):StN g m c sg s (.pu r) (fun P=>P = .lv\/∃r',r'<r/\P = .pu r'):=by
 rintro q ⟨K,hat,hcd,hpu,hpk,⟨hk,hj,hr⟩,hb,hcl,hhd,M⟩;have hbr:=K.alr q.bf (List.mem_of_getElem? hb);have h01:q.cl=0\/q.cl=1:=hcl ▸ Zes c q.bf;have H7:=M.has7 h01;have HH:=M.hd q.cl h01;have ha2:=K.al2;have hn4:=nbl4 hc.s;obtain h0|h0|h0:q.pj=0\/q.pj=1\/q.pj=2:=by omega
 ·refine⟨opA q.C 1 7 q.cl (valC q.C 7 q.cl) true,Z1q (opA q.C 1 7 q.cl (valC q.C 7 q.cl) true),Z41 _,fun w0 w F h=>?_⟩
  refine Z3c h hat (stD (l:=ps g m c q (.pu r)) (F:=F) (Q:=fun P:{P:AP // P = .lv\/∃r',r'<r/\P = .pu r'}=>aS g m c sg (s+1) P.1) fun w' F' h=>?_);have h1:=h.pkS 9 [0,8,1,2,3,4,5,6,7];have h1:Hold w0 w' (sepR [atA g c q.x,puA q.gk q.cl q.bf 0 q.hd,memA m q.C,lgA q.x.log q.L,queA 3 q.x.allocs (iL q.al),queA 3 q.x.frees (iL q.fr),queA 3 q.x.seen (iL q.sn),stA q.x.set (Z09 c.reads) q.xs,enA q.ge 0 3 q.rv] F'):=by rw[show puA q.gk q.cl q.bf 0 q.hd=puA q.gk q.cl q.bf (q.pj:Int) q.hd by rw[h0];rfl];exact h1
  refine(Z3m h1 hpu (fun F w h=>Zbj _ _ _ _ _ _ _ _ _ _ h M.ok (by omega) rfl) (by decide)).mono ?_;rintro e w'' ⟨rfl,h2⟩;exact⟨⟨.pu (r - 1),.inr ⟨r - 1,by omega,rfl⟩⟩,rfl,Z0c {q with pj:=1,hd:=(opA q.C 1 7 q.cl (valC q.C 7 q.cl) true).got} ⟨K.up,hat,hcd,hpu,hpk,⟨hk,by show 1<=2;omega,by show r - 1+1=3*(q.al.length - q.pk);omega⟩,hb,hcl,fun _=>Z1z H7 1,M⟩ (h2.pk9 [0,2,3,4,5,6,7,8,1])⟩
 ·have he:=hhd (by omega)
  rw[<- he] at HH;refine⟨opA q.C 2 8 q.bf (q.hd%65536) true,Z1q (opA q.C 2 8 q.bf (q.hd%65536) true),Z41 _,fun w0 w F h=>?_⟩;refine Z3c h hat (stD (l:=ps g m c q (.pu r)) (F:=F) (Q:=fun P:{P:AP // P = .lv\/∃r',r'<r/\P = .pu r'}=>aS g m c sg (s+1) P.1) fun w' F' h=>?_);have h1:=h.pkS 9 [0,8,1,2,3,4,5,6,7];have h1:Hold w0 w' (sepR [atA g c q.x,puA q.gk q.cl q.bf 1 q.hd,memA m q.C,lgA q.x.log q.L,queA 3 q.x.allocs (iL q.al),queA 3 q.x.frees (iL q.fr),queA 3 q.x.seen (iL q.sn),stA q.x.set (Z09 c.reads) q.xs,enA q.ge 0 3 q.rv] F'):=by rw[show puA q.gk q.cl q.bf 1 q.hd=puA q.gk q.cl q.bf (q.pj:Int) q.hd by rw[h0];rfl];exact h1
  refine(Z3m h1 hpu (fun F w h=>Zbi _ _ _ _ _ _ _ _ _ _ _ h M.ok (by omega) HH.1 rfl rfl) (by decide)).mono ?_;rintro e w'' ⟨rfl,h2⟩;exact⟨⟨.pu (r - 1),.inr ⟨r - 1,by omega,rfl⟩⟩,rfl,Z0c {q with pj:=2,C:=opC q.C 8 q.bf (q.hd%65536) true} ⟨K.up,hat,hcd,hpu,hpk,⟨hk,by show 2<=2;omega,by show r - 1+2=3*(q.al.length - q.pk);omega⟩,hb,hcl,fun _=>by show q.hd=valC (opC q.C 8 q.bf (q.hd%65536) true) 7 q.cl;rw[Z0y (by decide)];exact he,M.link hbr.1 hbr.2 (hcl ▸ HH.2)⟩ (h2.pk9 [0,2,3,4,5,6,7,8,1])⟩
 ·have he:=hhd (by omega)
  rw[<- he] at HH;obtain⟨A,cp,hal⟩:=K.als;have hv:=Zak hc.s HH.1 (l:=q.bf+1) (k:=q.cl) (.inr (by rw[Int.add_sub_cancel];exact⟨hbr,hcl.symm⟩));rw[Int.add_sub_cancel] at hv;have hbe:(valC q.C 7 q.cl==q.hd)=true:=beq_iff_eq.2 he.symm;have M2:MI c q.ck q.t q.t q.ck [] (opC q.C 7 q.cl (Z2a q.hd q.bf) (valC q.C 7 q.cl==q.hd)):=by rw[hbe];exact M.head h01 hv
  refine⟨opA q.C 3 7 q.cl (Z2a q.hd q.bf) (valC q.C 7 q.cl==q.hd),Z1q (opA q.C 3 7 q.cl (Z2a q.hd q.bf) (valC q.C 7 q.cl==q.hd)),Z41 _,fun w0 w F h=>?_⟩;refine Z3c h hat (stD (l:=ps g m c q (.pu r)) (F:=F) (Q:=fun P:{P:AP // P = .lv\/∃r',r'<r/\P = .pu r'}=>aS g m c sg (s+1) P.1) fun w' F' h=>?_);have h1:=h.pkS 9 [0,8,1,3,2,4,5,6,7];have h1:Hold w0 w' (sepR [atA g c q.x,puA q.gk q.cl q.bf 2 q.hd,memA m q.C,queA 3 (.slice A q.al.length cp) (iL q.al),lgA q.x.log q.L,queA 3 q.x.frees (iL q.fr),queA 3 q.x.seen (iL q.sn),stA q.x.set (Z09 c.reads) q.xs,enA q.ge 0 3 q.rv] F'):=by rw[show puA q.gk q.cl q.bf 2 q.hd=puA q.gk q.cl q.bf (q.pj:Int) q.hd by rw[h0];rfl,<- hal];exact h1
  refine(Z6e h1 hpu (fun F w h=>Z54 _ _ _ _ _ _ _ _ _ _ _ h M.ok (by omega) HH.1 (by rw[hbe];exact Z5s H7 3) rfl rfl) rfl (K.alok hc hal hpk (by omega)) hk hcd).mono ?_;rintro e w'' ⟨rfl,h2⟩;rw[<- hal] at h2;obtain⟨⟨P,hP⟩,h3⟩:=Z58 (g:=g) (m:=m) (F:=F') (w0:=w0) (w:=w'') (s:=s+1) {q with x:={q.x with pushed:=(q.pk:Int)+1},C:=opC q.C 7 q.cl (Z2a q.hd q.bf) (valC q.C 7 q.cl==q.hd)} (q.pk+1) K.up (by show (q.pk:Int)+1=((q.pk+1:Nat):Int);omega) hcd M2 (h2.pk9 [0,3,4,1,5,6,7,8]);refine⟨⟨P,?_⟩,rfl,h3⟩;rcases hP with h4|⟨h4,h5⟩
  ·exact .inl h4
  ·exact .inr ⟨3*(q.al.length - (q.pk+1)),by omega,h5⟩
end
section
variable {w0 w:World} {R R':Asr} {g n cp:Nat} {c:Cfg} {x:ThR} {A:Option Addr} {p:Int}
theorem Zfm (h:Hold w0 w (thA g c x*R)) (hc:x.code = .slice A n cp) :
  Calls Tryz.prog 34 #[ptrV g,.int .i64 p] w fun e w'=>e = .returned (.tuple #[])/\Hold w0 w' (thA g c {x with pc:=p,done:=p==(n:Int)}*R):=by
 have q:=h.th_code;rw[hc] at q;have p1:=h.th_pc;have z1:=h.thZ 32;have h1:=h.th_pc_set p;have p2:=h1.th_done;have z2:=h1.thZ 42;have H2:=hid (h1.th_done_set (p==(n:Int)));clear h h1 hc;go_enter Tryz.func34,Tryz.ntmps34;go_wp2_with fail
 go_end0
 exact⟨rfl,H2.out⟩
theorem Z28 (h:Hold w0 w (thA g c x*R)) (hc:x.code = .slice A n cp) (h0:0<=x.pc/\x.pc<=1000000) :
  Calls Tryz.prog 56 #[ptrV g] w fun e w'=>e = .returned (.tuple #[])/\Hold w0 w' (thA g c {x with pc:=x.pc+1,done:=x.pc+1==(n:Int)}*R):=by
 have q:=h.th_pc;obtain⟨k,hk⟩:∃k,k=x.pc:=⟨_,rfl⟩;rw[<- hk] at h0 q |-;have H:=hid (Zfm (p:=k+1) h hc);clear h hc hk;go_enter Tryz.func56,Tryz.ntmps56;go_wp2_with fail;refine H.out.mono ?_;rintro e w' ⟨rfl,h1⟩;have H1:=hid h1;clear H h1;go_wp2_with fail
 go_end0
 exact⟨rfl,H1.out⟩
end
end Go.Proofs.YtmlfangeanmmeaaGreatDoor
