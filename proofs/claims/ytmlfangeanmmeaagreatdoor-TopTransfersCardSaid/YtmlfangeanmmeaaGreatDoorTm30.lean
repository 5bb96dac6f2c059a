/-
  What the proof of TopTransfers leans on, part 30 of 48: At15, At16, Th, Th2, Th3, Th4, Td, Te, Te2. No statement of its own.
-/
import Derived.Test.YtmlfangeanmmeaaGreatDoorTm2
import Derived.Test.YtmlfangeanmmeaaGreatDoorTm15
import Derived.Test.YtmlfangeanmmeaaGreatDoorTm29
namespace Go.Proofs.YtmlfangeanmmeaaGreatDoor
set_option maxRecDepth 8000
open Go.RowKit
set_option linter.unusedVariables false
section
variable {w0 w:World} {R R':Asr} {g m gt:Nat} {c:Cfg} {x:AtR} {C C2:Nat→List Int} {a:Acc} {th ck tk:Int}
set_option maxHeartbeats 8000000 in
theorem Z8n (h:Hold w0 w (atA g c x*(memA m C*R))) (hat:x.at_=11) (hC:COk C) (ha:opA C 2 3 0 (ck + 1) true=a) (hC2:opC C 3 0 (ck + 1) true=C2) (hck:x.clock=ck) (h0:0≤ck∧ck < 1099511627776) :
    Calls Tryz.prog 57 #[ptrV g,ptrV m] w (APostX (ι:=Unit) w0 (fun _=>atA g c { x with at_:=12 }*(memA m C2*R)) a 19):=by
  have HS0:=hid (And.intro hC (And.intro ha (And.intro hC2 hat)))
  have HX:=hid hck
  clear hck
  clear hC ha hC2 hat
  have H1:=hid (nb h)
  clear h
  go_enter Tryz.func57,Tryz.ntmps57
  go_upto_region 1 with fail
  have h1:=H1.out
  generalize hW:w.alloc _=W at h1 ⊢
  generalize w.heap.size=gr at h1 ⊢
  clear hW H1
  have h2:Hold w0 W (atA g c x*(memA m C*(blkA 50 gr (acD acc0)*R))):=h1.pk3 [1,2,0]
  clear h1
  have p1:=h2.Zmg
  rw [HS0.out.2.2.2] at p1
  have q:=h2.at_clock
  rw [HX.out] at q
  have HS:=hid (Z13 w0 W _ m C 3 0 (ck + 1) h2.swap (by omega) HS0.out.1.len)
  have hw:(ck + 1) % 18446744073709551616=ck + 1:=Int.emod_eq_of_lt (by omega) (by omega)
  clear h2
  go_wp2_with fail
  refine HS.out.mono ?_
  rintro e w3 ⟨rfl,h3⟩
  rw [HS0.out.2.2.1] at h3
  rw [HS0.out.2.1]
  generalize opE C 3 0=er
  clear HS
  have H7:=hid (nb h3)
  clear h3
  go_upto_region 25 with (refine Z03 rfl 50 _ _ rfl w3.heap.size _ _ (acD a) rfl rfl _ Tryz.sizeOf50 H7.out rfl rfl rfl ?_;intro y2 h4)
  clear H7
  generalize w3.heap.size=gc at h4 ⊢
  have h5:Hold w0 y2 (atA g c x*(memA m C2*(blkA 50 gr (acD acc0)*(blkA 50 gc (acD a)*R)))):=h4.pk4 [2,1,3,0]
  have p2:=h5.Zmg
  have z2:=h5.atZ 31
  have H6:=hid ((h5.Zmf 12).pk4 [2,3,0,1])
  clear h4 h5 q p1
  go_upto_region 26 with fail
  have h10:=H6.out
  generalize hW:World.setCell _ _ _=W9 at h10 ⊢
  clear hW H6 p2 z2
  go_wp2_with (first | (refine Z04 rfl 50 _ rfl gc _ _ rfl Tryz.isAgg50 _ Tryz.sizeOf50 h10.drop.blk rfl ?_) | (refine Z03 rfl 50 _ _ rfl gr _ _ (acD a) rfl rfl _ Tryz.sizeOf50 h10 rfl rfl rfl ?_;intro y9 h99))
  have HF:Hid (APostX w0 (fun _=>atA g c { x with at_:=12 }*(memA m C2*R)) a 19 (.returned (.tuple #[a.val,.int .i64 19])) y9):=hid ⟨(),rfl,h99.drop.drop⟩
  exact bodyPost_ret (Z06 Tryz.results57 _ rfl Tryz.isAgg50 _ Tryz.sizeOf50 h99.blk rfl) rfl HF.out
set_option maxHeartbeats 8000000 in
theorem Za2 (h:Hold w0 w (atA g c x*(tuA gt true tk true*(memA m C*R)))) (hat:x.at_=12) (hC:COk C) (ha:opA C 2 5 0 (tk + 1) true=a) (hC2:opC C 5 0 (tk + 1) true=C2) (hx:x.turn=ptrV gt) (h0:0≤tk∧tk≤9223372036854775806) (hal:x.allocs = .slice none 0 0) (hpu:x.pushed=0) :
    Calls Tryz.prog 57 #[ptrV g,ptrV m] w (APostX (ι:=Unit) w0 (fun _=>atA g c { x with at_:=14 }*(tuA gt true tk true*(memA m C2*R))) a 20):=by
  have HS0:=hid (And.intro hC (And.intro ha (And.intro hC2 hat)))
  have HX:=hid (And.intro hx (And.intro hal hpu))
  clear hx hal hpu
  clear hC ha hC2 hat
  have H1:=hid (nb h)
  clear h
  go_enter Tryz.func57,Tryz.ntmps57
  go_upto_region 1 with fail
  have h1:=H1.out
  generalize hW:w.alloc _=W at h1 ⊢
  generalize w.heap.size=gr at h1 ⊢
  clear hW H1
  have h2:Hold w0 W (atA g c x*(memA m C*(tuA gt true tk true*(blkA 50 gr (acD acc0)*R)))):=h1.pk4 [1,3,2,0]
  clear h1
  have p1:=h2.Zmg
  rw [HS0.out.2.2.2] at p1
  have q:=h2.at_turn
  rw [HX.out.1] at q
  have HT:=hid (Zaa w0 W _ gt tk true (h2.pk3 [2,0,1]) h0.1 (by omega))
  have HS:=hid (Zdv w0 W _ m C tk h2.swap HS0.out.1 h0.1 h0.2)
  clear h2
  go_wp2_with fail
  refine HT.out.mono ?_
  rintro e w' ⟨rfl,rfl⟩
  clear HT
  go_wp2_with fail
  refine HS.out.mono ?_
  rintro e w3 ⟨rfl,h3⟩
  rw [HS0.out.2.2.1] at h3
  rw [HS0.out.2.1]
  clear HS
  have H7:=hid (nb h3)
  clear h3
  go_upto_region 29 with (refine Z03 rfl 50 _ _ rfl w3.heap.size _ _ (acD a) rfl rfl _ Tryz.sizeOf50 H7.out rfl rfl rfl ?_;intro y2 h4)
  clear H7
  generalize w3.heap.size=gc at h4 ⊢
  have h5:Hold w0 y2 (atA g c x*(tuA gt true tk true*(memA m C2*(blkA 50 gr (acD acc0)*(blkA 50 gc (acD a)*R))))):=h4.pk5 [2,3,1,4,0]
  have HF:=hid (Za3 h5 HX.out.2.1 HX.out.2.2)
  clear h4 h5 q p1
  go_wp2_with fail
  refine HF.out.mono ?_
  rintro e w9 ⟨rfl,h9⟩
  have h10:Hold w0 w9 (blkA 50 gr (acD acc0)*(blkA 50 gc (acD a)*(atA g c { x with at_:=14 }*(tuA gt true tk true*(memA m C2*R))))):=h9.pk5 [3,4,0,1,2]
  clear HF h9
  go_wp2_with (first | (refine Z04 rfl 50 _ rfl gc _ _ rfl Tryz.isAgg50 _ Tryz.sizeOf50 h10.drop.blk rfl ?_) | (refine Z03 rfl 50 _ _ rfl gr _ _ (acD a) rfl rfl _ Tryz.sizeOf50 h10 rfl rfl rfl ?_;intro y9 h99))
  have HF:Hid (APostX w0 (fun _=>atA g c { x with at_:=14 }*(tuA gt true tk true*(memA m C2*R))) a 20 (.returned (.tuple #[a.val,.int .i64 20])) y9):=hid ⟨(),rfl,h99.drop.drop⟩
  exact bodyPost_ret (Z06 Tryz.results57 _ rfl Tryz.isAgg50 _ Tryz.sizeOf50 h99.blk rfl) rfl HF.out
set_option maxHeartbeats 8000000 in
theorem Z8o (h:Hold w0 w (atA g c x*(memA m C*R))) (hat:x.at_=14) (hC:COk C) (ha:opA C 2 6 th 0 true=a) (hC2:opC C 6 th 0 true=C2) (hth:x.th=th) (h0:0≤th∧th≤100) :
    Calls Tryz.prog 57 #[ptrV g,ptrV m] w (APostX (ι:=Unit) w0 (fun _=>atA g c { x with at_:=0,state:=2 }*(memA m C2*R)) a 24):=by
  have HS0:=hid (And.intro hC (And.intro ha (And.intro hC2 hat)))
  have HX:=hid hth
  clear hth
  clear hC ha hC2 hat
  have H1:=hid (nb h)
  clear h
  go_enter Tryz.func57,Tryz.ntmps57
  go_upto_region 1 with fail
  have h1:=H1.out
  generalize hW:w.alloc _=W at h1 ⊢
  generalize w.heap.size=gr at h1 ⊢
  clear hW H1
  have h2:Hold w0 W (atA g c x*(memA m C*(blkA 50 gr (acD acc0)*R))):=h1.pk3 [1,2,0]
  clear h1
  have p1:=h2.Zmg
  rw [HS0.out.2.2.2] at p1
  have q:=h2.at_th
  rw [HX.out] at q
  have HS:=hid (Zhk w0 W _ m C th h2.swap HS0.out.1 ⟨by omega,by omega⟩)
  clear h2
  go_wp2_with fail
  refine HS.out.mono ?_
  rintro e w3 ⟨rfl,h3⟩
  rw [HS0.out.2.2.1] at h3
  rw [HS0.out.2.1]
  clear HS
  have H7:=hid (nb h3)
  clear h3
  go_upto_region 35 with (refine Z03 rfl 50 _ _ rfl w3.heap.size _ _ (acD a) rfl rfl _ Tryz.sizeOf50 H7.out rfl rfl rfl ?_;intro y2 h4)
  clear H7
  generalize w3.heap.size=gc at h4 ⊢
  have h5:Hold w0 y2 (atA g c x*(memA m C2*(blkA 50 gr (acD acc0)*(blkA 50 gc (acD a)*R)))):=h4.pk4 [2,1,3,0]
  have p2:=h5.Zmg
  have z2:=h5.atZ 31
  have h6:=h5.Zmf 0
  have p3:=h6.at_state
  have z3:=h6.atZ 29
  have H6:=hid ((h6.at_state_set 2).pk4 [2,3,0,1])
  clear h6
  clear h4 h5 q p1
  go_upto_region 36 with fail
  have h10:=H6.out
  generalize hW:World.setCell _ _ _=W9 at h10 ⊢
  clear hW H6 p2 z2 p3 z3
  go_wp2_with (first | (refine Z04 rfl 50 _ rfl gc _ _ rfl Tryz.isAgg50 _ Tryz.sizeOf50 h10.drop.blk rfl ?_) | (refine Z03 rfl 50 _ _ rfl gr _ _ (acD a) rfl rfl _ Tryz.sizeOf50 h10 rfl rfl rfl ?_;intro y9 h99))
  have HF:Hid (APostX w0 (fun _=>atA g c { x with at_:=0,state:=2 }*(memA m C2*R)) a 24 (.returned (.tuple #[a.val,.int .i64 24])) y9):=hid ⟨(),rfl,h99.drop.drop⟩
  exact bodyPost_ret (Z06 Tryz.results57 _ rfl Tryz.isAgg50 _ Tryz.sizeOf50 h99.blk rfl) rfl HF.out
end
section
variable {w0 w:World} {R R':Asr} {g gl:Nat} {c:Cfg} {x:AtR} {L:PL} {sn:List Int} {n cp:Nat} {A1:Option Addr}
set_option maxHeartbeats 4000000 in
theorem at_words (h:Hold w0 w (atA g c x*(lgA gl L*(queA 3 (.slice A1 n cp) (iL sn)*R)))) (hxl:x.log=gl) (hs:x.seen = .slice A1 n cp) (hadr:∀ z ∈ L.addrs,0≤z∧z < c.words) (hcw:c.words≤64) (H:Inv L) (hn:n≤1000) :
    Calls Tryz.prog 59 #[ptrV g] w fun e w'=>∃ A2 c2 A3 c3,e = .returned (.tuple #[.slice A2 n c2,.slice A3 L.addrs.length c3])∧Hold w0 w' (queA 3 (.slice A2 n c2) (iL sn)*(queA 3 (.slice A3 L.addrs.length c3) (iL L.addrs)*(atA g c x*(lgA gl L*(queA 3 (.slice A1 n cp) (iL sn)*R))))):=by
  have hl32:L.addrs.length≤32:=by have:=H.le;have:=H.cap32;omega
  obtain ⟨iI,hiI,iz0,iz1,iz2⟩:=info_parts Z2f
  have HX:=hid (And.intro hxl (And.intro hs hadr))
  have HI:=hid H
  have ql:=h.at_log
  rw [hxl] at ql
  have HA:=hid (Z8a h.swap H)
  clear hxl hs hadr H h
  obtain ⟨k9,hk9⟩:∃ k9,k9=L.addrs.length:=⟨_,rfl⟩
  rw [← hk9] at HA hl32 ⊢
  have HN:=hid hk9
  clear hk9
  go_enter Tryz.func59,Tryz.ntmps59
  go_wp2_with fail
  refine HA.out.mono ?_
  rintro e w1 ⟨A0,c0,rfl,h2⟩
  have h3:=h2.nilQue 3
  clear HA ql h2
  go_wp2_with fail
  go_loopw [3,13] (fun v4 i wr=>∃ (k:Nat) (A2:Option Addr) (c2:Nat),k≤k9∧i = .int .i64 (k:Int)∧v4 = .slice A2 k c2∧Hold w0 wr (queA 3 v4 (iL (L.addrs.take k))*(queA 3 (.slice A0 k9 c0) (L.addrs.map (Value.int .i64))*(lgA gl L*(atA g c x*(queA 3 (.slice A1 n cp) (iL sn)*R)))))) (fun _ i _=>k9 - (intOf i).toNat)
  case atStart=>exact ⟨0,none,0,Nat.zero_le _,rfl,rfl,h3⟩
  case round =>
    clear h3
    obtain ⟨k,A2,c2,hk,rfl,rfl,h⟩:=hrel
    by_cases hlt:k < k9
    · have e1:decide ((k:Int) < (k9:Int))=true:=decide_eq_true (by omega)
      have e1':decide (k < k9)=true:=decide_eq_true hlt
      have hkl:k < L.addrs.length:=by rw [← HN.out];exact hlt
      obtain ⟨z,hz⟩:∃ z,z=L.addrs[k]:=⟨_,rfl⟩
      have hzk:L.addrs[k]?=some z:=by rw [hz];exact List.getElem?_eq_getElem hkl
      have hzb:=HX.out.2.2 z (List.mem_of_getElem? hzk)
      obtain ⟨fp,hp⟩:=h.drop.get
      obtain ⟨-,-,-,bA,hr,-⟩:=queReads hp
      obtain ⟨ad,hA,-,-⟩:=hr.cellAt hlt
      subst hA
      have d0:=h.drop.queAt (k:=k) (u:=.int .i64 z) (by rw [List.getElem?_map,hzk];rfl)
      have k0:(0:Int)≤(k:Int):=by omega
      have k1:(k:Int) < (k9:Int):=by omega
      have hok:L.addrs.take (k + 1)=L.addrs.take k++[z]:=by
        obtain ⟨h10,h11⟩:=List.getElem?_eq_some_iff.1 hzk
        rw [← h11]
        exact (List.take_append_getElem h10).symm
      have hlen:(iL (L.addrs.take k)).length=k:=by simp;omega
      have HOK:=hid hok
      generalize hxs:iL (L.addrs.take k)=xs0 at h hlen
      have HXS:=hid hxs
      have HLN:=hid hlen
      have e2:decide (z < c.words)=true:=decide_eq_true hzb.2
      have qw:=(h.pk4 [3,0,1,2]).at_words
      clear hp hr hz hzk hok hlen hxs hzb
      go_wp2_with (at_builtin;refine Z16 rfl _ _ 23 rfl iI (.int .i64 0) 8 Tryz.underlying23 hiI iz0 iz1 iz2 rfl (.int .i64 z) _ rfl h rfl rfl (by rw [HLN.out];omega) (by decide) ?_)
      intro v9 y4 h5
      obtain ⟨A9,c9,hv9⟩:=h5.Zmc
      rw [List.length_append,HLN.out,show k + [Value.int .i64 z].length=k + 1 from rfl] at hv9
      subst hv9
      have H5:=hid h5
      clear h h5 qw e2 d0
      go_wp2_with fail
      go_roundw
      case rel =>
        refine ⟨k + 1,A9,c9,by omega,by go_num,rfl,?_⟩
        rw [HOK.out,iL,List.map_append]
        have h9:=H5.out
        rw [← HXS.out] at h9
        exact h9
      case measure=>simp [intOf];omega
    · obtain rfl:k=k9:=by omega
      have e1:decide ((k:Int) < (k:Int))=false:=decide_eq_false (by omega)
      rw [List.take_of_length_le (by rw [HN.out];exact Nat.le_refl _)] at h
      have h4:Hold w0 wr (queA 3 (.slice A1 n cp) (iL sn)*(queA 3 (.slice A2 k c2) (iL L.addrs)*(atA g c x*(lgA gl L*R)))):=h.pk5 [4,0,3,2]
      obtain ⟨fp,hp⟩:=h4.get
      obtain ⟨-,-,-,bA,hr,-⟩:=queReads hp
      have qs:=(h4.pk3 [2,0,1]).at_seen
      rw [HX.out.2.1] at qs
      have HC:=hid (Z19 wr A1 n cp bA sn hr (by omega))
      have H4:=hid h4
      clear h h4 hp hr
      go_wp2_with fail
      refine HC.out.mono ?_
      rintro e w5 ⟨A5,c5,rfl,hown,hc⟩
      have H6:=hid (H4.out.new (p:=queA 3 (.slice A5 n c5) (iL sn)) hc (Z9d hown) (fun b hb=>Z9c hown b hb))
      clear HC H4 hown hc qs
      go_wp2_with fail
      go_ret2
      exact ⟨A5,c5,A2,c2,rfl,H6.out.pk5 [0,2,3,4,1]⟩
end
section
variable {w0 w:World} {R R':Asr} {g n cp:Nat} {c:Cfg} {x:ThR} {A:Option Addr} {p:Int}
theorem Z7p (h:Hold w0 w (thA g c x*R)) (hc:x.code = .slice A n cp) :
    Calls Tryz.prog 34 #[ptrV g,.int .i64 p] w fun e w'=>e = .returned (.tuple #[])∧Hold w0 w' (thA g c { x with pc:=p,done:=p == (n:Int) }*R):=by
  have q:=h.th_code
  rw [hc] at q
  have p1:=h.th_pc
  have z1:=h.thZ 32
  have h1:=h.th_pc_set p
  have p2:=h1.th_done
  have z2:=h1.thZ 42
  have H2:=hid (h1.th_done_set (p == (n:Int)))
  clear h h1 hc
  go_enter Tryz.func34,Tryz.ntmps34
  go_wp2_with fail
  go_end0
  exact ⟨rfl,H2.out⟩
theorem Zdy (h:Hold w0 w (thA g c x*R)) (hc:x.code = .slice A n cp) (h0:0≤x.pc∧x.pc≤1000000) :
    Calls Tryz.prog 56 #[ptrV g] w fun e w'=>e = .returned (.tuple #[])∧Hold w0 w' (thA g c { x with pc:=x.pc + 1,done:=x.pc + 1 == (n:Int) }*R):=by
  have q:=h.th_pc
  obtain ⟨k,hk⟩:∃ k,k=x.pc:=⟨_,rfl⟩
  rw [← hk] at h0 q ⊢
  have H:=hid (Z7p (p:=k + 1) h hc)
  clear h hc hk
  go_enter Tryz.func56,Tryz.ntmps56
  go_wp2_with fail
  refine H.out.mono ?_
  rintro e w' ⟨rfl,h1⟩
  have H1:=hid h1
  clear H h1
  go_wp2_with fail
  go_end0
  exact ⟨rfl,H1.out⟩
theorem Z7c {r:Nat} {i:Int} (h:Hold w0 w (thA g c x*R)) (hr:r < 8) (h0:0≤i∧i≤1000000) (h1:x.regs r=0) :
    Calls Tryz.prog 116 #[ptrV g,.int .i64 (r:Int),.int .i64 i] w fun e w'=>e = .returned (.int .u64 i)∧w=w':=by
  have q:=h.th_regs hr
  rw [h1] at q
  have k0:(0:Int)≤(r:Int):=by omega
  have k1:(r:Int) < 8:=by omega
  have e1:i % 18446744073709551616=i:=Int.emod_eq_of_lt (by omega) (by omega)
  clear h h1
  go_enter Tryz.func116,Tryz.ntmps116
  go_wp2_with fail
  go_ret
  exact ⟨by simp,rfl⟩
end
section
variable {w0 w:World} {R R':Asr} {t n cp:Nat} {c:Cfg} {x:ThR} {A:Option Addr} {p:Int}
set_option maxHeartbeats 4000000 in
theorem Zg6 (h:Hold w0 w (thA t c x*R)) (h0:0≤x.count∧x.count≤1000000) :
    Calls Tryz.prog 66 #[ptrV t] w fun e w'=>∃ g gs gl ge,e = .returned (.tuple #[])∧Hold w0 w' (thA t c { x with attempt:=ptrV g,seen:=.slice none 0 0,count:=x.count + 1 }*(atA g c { Z5y gs gl x.id with state:=1,at_:=2,enter:=ptrV ge }*(enA ge x.id 0 0*(stA gs (Z08 c.reads) []*(lgA gl (newL c.writes)*R))))):=by
  obtain ⟨k,hk⟩:∃ k,k=x.count:=⟨_,rfl⟩
  obtain ⟨d,hd⟩:∃ d,d=x.id:=⟨_,rfl⟩
  rw [← hk] at h0 ⊢
  have HX:=hid (And.intro hk hd)
  clear hk hd
  replace h:=h.drew
  go_enter Tryz.func66,Tryz.ntmps66
  go_upto_region 0 with fail
  refine Z01 [] (by kernel_rfl) ?_
  generalize hW:w.drew=W at h ⊢
  clear hW
  refine Z05 (fun w'=>w'.cell? ⟨t,29,none⟩=some (.int .i64 d)) (fun _ _=>trivial) _ _ _ _ ?_
  have hid0:W.cell? ⟨t,29,none⟩=some (.int .i64 d):=by rw [HX.out.2];exact h.th_id
  refine' wbk [true,true,true,true,true,false,true,true,true,true] 32 hid0 (fun wq hq=>?_) ?_;rotate_left
  · simp only [Z00]
    repeat (go_big_quiet_step (fail))
    exact wpQuiet_nil rfl
  refine wbr [false,false,false,false,false,true] (fuel:=9) (fun QB hQB hQX=>?_)
  simp only [Z00]
  go_wp2_with (refine Z0s rfl 32 _ rfl t 16 116 46 _ c.cells rfl Tryz.isAgg32 13 Tryz.sizeOf32 h rfl (by decide) ?_)
  go_wp2_with fail
  refine hQB.out _ _ hid0 ?_
  clear hQB hQX QB
  refine wbr [false,false,false,false,false,false,false,false,false,false,true] (fuel:=8) (fun QB hQB hQX=>?_)
  simp only [Z00]
  go_wp2_with fail
  refine (Zlu w0 W _ c d h).mono ?_
  rintro e w1 ⟨g,gs,gl,rfl,h1'⟩
  have h1:Hold w0 w1 (thA t c x*(atA g c (Z5y gs gl d)*(stA gs (Z08 c.reads) []*(lgA gl (newL c.writes)*R)))):=h1'.pk4 [3,0,1,2]
  have hs1:w1.cell? ⟨t,29,none⟩=some (.int .i64 d):=by rw [HX.out.2];exact h1.th_id
  clear h h1' hid0
  go_wp2_with fail
  refine hQB.out _ _ hs1 ?_
  clear hQB hQX QB
  refine' wbk [false,false,false,false,false,false,false,false,false,false,false,true,true,true] 32 hs1 (fun wq hq=>?_) ?_;rotate_left
  · simp only [Z00]
    repeat (go_big_quiet_step (fail))
    exact wpQuiet_nil rfl
  refine wbr [false,false,false,false,false,false,false,false,false,false,false,false,false,false,true] (fuel:=4) (fun QB hQB hQX=>?_)
  simp only [Z00]
  have p1:=h1.Zme
  have z1:=h1.thZ 0
  have H2:=hid (h1.th_attempt_set (ptrV g))
  have hs2:Hid ((w1.setCell ⟨t,0,none⟩ (ptrV g)).cell? ⟨t,29,none⟩=some (.int .i64 d)):=hid (by rw [HX.out.2];exact H2.out.th_id)
  clear h1
  go_wp2_with fail
  refine hQB.out _ _ hs2.out ?_
  clear hQB hQX QB p1 z1 hs1
  have h2:=H2.out
  have hs1:=hs2.out
  generalize hW:World.setCell _ _ _=W2 at h2 hs1 ⊢
  clear hW H2 hs2
  refine' wbk [false,false,false,false,false,false,false,false,false,false,false,false,false,false,false,true,true,true] 32 hs1 (fun wq hq=>?_) ?_;rotate_left
  · simp only [Z00]
    repeat (go_big_quiet_step (fail))
    exact wpQuiet_nil rfl
  refine wbr [false,false,false,false,false,false,false,false,false,false,false,false,false,false,false,false,false,false,true] (fuel:=0) (fun QB hQB hQX=>?_)
  simp only [Z00]
  have p1:=h2.th_seen
  have z1:=h2.thZ 11
  have H3:=hid (h2.th_seen_set (.slice none 0 0))
  have hs2:Hid ((W2.setCell ⟨t,11,none⟩ (.slice none 0 0)).cell? ⟨t,29,none⟩=some (.int .i64 d)):=hid (by rw [HX.out.2];exact H3.out.th_id)
  clear h2
  go_wp2_with fail
  refine hQB.out _ _ hs2.out ?_
  clear hQB hQX QB p1 z1 hs1 hs2
  refine Z02 (by kernel_rfl) ?_ _
  have h3:=H3.out
  generalize hW:World.setCell _ _ _=W3 at h3 ⊢
  clear hW H3
  have p1:=h3.th_count
  rw [show ({ x with attempt:=ptrV g,seen:=.slice none 0 0 }:ThR).count=x.count from rfl,← HX.out.1] at p1
  have z1:=h3.thZ 45
  have H4:=hid (h3.th_count_set (k + 1))
  clear h3
  go_upto_region 2 with fail
  have h4:=H4.out
  generalize hW:World.setCell _ _ _=W4 at h4 ⊢
  clear hW H4 p1 z1
  have q:=h4.Zme
  have HB:=hid (Zhu h4.swap rfl rfl)
  clear h4
  go_wp2_with fail
  refine HB.out.mono ?_
  rintro e w5 ⟨ge,rfl,h5⟩
  have H5:Hid (Hold w0 w5 (thA t c { x with attempt:=ptrV g,seen:=.slice none 0 0,count:=k + 1 }*(atA g c { Z5y gs gl d with state:=1,at_:=2,enter:=ptrV ge }*(enA ge d 0 0*(stA gs (Z08 c.reads) []*(lgA gl (newL c.writes)*R)))))):=hid (h5.pk3 [2,0,1])
  clear HB h5 q
  rw [HX.out.2] at H5
  go_wp2_with fail
  go_end0
  exact ⟨g,gs,gl,ge,rfl,H5.out⟩
end
theorem Z6d:(Tryz.prog.info? 55).map (fun i=>(i.zero,i.size,i.bytes))=some (some (.agg #[.int .i64 0,.int .i64 0,.int .u64 0]),3,24):=by kernel_rfl
section
variable {w0 w:World} {R R':Asr} {t g n cp:Nat} {c:Cfg} {x:ThR} {y:AtR} {A:Option Addr} {p kd v:Int} {us:List Value}
set_option maxHeartbeats 4000000 in
theorem Zkp {r:Nat} (h:Hold w0 w (thA t c x*(atA g c y*(rowS 55 3 x.seen n us*R)))) (ha:x.attempt=ptrV g) (hr:r < 8) (hn:n≤1000) :
    Calls Tryz.prog 105 #[ptrV t,.int .i64 (r:Int),.int .i64 kd] w fun e w'=>∃ A' c',e = .returned (.tuple #[])∧Hold w0 w' (thA t c { x with regs:=upR x.regs r y.value,seen:=.slice A' (n + 1) c' }*(atA g c y*(rowS 55 3 (.slice A' (n + 1) c') (n + 1) (us++[.int .i64 x.pc,.int .i64 kd,.int .u64 y.value])*R))):=by
  obtain ⟨iO,hiO,zo0,zo1,zo2⟩:∃ i,Tryz.prog.info? 55=some i∧i.zero=some (.agg #[.int .i64 0,.int .i64 0,.int .u64 0])∧i.size=3∧i.bytes=24:=by
    have hi:=Z6d
    revert hi
    cases Tryz.prog.info? 55 with
    | none=>intro hi;cases hi
    | some i =>
      intro hi
      simp only [Option.map_some,Option.some.injEq,Prod.mk.injEq] at hi
      exact ⟨i,rfl,hi.1,hi.2.1,hi.2.2⟩
  have q:=h.Zme
  rw [ha] at q
  have HV:=hid (Zdo h.swap)
  obtain ⟨v,hv⟩:∃ v,v=y.value:=⟨_,rfl⟩
  rw [← hv] at HV ⊢
  have p1:=h.th_regs hr
  have z1:=h.thZ (33 + r)
  have H1:=hid (h.th_regs_set hr v)
  have k0:(0:Int)≤(r:Int):=by omega
  have k1:(r:Int) < 8:=by omega
  clear h ha hv
  go_enter Tryz.func105,Tryz.ntmps105
  go_wp2_with fail
  refine HV.out.mono ?_
  rintro e w' ⟨rfl,rfl⟩
  go_upto_region 2 with fail
  have h1:=H1.out
  generalize hW:World.setCell _ _ _=W at h1 ⊢
  clear hW H1 HV p1 z1 q
  replace h1:=h1.drew
  refine Z01 [19] (by kernel_rfl) ?_
  generalize hW:W.drew=W1 at h1 ⊢
  clear hW
  have hsq:∀ {w':World} {R':Asr},Hold w0 w' (thA t c { x with regs:=upR x.regs r v }*R')→w'.cell? ⟨t,11,none⟩=some x.seen∧w'.cell? ⟨t,32,none⟩=some (.int .i64 x.pc):=fun h=>⟨h.th_seen,h.th_pc⟩
  refine Z05 (fun w'=>w'.cell? ⟨t,11,none⟩=some x.seen∧w'.cell? ⟨t,32,none⟩=some (.int .i64 x.pc)) (fun _ _=>trivial) _ _ _ _ ?_
  refine' wbk [true,true,true,true,true,true,true,true,true,true,true,true,true,true] 39 (hsq h1) (fun wq hq=>?_) ?_;rotate_left
  · simp only [Z00]
    obtain ⟨q1,q2⟩:=hq
    repeat (go_big_quiet_step (fail))
    exact wpQuiet_nil rfl
  refine wbr [false,false,false,false,false,false,false,false,false,false,false,false,false,false,true] (fuel:=5) (fun QB hQB hQX=>?_)
  simp only [Z00]
  go_wp2_with fail
  refine hQB.out _ _ (hsq (h1.alloc _)) ?_
  clear hQB hQX QB
  refine wbr [false,false,false,false,false,false,false,false,false,false,false,false,false,false,false,true] (fuel:=4) (fun QB hQB hQX=>?_)
  simp only [Z00]
  go_wp2_with (at_builtin;refine Z1o rfl _ _ 53 rfl 55 iO (.agg #[.int .i64 0,.int .i64 0,.int .u64 0]) 3 24 Tryz.underlying53 hiO zo0 zo1 zo2 rfl (by decide) x.seen n us [.int .i64 x.pc,.int .i64 kd,.int .u64 v] _ rfl (h1.pk3 [2,0,1]) _ rfl rfl rfl rfl (by omega) (by decide) ?_)
  intro A2 c2 y4 h5
  have h2:=h5.pk3 [1,2,0]
  clear h5 h1
  go_wp2_with fail
  refine hQB.out _ _ (hsq h2) ?_
  clear hQB hQX QB
  refine' wbt [false,false,false,false,false,false,false,false,false,false,false,false,false,false,false,false,true,true,true] 39 (hsq h2) (fun wq _=>?_) ?_;rotate_left
  · simp only [Z00]
    repeat (go_big_quiet_step (fail))
    exact wpQuiet_nil rfl
  refine wbb [false,false,false,false,false,false,false,false,false,false,false,false,false,false,false,false,false,false,false,true] (fuel:=0) (fun QB hQB hQX=>?_)
  simp only [Z00]
  have p1:=h2.th_seen
  have z1:=h2.thZ 11
  have H3:=hid (h2.th_seen_set (.slice A2 (n + 1) c2))
  clear h2
  go_wp2_with fail
  refine hQB.out _ _ ?_
  clear hQB hQX QB p1 z1
  refine Z07 (by kernel_rfl) ?_
  refine Z02 (by kernel_rfl) ?_ _
  go_wp2_with fail
  go_end0
  exact ⟨A2,c2,rfl,H3.out⟩
end
section
variable {w0 w:World} {R R':Asr} {t g n cp nc:Nat} {c:Cfg} {x:ThR} {y:AtR} {A:Option Addr} {p kd v:Int} {us:List Value} {i:InsR}
set_option maxHeartbeats 4000000 in
theorem Zai (h:Hold w0 w (thA t c x*(atA g c y*R))) (ha:x.attempt=ptrV g) (hs:y.state=1) (hst:x.strong=false) (hc:x.code = .slice A nc cp) (h0:0≤x.pc∧x.pc≤1000000) (h1:i.op ≠ 10) (h2:i.op ≠ 14) :
    Calls Tryz.prog 61 #[ptrV t,i.val] w fun e w'=>e = .returned (.tuple #[])∧Hold w0 w' (thA t c { x with pc:=x.pc + 1,done:=x.pc + 1 == (nc:Int) }*(atA g c y*R)):=by
  have H1:=hid (h.newBlk (t:=28) (cs:=i.cells))
  have HX:=hid (And.intro ha (And.intro hs (And.intro hst hc)))
  have e1:(i.op == 10)=false:=beq_eq_false_iff_ne.2 h1
  have e2:(i.op == 14)=false:=beq_eq_false_iff_ne.2 h2
  clear h ha hs hst hc h1 h2
  go_enter Tryz.func61,Tryz.ntmps61
  go_upto_region 7 with fail
  have h1:=H1.out
  generalize hW:w.alloc _=W at h1 ⊢
  generalize w.heap.size=gi at h1 ⊢
  clear hW H1
  have h2:=h1.pk3 [1,2,0]
  have q:=h2.Zme
  rw [HX.out.1] at q
  have q2:=h2.th_strong
  rw [HX.out.2.2.1] at q2
  have q0:=(h2.pk3 [2]).blk.some_ (i:=0) (u:=.int .i64 i.op) rfl
  have q1:=(h2.pk3 [2]).blk.some_ (i:=1) (u:=.int .i64 i.a) rfl
  have hst:=Z5j h2.swap
  rw [HX.out.2.1] at hst
  have HS:=hid hst
  have HN:=hid (Zdy h2 HX.out.2.2.2 h0)
  clear h1 h2 hst
  go_wp2_with fail
  refine HS.out.mono ?_
  rintro e w' ⟨rfl,rfl⟩
  go_wp2_with fail
  refine HS.out.mono ?_
  rintro e w' ⟨rfl,rfl⟩
  go_wp2_with fail
  refine HN.out.mono ?_
  rintro e w' ⟨rfl,h3⟩
  have H4:=hid (h3.pk3 [0,1])
  clear h3 HN HS q q2 q0 q1
  go_wp2_with fail
  go_end0
  exact ⟨rfl,H4.out⟩
set_option maxHeartbeats 4000000 in
theorem Zah {r:Nat} (h:Hold w0 w (thA t c x*(atA g c y*(rowS 55 3 x.seen n us*R)))) (ha:x.attempt=ptrV g) (hs:y.state=1) (hst:x.strong=false) (hc:x.code = .slice A nc cp) (h0:0≤x.pc∧x.pc≤1000000) (h1:i.op=10) (hr:i.a=(r:Int)) (hr8:r < 8) (hn:n≤1000) :
    Calls Tryz.prog 61 #[ptrV t,i.val] w fun e w'=>∃ A' c',e = .returned (.tuple #[])∧Hold w0 w' (thA t c { x with regs:=upR x.regs r y.value,seen:=.slice A' (n + 1) c',pc:=x.pc + 1,done:=x.pc + 1 == (nc:Int) }*(atA g c y*(rowS 55 3 (.slice A' (n + 1) c') (n + 1) (us++[.int .i64 x.pc,.int .i64 1,.int .u64 y.value])*R))):=by
  have H1:=hid (h.newBlk (t:=28) (cs:=i.cells))
  have HX:=hid (And.intro ha (And.intro hs (And.intro hst hc)))
  have HI:=hid (And.intro h1 hr)
  clear h ha hs hst hc h1 hr
  go_enter Tryz.func61,Tryz.ntmps61
  go_upto_region 7 with fail
  have h1:=H1.out
  generalize hW:w.alloc _=W at h1 ⊢
  generalize w.heap.size=gi at h1 ⊢
  clear hW H1
  have h2:=h1.pk4 [1,2,3,0]
  have q:=h2.Zme
  rw [HX.out.1] at q
  have q2:=h2.th_strong
  rw [HX.out.2.2.1] at q2
  have q0:=(h2.pk4 [3]).blk.some_ (i:=0) (u:=.int .i64 i.op) rfl
  rw [HI.out.1] at q0
  have q1:=(h2.pk4 [3]).blk.some_ (i:=1) (u:=.int .i64 i.a) rfl
  rw [HI.out.2] at q1
  have hst:=Z5j h2.swap
  rw [HX.out.2.1] at hst
  have HS:=hid hst
  have HG:=hid (Zkp (kd:=1) (r:=r) h2 HX.out.1 hr8 hn)
  clear h1 h2 hst
  go_wp2_with fail
  refine HS.out.mono ?_
  rintro e w' ⟨rfl,rfl⟩
  go_wp2_with fail
  refine HS.out.mono ?_
  rintro e w' ⟨rfl,rfl⟩
  go_wp2_with fail
  refine HG.out.mono ?_
  rintro e w3 ⟨A',c',rfl,h3⟩
  have HN:=hid (Zdy (n:=nc) h3 HX.out.2.2.2 h0)
  clear h3 HG HS q q2 q0 q1
  go_wp2_with fail
  refine HN.out.mono ?_
  rintro e w' ⟨rfl,h4⟩
  have H4:=hid (h4.pk4 [0,1,2])
  clear h4 HN
  go_wp2_with fail
  go_end0
  exact ⟨A',c',rfl,H4.out⟩
end
theorem Z2c {P:Program} {w:World} {fn:Func} {x y z:Tmp} {T:TypeId} (h:fn.results=#[.cell x T,.tmp y,.tmp z]) (tmps:Array Value) {g:Nat} {t:TypeId} {cs:Array Value} (hx:tmps.getD x undef = .pointer (some ⟨g,0,none⟩))
    (hA:∀ w,(isAgg T).run P w = .ok true w) (n:Nat) (hs:∀ w,(sizeOf T).run P w = .ok n w) (hb:Blk w g t cs) (hn:cs.size=n):(results fn tmps).run P w = .ok (.tuple #[.agg cs,tmps.getD y undef,tmps.getD z undef]) w:=by
  subst hn
  have hl:(loadCells ⟨g,0,none⟩ cs.toList.length).run P w = .ok cs.toList.toArray w:=by
    refine run_loadCells_list w _ _ fun j v hj=>?_
    rw [Z2a]
    refine hb.some_ ?_
    rw [← hj];simp
  have hl2:(loadCells ⟨g,0,none⟩ cs.size).run P w = .ok cs w:=by simpa using hl
  unfold results
  rw [h]
  rw [Array.getD_eq_getD_getElem?] at hx
  simp [hx,asAddr,loadVar,hA,hs,hl2,Result.andThen,Sem.run_bind]
def AdPost {ι:Type} (w0:World) (Q:ι→Asr) (ph att:Int) (a:Acc) (e:Ending) (w':World):Prop:=∃ i v l,e = .returned (.tuple #[stV 0 ph att a,v])∧l.length≤1∧Hold w0 w' (evA v l*Q i)
def StPost {ι:Type} (w0:World) (Q:ι→Asr) (id ph att:Int) (a:Acc) (e:Ending) (w':World):Prop:=∃ i v l,e = .returned (.tuple #[stV id ph att a,v,.bool true])∧l.length≤1∧Hold w0 w' (evA v l*Q i)
section
variable {w0 w:World} {R R':Asr} {t g n cp k:Nat} {c:Cfg} {x:ThR} {p:List InsR} {i:InsR} {A:Option Addr} {a:Acc} {ph att:Int} {m:Value}
set_option maxHeartbeats 4000000 in
theorem Zad {ι:Type} {X:ι→ThR} {Q:ι→Asr} (h:Hold w0 w (thA t c x*(Z0a (.slice A p.length cp) p*R))) (hcd:x.code = .slice A p.length cp) (hpc:x.pc=(k:Int)) (hi:p[k]?=some i) (hdone:x.done=false) (hf:x.fence = .pointer none) (ha:x.attempt=ptrV g)
    (hb:∀ F w',Hold w0 w' (F*(thA t c x*(Z0a (.slice A p.length cp) p*R)))→Calls Tryz.prog 36 #[ptrV g] w' fun e w''=>e = .returned (.bool true)∧w'=w'')
    (hs:∀ F w',Hold w0 w' (F*(thA t c x*(Z0a (.slice A p.length cp) p*R)))→Calls Tryz.prog 37 #[ptrV t,m] w' (AdPost w0 (fun i=>F*(thA t c (X i)*Q i)) ph att a))
    (hid':∀ i,(X i).id=x.id) :
    Calls Tryz.prog 19 #[ptrV t,m] w (StPost w0 (fun i=>thA t c (X i)*Q i) x.id ph att a):=by
  have HX:=hid (And.intro hcd (And.intro hpc (And.intro hi (And.intro hdone (And.intro hf ha)))))
  have HB:=hid hb
  have HS:=hid hs
  have HI:=hid hid'
  have H1:=hid (h.newBlk (t:=52) (cs:=#[.int .i64 0,.int .i64 0,.int .i64 0,.int .i64 0,.int .i64 0,.int .i64 0,.int .u64 0,.int .u64 0,.bool false]))
  clear h hcd hpc hi hdone hf ha hb hs hid'
  go_enter Tryz.func19,Tryz.ntmps19
  go_upto_region 1 with fail
  have h1:=H1.out
  generalize hW:w.alloc _=W at h1 ⊢
  generalize w.heap.size=gr at h1 ⊢
  clear hW H1
  have q:=h1.drop.th_done
  rw [HX.out.2.2.2.1] at q
  go_upto_region 3 with fail
  have h2:=(h1.newBlk (t:=52) (cs:=#[.int .i64 0,.int .i64 0,.int .i64 0,.int .i64 0,.int .i64 0,.int .i64 0,.int .u64 0,.int .u64 0,.bool false]))
  clear h1 q
  go_upto_region 5 with fail
  generalize hW:W.alloc _=W2 at h2 ⊢
  generalize W.heap.size=gs at h2 ⊢
  clear hW
  obtain ⟨gc,hA,hcap,-⟩:=(h2.pk4 [3]).codeAt HX.out.2.2.1
  subst hA
  have hkl:k < p.length:=(List.getElem?_eq_some_iff.1 HX.out.2.2.1).1
  have hS:∀ w' R',Hold w0 w' (thA t c x*(Z0a (.slice (some ⟨gc,0,none⟩) p.length cp) p*R'))→w'.cell? ⟨t,31,none⟩=some (.slice (some ⟨gc,0,none⟩) p.length cp)∧w'.cell? ⟨t,32,none⟩=some (.int .i64 (k:Int))∧CodeAt w' gc k i:=by
    intro w' R' h
    refine ⟨?_,?_,h.drop.code HX.out.2.2.1⟩
    · have:=h.th_code;rw [HX.out.1] at this;exact this
    · have:=h.th_pc;rw [HX.out.2.1] at this;exact this
  have HS2:=hid hS
  clear hS
  have H2:=hid h2
  replace h2:=h2.drew
  refine Z01 [12] (by kernel_rfl) ?_
  refine Z05 (fun w'=>w'.cell? ⟨t,31,none⟩=some (.slice (some ⟨gc,0,none⟩) p.length cp)∧w'.cell? ⟨t,32,none⟩=some (.int .i64 (k:Int))∧CodeAt w' gc k i) (fun _ _=>trivial) _ _ _ _ ?_
  refine' wbk [true,true,true,true,true,true,true,true,true,true,true] 99 (HS2.out _ _ (h2.pk4 [2,3,0,1])) (fun wq hq=>?_) ?_;rotate_left
  · simp only [Z00]
    obtain ⟨q1,q2,q3,q4,q5,q6,q7⟩:=hq
    repeat (go_big_quiet_step (fail))
    exact wpQuiet_nil rfl
  refine wbr [false,false,false,false,false,false,false,false,false,false,false,true] (fuel:=1) (fun QB hQB hQX=>?_)
  simp only [Z00]
  go_wp2_with fail
  have h3:=(h2.newBlk (t:=28) (cs:=#[.int .i64 0,.int .i64 0,.int .i64 0,.int .i64 0,.int .i64 0]))
  refine hQB.out _ _ (HS2.out _ _ (h3.pk5 [3,4,0,1,2])) ?_
  clear hQB hQX QB h2
  refine wbb [false,false,false,false,false,false,false,false,false,false,false,false,true] (fuel:=0) (fun QB hQB hQX=>?_)
  simp only [Z00]
  have qs:=h3.blk.some_ (i:=0) rfl
  go_wp2_with fail
  refine hQB.out _ _ ?_
  clear hQB hQX QB
  refine Z07 (by kernel_rfl) ?_
  refine Z02 (by kernel_rfl) ?_ _
  have h4:Hold w0 _ (blkA 28 W2.heap.size i.cells*(blkA 52 gs #[.int .i64 0,.int .i64 0,.int .i64 0,.int .i64 0,.int .i64 0,.int .i64 0,.int .u64 0,.int .u64 0,.bool false]*(blkA 52 gr #[.int .i64 0,.int .i64 0,.int .i64 0,.int .i64 0,.int .i64 0,.int .i64 0,.int .u64 0,.int .u64 0,.bool false]*(thA t c x*(Z0a (.slice (some ⟨gc,0,none⟩) p.length cp) p*R))))):=(H2.out.newBlk (t:=28) (cs:=#[.int .i64 i.op,.int .i64 i.a,.int .i64 i.b,.int .i64 i.c,.int .i64 i.imm])).drew
  generalize hW:World.drew _=W3 at h4 ⊢
  generalize W2.heap.size=gi at h4 ⊢
  clear hW HS2 H2
  have h5:=h4.pk5 [1,2,3,4]
  have h6:Hold w0 W3 ((blkA 52 gs #[.int .i64 0,.int .i64 0,.int .i64 0,.int .i64 0,.int .i64 0,.int .i64 0,.int .u64 0,.int .u64 0,.bool false]*blkA 52 gr #[.int .i64 0,.int .i64 0,.int .i64 0,.int .i64 0,.int .i64 0,.int .i64 0,.int .u64 0,.int .u64 0,.bool false])*(thA t c x*(Z0a (.slice (some ⟨gc,0,none⟩) p.length cp) p*R))):=h5.join
  have q1:=(h5.pk3 [2]).th_fence
  have q2:=(h5.pk3 [2]).Zme
  rw [HX.out.2.2.2.2.1] at q1
  rw [HX.out.2.2.2.2.2] at q2
  have HB2:=hid (HB.out _ _ h6)
  have HS3:=hid (HS.out _ _ h6)
  clear h4 h5 h6 h3 qs
  go_wp2_with fail
  refine HB2.out.mono ?_
  rintro e w' ⟨rfl,rfl⟩
  go_wp2_with fail
  refine HS3.out.mono ?_
  rintro e w4 ⟨j,v,l,rfl,hl,h7⟩
  have h8:Hold w0 w4 (blkA 52 gs #[.int .i64 0,.int .i64 0,.int .i64 0,.int .i64 0,.int .i64 0,.int .i64 0,.int .u64 0,.int .u64 0,.bool false]*(blkA 52 gr #[.int .i64 0,.int .i64 0,.int .i64 0,.int .i64 0,.int .i64 0,.int .i64 0,.int .u64 0,.int .u64 0,.bool false]*(evA v l*(thA t c (X j)*Q j)))):=by
    have h9:=h7.swap.part
    exact (h9.imp (Imp.under _ (Imp.under _ (Imp.under _ (Imp.refl _))))).imp (Imp.refl _)
  clear h7 HB2 HS3 q1 q2
  go_upto_region 14 with (refine Z03 rfl 52 _ _ rfl gs _ _ (stC 0 ph att a) rfl rfl _ Tryz.sizeOf52 h8 rfl rfl rfl ?_;intro w5 h9)
  clear h8
  have q1:=(h9.pk4 [3]).th_id
  rw [HI.out j] at q1
  have h10:Hold w0 _ (blkA 52 gs (stC x.id ph att a)*(blkA 52 gr #[.int .i64 0,.int .i64 0,.int .i64 0,.int .i64 0,.int .i64 0,.int .i64 0,.int .u64 0,.int .u64 0,.bool false]*(evA v l*(thA t c (X j)*Q j)))):=h9.Zm7 0 (.int .i64 x.id)
  have qs:=h9.blk.some_ (i:=0) rfl
  have zs:=h9.blk.frozen 0
  have H10:=hid h10
  clear h9 h10
  go_upto_region 15 with fail
  have h10:=H10.out
  generalize hW:World.setCell _ _ _=W6 at h10 ⊢
  clear hW H10 qs zs q1
  go_wp2_with (first | (refine Z04 rfl 52 _ rfl gs _ _ rfl Tryz.isAgg52 _ Tryz.sizeOf52 h10.blk rfl ?_) | (refine Z03 rfl 52 _ _ rfl gr _ _ (stC x.id ph att a) rfl rfl _ Tryz.sizeOf52 h10.drop rfl rfl rfl ?_;intro w7 h11))
  have HF:Hid (StPost w0 (fun i=>thA t c (X i)*Q i) x.id ph att a (.returned (.tuple #[stV x.id ph att a,v,.bool true])) w7):=hid ⟨j,v,l,rfl,hl,h11.drop⟩
  exact bodyPost_ret (Z2c Tryz.results19 _ rfl Tryz.isAgg52 _ Tryz.sizeOf52 h11.blk rfl) rfl HF.out
set_option maxHeartbeats 4000000 in
theorem Z2z {ι:Type} {X:ι→ThR} {Q:ι→Asr} (h:Hold w0 w (thA t c x*(Z0a (.slice A p.length cp) p*R))) (hcd:x.code = .slice A p.length cp) (hpc:x.pc=(k:Int)) (hi:p[k]?=some i) (hdone:x.done=false) (hf:x.fence = .pointer none) (ha:x.attempt = .pointer none)
    (hs:∀ F w',Hold w0 w' (F*(thA t c x*(Z0a (.slice A p.length cp) p*R)))→Calls Tryz.prog 39 #[ptrV t,m,i.val] w' (AdPost w0 (fun i=>F*(thA t c (X i)*Q i)) ph att a))
    (hid':∀ i,(X i).id=x.id) :
    Calls Tryz.prog 19 #[ptrV t,m] w (StPost w0 (fun i=>thA t c (X i)*Q i) x.id ph att a):=by
  have HX:=hid (And.intro hcd (And.intro hpc (And.intro hi (And.intro hdone (And.intro hf ha)))))
  have HS:=hid hs
  have HI:=hid hid'
  have H1:=hid (h.newBlk (t:=52) (cs:=#[.int .i64 0,.int .i64 0,.int .i64 0,.int .i64 0,.int .i64 0,.int .i64 0,.int .u64 0,.int .u64 0,.bool false]))
  clear h hcd hpc hi hdone hf ha hs hid'
  go_enter Tryz.func19,Tryz.ntmps19
  go_upto_region 1 with fail
  have h1:=H1.out
  generalize hW:w.alloc _=W at h1 ⊢
  generalize w.heap.size=gr at h1 ⊢
  clear hW H1
  have q:=h1.drop.th_done
  rw [HX.out.2.2.2.1] at q
  go_upto_region 3 with fail
  have h2:=(h1.newBlk (t:=52) (cs:=#[.int .i64 0,.int .i64 0,.int .i64 0,.int .i64 0,.int .i64 0,.int .i64 0,.int .u64 0,.int .u64 0,.bool false]))
  clear h1 q
  go_upto_region 5 with fail
  generalize hW:W.alloc _=W2 at h2 ⊢
  generalize W.heap.size=gs at h2 ⊢
  clear hW
  obtain ⟨gc,hA,hcap,-⟩:=(h2.pk4 [3]).codeAt HX.out.2.2.1
  subst hA
  have hkl:k < p.length:=(List.getElem?_eq_some_iff.1 HX.out.2.2.1).1
  have hS:∀ w' R',Hold w0 w' (thA t c x*(Z0a (.slice (some ⟨gc,0,none⟩) p.length cp) p*R'))→w'.cell? ⟨t,31,none⟩=some (.slice (some ⟨gc,0,none⟩) p.length cp)∧w'.cell? ⟨t,32,none⟩=some (.int .i64 (k:Int))∧CodeAt w' gc k i:=by
    intro w' R' h
    refine ⟨?_,?_,h.drop.code HX.out.2.2.1⟩
    · have:=h.th_code;rw [HX.out.1] at this;exact this
    · have:=h.th_pc;rw [HX.out.2.1] at this;exact this
  have HS2:=hid hS
  clear hS
  have H2:=hid h2
  replace h2:=h2.drew
  refine Z01 [12] (by kernel_rfl) ?_
  refine Z05 (fun w'=>w'.cell? ⟨t,31,none⟩=some (.slice (some ⟨gc,0,none⟩) p.length cp)∧w'.cell? ⟨t,32,none⟩=some (.int .i64 (k:Int))∧CodeAt w' gc k i) (fun _ _=>trivial) _ _ _ _ ?_
  refine' wbk [true,true,true,true,true,true,true,true,true,true,true] 99 (HS2.out _ _ (h2.pk4 [2,3,0,1])) (fun wq hq=>?_) ?_;rotate_left
  · simp only [Z00]
    obtain ⟨q1,q2,q3,q4,q5,q6,q7⟩:=hq
    repeat (go_big_quiet_step (fail))
    exact wpQuiet_nil rfl
  refine wbr [false,false,false,false,false,false,false,false,false,false,false,true] (fuel:=1) (fun QB hQB hQX=>?_)
  simp only [Z00]
  go_wp2_with fail
  have h3:=(h2.newBlk (t:=28) (cs:=#[.int .i64 0,.int .i64 0,.int .i64 0,.int .i64 0,.int .i64 0]))
  refine hQB.out _ _ (HS2.out _ _ (h3.pk5 [3,4,0,1,2])) ?_
  clear hQB hQX QB h2
  refine wbb [false,false,false,false,false,false,false,false,false,false,false,false,true] (fuel:=0) (fun QB hQB hQX=>?_)
  simp only [Z00]
  have qs:=h3.blk.some_ (i:=0) rfl
  go_wp2_with fail
  refine hQB.out _ _ ?_
  clear hQB hQX QB
  refine Z07 (by kernel_rfl) ?_
  refine Z02 (by kernel_rfl) ?_ _
  have h4:Hold w0 _ (blkA 28 W2.heap.size i.cells*(blkA 52 gs #[.int .i64 0,.int .i64 0,.int .i64 0,.int .i64 0,.int .i64 0,.int .i64 0,.int .u64 0,.int .u64 0,.bool false]*(blkA 52 gr #[.int .i64 0,.int .i64 0,.int .i64 0,.int .i64 0,.int .i64 0,.int .i64 0,.int .u64 0,.int .u64 0,.bool false]*(thA t c x*(Z0a (.slice (some ⟨gc,0,none⟩) p.length cp) p*R))))):=(H2.out.newBlk (t:=28) (cs:=#[.int .i64 i.op,.int .i64 i.a,.int .i64 i.b,.int .i64 i.c,.int .i64 i.imm])).drew
  generalize hW:World.drew _=W3 at h4 ⊢
  generalize W2.heap.size=gi at h4 ⊢
  clear hW HS2 H2
  have h5:=h4.pk5 [1,2,3,4]
  have h6:Hold w0 W3 ((blkA 52 gs #[.int .i64 0,.int .i64 0,.int .i64 0,.int .i64 0,.int .i64 0,.int .i64 0,.int .u64 0,.int .u64 0,.bool false]*blkA 52 gr #[.int .i64 0,.int .i64 0,.int .i64 0,.int .i64 0,.int .i64 0,.int .i64 0,.int .u64 0,.int .u64 0,.bool false])*(thA t c x*(Z0a (.slice (some ⟨gc,0,none⟩) p.length cp) p*R))):=h5.join
  have q1:=(h5.pk3 [2]).th_fence
  have q2:=(h5.pk3 [2]).Zme
  rw [HX.out.2.2.2.2.1] at q1
  rw [HX.out.2.2.2.2.2] at q2
  have HS3:=hid (HS.out _ _ h6)
  have qb:=h4.blk
  clear h4 h5 h6 h3 qs
  go_wp2_with (refine Z04 rfl 28 _ rfl gi _ _ rfl Tryz.isAgg28 _ Tryz.sizeOf28 qb rfl ?_)
  refine HS3.out.mono ?_
  rintro e w4 ⟨j,v,l,rfl,hl,h7⟩
  have h8:Hold w0 w4 (blkA 52 gs #[.int .i64 0,.int .i64 0,.int .i64 0,.int .i64 0,.int .i64 0,.int .i64 0,.int .u64 0,.int .u64 0,.bool false]*(blkA 52 gr #[.int .i64 0,.int .i64 0,.int .i64 0,.int .i64 0,.int .i64 0,.int .i64 0,.int .u64 0,.int .u64 0,.bool false]*(evA v l*(thA t c (X j)*Q j)))):=by
    have h9:=h7.swap.part
    exact (h9.imp (Imp.under _ (Imp.under _ (Imp.under _ (Imp.refl _))))).imp (Imp.refl _)
  clear h7 HS3 q1 q2
  go_upto_region 14 with (refine Z03 rfl 52 _ _ rfl gs _ _ (stC 0 ph att a) rfl rfl _ Tryz.sizeOf52 h8 rfl rfl rfl ?_;intro w5 h9)
  clear h8
  have q1:=(h9.pk4 [3]).th_id
  rw [HI.out j] at q1
  have h10:Hold w0 _ (blkA 52 gs (stC x.id ph att a)*(blkA 52 gr #[.int .i64 0,.int .i64 0,.int .i64 0,.int .i64 0,.int .i64 0,.int .i64 0,.int .u64 0,.int .u64 0,.bool false]*(evA v l*(thA t c (X j)*Q j)))):=h9.Zm7 0 (.int .i64 x.id)
  have qs:=h9.blk.some_ (i:=0) rfl
  have zs:=h9.blk.frozen 0
  have H10:=hid h10
  clear h9 h10
  go_upto_region 15 with fail
  have h10:=H10.out
  generalize hW:World.setCell _ _ _=W6 at h10 ⊢
  clear hW H10 qs zs q1
  go_wp2_with (first | (refine Z04 rfl 52 _ rfl gs _ _ rfl Tryz.isAgg52 _ Tryz.sizeOf52 h10.blk rfl ?_) | (refine Z03 rfl 52 _ _ rfl gr _ _ (stC x.id ph att a) rfl rfl _ Tryz.sizeOf52 h10.drop rfl rfl rfl ?_;intro w7 h11))
  have HF:Hid (StPost w0 (fun i=>thA t c (X i)*Q i) x.id ph att a (.returned (.tuple #[stV x.id ph att a,v,.bool true])) w7):=hid ⟨j,v,l,rfl,hl,h11.drop⟩
  exact bodyPost_ret (Z2c Tryz.results19 _ rfl Tryz.isAgg52 _ Tryz.sizeOf52 h11.blk rfl) rfl HF.out
set_option maxHeartbeats 4000000 in
theorem Z4k {ι:Type} {X:ι→ThR} {Q:ι→Asr} (h:Hold w0 w (thA t c x*(Z0a (.slice A p.length cp) p*R))) (hcd:x.code = .slice A p.length cp) (hpc:x.pc=(k:Int)) (hi:p[k]?=some i) (hdone:x.done=false) (hf:x.fence = .pointer none) (ha:x.attempt=ptrV g∧x.strong=false)
    (hb:∀ F w',Hold w0 w' (F*(thA t c x*(Z0a (.slice A p.length cp) p*R)))→Calls Tryz.prog 36 #[ptrV g] w' fun e w''=>e = .returned (.bool false)∧w'=w'')
    (hs:∀ F w',Hold w0 w' (F*(thA t c x*(Z0a (.slice A p.length cp) p*R)))→Calls Tryz.prog 39 #[ptrV t,m,i.val] w' (AdPost w0 (fun i=>F*(thA t c (X i)*Q i)) ph att a))
    (hid':∀ i,(X i).id=x.id) :
    Calls Tryz.prog 19 #[ptrV t,m] w (StPost w0 (fun i=>thA t c (X i)*Q i) x.id ph att a):=by
  have HX:=hid (And.intro hcd (And.intro hpc (And.intro hi (And.intro hdone (And.intro hf ha)))))
  have HB:=hid hb
  have HS:=hid hs
  have HI:=hid hid'
  have H1:=hid (h.newBlk (t:=52) (cs:=#[.int .i64 0,.int .i64 0,.int .i64 0,.int .i64 0,.int .i64 0,.int .i64 0,.int .u64 0,.int .u64 0,.bool false]))
  clear h hcd hpc hi hdone hf ha hb hs hid'
  go_enter Tryz.func19,Tryz.ntmps19
  go_upto_region 1 with fail
  have h1:=H1.out
  generalize hW:w.alloc _=W at h1 ⊢
  generalize w.heap.size=gr at h1 ⊢
  clear hW H1
  have q:=h1.drop.th_done
  rw [HX.out.2.2.2.1] at q
  go_upto_region 3 with fail
  have h2:=(h1.newBlk (t:=52) (cs:=#[.int .i64 0,.int .i64 0,.int .i64 0,.int .i64 0,.int .i64 0,.int .i64 0,.int .u64 0,.int .u64 0,.bool false]))
  clear h1 q
  go_upto_region 5 with fail
  generalize hW:W.alloc _=W2 at h2 ⊢
  generalize W.heap.size=gs at h2 ⊢
  clear hW
  obtain ⟨gc,hA,hcap,-⟩:=(h2.pk4 [3]).codeAt HX.out.2.2.1
  subst hA
  have hkl:k < p.length:=(List.getElem?_eq_some_iff.1 HX.out.2.2.1).1
  have hS:∀ w' R',Hold w0 w' (thA t c x*(Z0a (.slice (some ⟨gc,0,none⟩) p.length cp) p*R'))→w'.cell? ⟨t,31,none⟩=some (.slice (some ⟨gc,0,none⟩) p.length cp)∧w'.cell? ⟨t,32,none⟩=some (.int .i64 (k:Int))∧CodeAt w' gc k i:=by
    intro w' R' h
    refine ⟨?_,?_,h.drop.code HX.out.2.2.1⟩
    · have:=h.th_code;rw [HX.out.1] at this;exact this
    · have:=h.th_pc;rw [HX.out.2.1] at this;exact this
  have HS2:=hid hS
  clear hS
  have H2:=hid h2
  replace h2:=h2.drew
  refine Z01 [12] (by kernel_rfl) ?_
  refine Z05 (fun w'=>w'.cell? ⟨t,31,none⟩=some (.slice (some ⟨gc,0,none⟩) p.length cp)∧w'.cell? ⟨t,32,none⟩=some (.int .i64 (k:Int))∧CodeAt w' gc k i) (fun _ _=>trivial) _ _ _ _ ?_
  refine' wbk [true,true,true,true,true,true,true,true,true,true,true] 99 (HS2.out _ _ (h2.pk4 [2,3,0,1])) (fun wq hq=>?_) ?_;rotate_left
  · simp only [Z00]
    obtain ⟨q1,q2,q3,q4,q5,q6,q7⟩:=hq
    repeat (go_big_quiet_step (fail))
    exact wpQuiet_nil rfl
  refine wbr [false,false,false,false,false,false,false,false,false,false,false,true] (fuel:=1) (fun QB hQB hQX=>?_)
  simp only [Z00]
  go_wp2_with fail
  have h3:=(h2.newBlk (t:=28) (cs:=#[.int .i64 0,.int .i64 0,.int .i64 0,.int .i64 0,.int .i64 0]))
  refine hQB.out _ _ (HS2.out _ _ (h3.pk5 [3,4,0,1,2])) ?_
  clear hQB hQX QB h2
  refine wbb [false,false,false,false,false,false,false,false,false,false,false,false,true] (fuel:=0) (fun QB hQB hQX=>?_)
  simp only [Z00]
  have qs:=h3.blk.some_ (i:=0) rfl
  go_wp2_with fail
  refine hQB.out _ _ ?_
  clear hQB hQX QB
  refine Z07 (by kernel_rfl) ?_
  refine Z02 (by kernel_rfl) ?_ _
  have h4:Hold w0 _ (blkA 28 W2.heap.size i.cells*(blkA 52 gs #[.int .i64 0,.int .i64 0,.int .i64 0,.int .i64 0,.int .i64 0,.int .i64 0,.int .u64 0,.int .u64 0,.bool false]*(blkA 52 gr #[.int .i64 0,.int .i64 0,.int .i64 0,.int .i64 0,.int .i64 0,.int .i64 0,.int .u64 0,.int .u64 0,.bool false]*(thA t c x*(Z0a (.slice (some ⟨gc,0,none⟩) p.length cp) p*R))))):=(H2.out.newBlk (t:=28) (cs:=#[.int .i64 i.op,.int .i64 i.a,.int .i64 i.b,.int .i64 i.c,.int .i64 i.imm])).drew
  generalize hW:World.drew _=W3 at h4 ⊢
  generalize W2.heap.size=gi at h4 ⊢
  clear hW HS2 H2
  have h5:=h4.pk5 [1,2,3,4]
  have h6:Hold w0 W3 ((blkA 52 gs #[.int .i64 0,.int .i64 0,.int .i64 0,.int .i64 0,.int .i64 0,.int .i64 0,.int .u64 0,.int .u64 0,.bool false]*blkA 52 gr #[.int .i64 0,.int .i64 0,.int .i64 0,.int .i64 0,.int .i64 0,.int .i64 0,.int .u64 0,.int .u64 0,.bool false])*(thA t c x*(Z0a (.slice (some ⟨gc,0,none⟩) p.length cp) p*R))):=h5.join
  have q1:=(h5.pk3 [2]).th_fence
  have q2:=(h5.pk3 [2]).Zme
  rw [HX.out.2.2.2.2.1] at q1
  rw [HX.out.2.2.2.2.2.1] at q2
  have q3:=(h5.pk3 [2]).th_strong
  rw [HX.out.2.2.2.2.2.2] at q3
  have HB2:=hid (HB.out _ _ h6)
  have HS3:=hid (HS.out _ _ h6)
  have qb:=h4.blk
  clear h4 h5 h6 h3 qs
  go_wp2_with fail
  refine HB2.out.mono ?_
  rintro e w' ⟨rfl,rfl⟩
  go_wp2_with (refine Z04 rfl 28 _ rfl gi _ _ rfl Tryz.isAgg28 _ Tryz.sizeOf28 qb rfl ?_)
  refine HS3.out.mono ?_
  rintro e w4 ⟨j,v,l,rfl,hl,h7⟩
  have h8:Hold w0 w4 (blkA 52 gs #[.int .i64 0,.int .i64 0,.int .i64 0,.int .i64 0,.int .i64 0,.int .i64 0,.int .u64 0,.int .u64 0,.bool false]*(blkA 52 gr #[.int .i64 0,.int .i64 0,.int .i64 0,.int .i64 0,.int .i64 0,.int .i64 0,.int .u64 0,.int .u64 0,.bool false]*(evA v l*(thA t c (X j)*Q j)))):=by
    have h9:=h7.swap.part
    exact (h9.imp (Imp.under _ (Imp.under _ (Imp.under _ (Imp.refl _))))).imp (Imp.refl _)
  clear h7 HB2 HS3 q1 q2
  go_upto_region 14 with (refine Z03 rfl 52 _ _ rfl gs _ _ (stC 0 ph att a) rfl rfl _ Tryz.sizeOf52 h8 rfl rfl rfl ?_;intro w5 h9)
  clear h8
  have q1:=(h9.pk4 [3]).th_id
  rw [HI.out j] at q1
  have h10:Hold w0 _ (blkA 52 gs (stC x.id ph att a)*(blkA 52 gr #[.int .i64 0,.int .i64 0,.int .i64 0,.int .i64 0,.int .i64 0,.int .i64 0,.int .u64 0,.int .u64 0,.bool false]*(evA v l*(thA t c (X j)*Q j)))):=h9.Zm7 0 (.int .i64 x.id)
  have qs:=h9.blk.some_ (i:=0) rfl
  have zs:=h9.blk.frozen 0
  have H10:=hid h10
  clear h9 h10
  go_upto_region 15 with fail
  have h10:=H10.out
  generalize hW:World.setCell _ _ _=W6 at h10 ⊢
  clear hW H10 qs zs q1
  go_wp2_with (first | (refine Z04 rfl 52 _ rfl gs _ _ rfl Tryz.isAgg52 _ Tryz.sizeOf52 h10.blk rfl ?_) | (refine Z03 rfl 52 _ _ rfl gr _ _ (stC x.id ph att a) rfl rfl _ Tryz.sizeOf52 h10.drop rfl rfl rfl ?_;intro w7 h11))
  have HF:Hid (StPost w0 (fun i=>thA t c (X i)*Q i) x.id ph att a (.returned (.tuple #[stV x.id ph att a,v,.bool true])) w7):=hid ⟨j,v,l,rfl,hl,h11.drop⟩
  exact bodyPost_ret (Z2c Tryz.results19 _ rfl Tryz.isAgg52 _ Tryz.sizeOf52 h11.blk rfl) rfl HF.out
theorem Z8z (h:Hold w0 w (thA t c x*R)) (hd:x.done=true):Calls Tryz.prog 19 #[ptrV t,m] w fun e w'=>e = .returned (.tuple #[stV 0 0 0 acc0,.slice none 0 0,.bool false])∧Hold w0 w' (thA t c x*R):=by
  have H1:=hid (h.newBlk (t:=52) (cs:=#[.int .i64 0,.int .i64 0,.int .i64 0,.int .i64 0,.int .i64 0,.int .i64 0,.int .u64 0,.int .u64 0,.bool false]))
  have HX:=hid hd
  clear h hd
  go_enter Tryz.func19,Tryz.ntmps19
  go_upto_region 1 with fail
  have h1:=H1.out
  generalize hW:w.alloc _=W at h1 ⊢
  generalize w.heap.size=gr at h1 ⊢
  clear hW H1
  have q:=h1.drop.th_done
  rw [HX.out] at q
  go_wp2_with (refine Z03 rfl 52 _ _ rfl gr _ _ (stC 0 0 0 acc0) rfl rfl _ Tryz.sizeOf52 h1 rfl rfl rfl ?_;intro w7 h11)
  exact bodyPost_ret (Z2c Tryz.results19 _ rfl Tryz.isAgg52 _ Tryz.sizeOf52 h11.blk rfl) rfl ⟨rfl,h11.drop⟩
end
theorem Z5t {t:TypeId} {g n:Nat} {F:Nat→Value} {cs:Array Value} (h:((List.range n).map F).toArray=cs):fnA t g n F=blkA t g cs:=by unfold fnA;rw [h]
abbrev stB (att:Int):Nat→Value:=stF 0 0 att acc0
section
variable {w0 w:World} {R R':Asr} {t g n cp k:Nat} {c:Cfg} {x:ThR} {p:List InsR} {i:InsR} {A:Option Addr} {a:Acc} {ph att:Int} {m:Value}
set_option maxHeartbeats 4000000 in
theorem Z97 {ι:Type} {Q:ι→Asr} (h:Hold w0 w (thA t c x*R)) (ha:x.attempt=ptrV g) (hp3:ph ≠ 3) (hp16:ph ≠ 16)
    (hs:∀ F w',Hold w0 w' (F*(thA t c x*R))→Calls Tryz.prog 57 #[ptrV g,m] w' (APostX w0 (fun i=>F*(thA t c x*Q i)) a ph))
    (hb:∀ F i w',Hold w0 w' (F*(thA t c x*Q i))→Calls Tryz.prog 36 #[ptrV g] w' fun e w''=>e = .returned (.bool true)∧w'=w'') :
    Calls Tryz.prog 37 #[ptrV t,m] w (AdPost w0 (fun i=>thA t c x*Q i) ph x.count a):=by
  have HX:=hid ha
  have HB:=hid hb
  have HS:=hid hs
  have e3:(ph == 3)=false:=beq_eq_false_iff_ne.2 hp3
  have e16:(ph == 16)=false:=beq_eq_false_iff_ne.2 hp16
  have H1:=hid (h.newBlk (t:=52) (cs:=#[.int .i64 0,.int .i64 0,.int .i64 0,.int .i64 0,.int .i64 0,.int .i64 0,.int .u64 0,.int .u64 0,.bool false]))
  clear h ha hs hb hp3 hp16
  go_enter Tryz.func37,Tryz.ntmps37
  go_upto_region 1 with fail
  have h1:=H1.out
  generalize hW:w.alloc _=W at h1 ⊢
  generalize w.heap.size=gr at h1 ⊢
  clear hW H1
  have q1:=h1.drop.th_count
  have q2:=h1.drop.Zme
  rw [HX.out] at q2
  have H2:=hid (h1.newBlk (t:=52) (cs:=#[.int .i64 0,.int .i64 0,.int .i64 x.count,.int .i64 0,.int .i64 0,.int .i64 0,.int .u64 0,.int .u64 0,.bool false]))
  clear h1
  go_upto_region 2 with fail
  have h2:=H2.out
  generalize hW:W.alloc _=W2 at h2 ⊢
  generalize W.heap.size=gs at h2 ⊢
  clear hW H2 q1 q2
  have q2:=h2.drop.drop.Zme
  rw [HX.out] at q2
  have HS2:=hid (HS.out _ _ h2.join)
  clear h2
  go_wp2_with fail
  refine HS2.out.mono ?_
  rintro e w3 ⟨j,rfl,h3⟩
  replace h3:=h3.part
  have h4:Hold w0 w3 (fnA 52 gs 9 (stB x.count)*(blkA 52 gr #[.int .i64 0,.int .i64 0,.int .i64 0,.int .i64 0,.int .i64 0,.int .i64 0,.int .u64 0,.int .u64 0,.bool false]*(thA t c x*Q j))):=by
    rw [Z5t (cs:=#[.int .i64 0,.int .i64 0,.int .i64 x.count,.int .i64 0,.int .i64 0,.int .i64 0,.int .u64 0,.int .u64 0,.bool false]) (by kernel_rfl)]
    exact h3
  clear h3 HS2 q2
  go_upto_region 3 with (refine Z0o rfl 50 _ _ rfl gs 3 52 9 (stB x.count) (acD a) rfl rfl _ Tryz.sizeOf50 h4 rfl (by decide) rfl ?_;intro w5 h5;have qs:w5.cell? ⟨gs,1,none⟩=some (.int .i64 0):=Z0h h5 (by decide);have zs:=Z26 h5 1)
  have h6:Hold w0 (w5.setCell ⟨gs,1,none⟩ (.int .i64 ph)) (blkA 52 gs (stC 0 ph x.count a)*(blkA 52 gr #[.int .i64 0,.int .i64 0,.int .i64 0,.int .i64 0,.int .i64 0,.int .i64 0,.int .u64 0,.int .u64 0,.bool false]*(thA t c x*Q j))):=by
    have h7:=Z0u h5 (i:=1) (by decide) (.int .i64 ph)
    rw [Z5t (cs:=stC 0 ph x.count a) (by kernel_rfl)] at h7
    exact h7
  generalize hW:World.setCell _ _ _=W6 at h6 ⊢
  clear hW h4 h5 qs zs
  have p1:=(h6.blk).some_ (i:=1) rfl
  have HBB:=hid (HB.out _ j _ h6.join)
  have q2:=(h6.drop.drop).Zme
  rw [HX.out] at q2
  go_upto_region 14 with (refine HBB.out.mono ?_;rintro e w' ⟨rfl,rfl⟩)
  clear HBB p1 q2
  go_wp2_with (first | (refine Z04 rfl 52 _ rfl gs _ _ rfl Tryz.isAgg52 _ Tryz.sizeOf52 h6.blk rfl ?_) | (refine Z03 rfl 52 _ _ rfl gr _ _ (stC 0 ph x.count a) rfl rfl _ Tryz.sizeOf52 h6.drop rfl rfl rfl ?_;intro w7 h11))
  have HF:Hid (AdPost w0 (fun i=>thA t c x*Q i) ph x.count a (.returned (.tuple #[stV 0 ph x.count a,.slice none 0 0])) w7):=hid ⟨j,_,[],rfl,by decide,h11.drop.nilEv⟩
  exact bodyPost_ret (Z06 Tryz.results37 _ rfl Tryz.isAgg52 _ Tryz.sizeOf52 h11.blk rfl) rfl HF.out
set_option maxHeartbeats 4000000 in
theorem Z56 {ι ι2:Type} {Q0:ι→Asr} {Q2:ι2→Asr} {Q:ι→Asr} (hQ:Q=fun i=>Z0a (.slice A p.length cp) p*Q0 i) (h:Hold w0 w (thA t c x*R)) (ha:x.attempt=ptrV g) (hp3:ph ≠ 3) (hp16:ph ≠ 16) (hcd:x.code = .slice A p.length cp) (hpc:x.pc=(k:Int)) (hi:p[k]?=some i)
    (hs:∀ F w',Hold w0 w' (F*(thA t c x*R))→Calls Tryz.prog 57 #[ptrV g,m] w' (APostX w0 (fun i=>F*(thA t c x*Q i)) a ph))
    (hb:∀ F i w',Hold w0 w' (F*(thA t c x*Q i))→Calls Tryz.prog 36 #[ptrV g] w' fun e w''=>e = .returned (.bool false)∧w'=w'')
    (han:∀ F i' w',Hold w0 w' (F*(thA t c x*Q i'))→Calls Tryz.prog 61 #[ptrV t,i.val] w' fun e w''=>∃ j2,e = .returned (.tuple #[])∧Hold w0 w'' (F*Q2 j2)) :
    Calls Tryz.prog 37 #[ptrV t,m] w (AdPost w0 Q2 ph x.count a):=by
  have HX:=hid ha
  have HB:=hid hb
  have HS:=hid hs
  have e3:(ph == 3)=false:=beq_eq_false_iff_ne.2 hp3
  have e16:(ph == 16)=false:=beq_eq_false_iff_ne.2 hp16
  have HC:=hid (And.intro hcd (And.intro hpc hi))
  have HN:=hid han
  have H1:=hid (h.newBlk (t:=52) (cs:=#[.int .i64 0,.int .i64 0,.int .i64 0,.int .i64 0,.int .i64 0,.int .i64 0,.int .u64 0,.int .u64 0,.bool false]))
  clear h ha hs hb hp3 hp16 hcd hpc hi han
  go_enter Tryz.func37,Tryz.ntmps37
  go_upto_region 1 with fail
  have h1:=H1.out
  generalize hW:w.alloc _=W at h1 ⊢
  generalize w.heap.size=gr at h1 ⊢
  clear hW H1
  have q1:=h1.drop.th_count
  have q2:=h1.drop.Zme
  rw [HX.out] at q2
  have H2:=hid (h1.newBlk (t:=52) (cs:=#[.int .i64 0,.int .i64 0,.int .i64 x.count,.int .i64 0,.int .i64 0,.int .i64 0,.int .u64 0,.int .u64 0,.bool false]))
  clear h1
  go_upto_region 2 with fail
  have h2:=H2.out
  generalize hW:W.alloc _=W2 at h2 ⊢
  generalize W.heap.size=gs at h2 ⊢
  clear hW H2 q1 q2
  have q2:=h2.drop.drop.Zme
  rw [HX.out] at q2
  have HS2:=hid (HS.out _ _ h2.join)
  clear h2
  go_wp2_with fail
  refine HS2.out.mono ?_
  rintro e w3 ⟨j,rfl,h3⟩
  replace h3:=h3.part
  have h4:Hold w0 w3 (fnA 52 gs 9 (stB x.count)*(blkA 52 gr #[.int .i64 0,.int .i64 0,.int .i64 0,.int .i64 0,.int .i64 0,.int .i64 0,.int .u64 0,.int .u64 0,.bool false]*(thA t c x*Q j))):=by
    rw [Z5t (cs:=#[.int .i64 0,.int .i64 0,.int .i64 x.count,.int .i64 0,.int .i64 0,.int .i64 0,.int .u64 0,.int .u64 0,.bool false]) (by kernel_rfl)]
    exact h3
  clear h3 HS2 q2
  go_upto_region 3 with (refine Z0o rfl 50 _ _ rfl gs 3 52 9 (stB x.count) (acD a) rfl rfl _ Tryz.sizeOf50 h4 rfl (by decide) rfl ?_;intro w5 h5;have qs:w5.cell? ⟨gs,1,none⟩=some (.int .i64 0):=Z0h h5 (by decide);have zs:=Z26 h5 1)
  have h6:Hold w0 (w5.setCell ⟨gs,1,none⟩ (.int .i64 ph)) (blkA 52 gs (stC 0 ph x.count a)*(blkA 52 gr #[.int .i64 0,.int .i64 0,.int .i64 0,.int .i64 0,.int .i64 0,.int .i64 0,.int .u64 0,.int .u64 0,.bool false]*(thA t c x*Q j))):=by
    have h7:=Z0u h5 (i:=1) (by decide) (.int .i64 ph)
    rw [Z5t (cs:=stC 0 ph x.count a) (by kernel_rfl)] at h7
    exact h7
  generalize hW:World.setCell _ _ _=W6 at h6 ⊢
  clear hW h4 h5 qs zs
  have p1:=(h6.blk).some_ (i:=1) rfl
  have HBB:=hid (HB.out _ j _ h6.join)
  have q2:=(h6.drop.drop).Zme
  rw [HX.out] at q2
  go_upto_region 13 with (refine HBB.out.mono ?_;rintro e w' ⟨rfl,rfl⟩)
  clear HBB p1 q2
  have h7:Hold w0 W6 (thA t c x*(Z0a (.slice A p.length cp) p*Q0 j)):=by rw [hQ] at h6;exact h6.drop.drop
  obtain ⟨gc,hA,hcap,-⟩:=h7.drop.codeAt HC.out.2.2
  subst hA
  have hkl:k < p.length:=(List.getElem?_eq_some_iff.1 HC.out.2.2).1
  replace h7:=h7.drew
  have hS:W6.drew.cell? ⟨t,31,none⟩=some (.slice (some ⟨gc,0,none⟩) p.length cp)∧W6.drew.cell? ⟨t,32,none⟩=some (.int .i64 (k:Int))∧CodeAt W6.drew gc k i:=by
    refine ⟨?_,?_,h7.drop.code HC.out.2.2⟩
    · have:=h7.th_code;rw [HC.out.1] at this;exact this
    · have:=h7.th_pc;rw [HC.out.2.1] at this;exact this
  have HS3:=hid hS
  have HNN:=hid (HN.out _ j _ h6.drew.join)
  clear hS h7 h6
  obtain ⟨q1,q2,q3,q4,q5,q6,q7⟩:=HS3.out
  clear HS3
  refine Z01 [] (by kernel_rfl) ?_
  refine' wbk [true,true,true,true,false,true,true,true,true] 96 trivial (fun wq hq=>?_) ?_;rotate_left
  · simp only [Z00]
    repeat (go_big_quiet_step (fail))
    exact wpQuiet_nil rfl
  refine Z0n [false,false,false,false,true] [false,false,false,false,false,false,false,false,false,true] (fuel:=4) (by rfl) (by rfl) (by rfl) (by rfl) (by kernel_rfl) (fun QB hQB hQX=>?_) (fun QB hQB hQX=>?_)
  · simp only [Z00]
    go_wp2_with fail
    refine hQB.out _ _ trivial ?_
    refine wbr [false,false,false,false,false,false,false,false,false,true] (fuel:=3) (fun QB hQB hQX=>?_)
    simp only [Z00]
    go_wp2_with fail
    refine hQB.out _ _ trivial ?_
    refine' wbk [false,false,false,false,false,false,false,false,false,false,true] 96 trivial (fun wq hq=>?_) ?_;rotate_left
    · simp only [Z00]
      repeat (go_big_quiet_step (fail))
      exact wpQuiet_nil rfl
    refine wbr [false,false,false,false,false,false,false,false,false,false,false,true] (fuel:=1) (fun QB hQB hQX=>?_)
    simp only [Z00]
    go_wp2_with fail
    refine hQB.out _ _ trivial ?_
    refine wbr [false,false,false,false,false,false,false,false,false,false,false,false,true] (fuel:=0) (fun QB hQB hQX=>?_)
    simp only [Z00]
    go_wp2_with fail
    refine HNN.out.mono ?_
    rintro e w8 ⟨j2,rfl,h8⟩
    replace h8:=h8.part
    go_wp2_with fail
    refine hQB.out _ _ trivial ?_
    clear hQB hQX QB HNN q1 q2 q3 q4 q5 q6 q7
    refine Z02 (by kernel_rfl) ?_ _
    go_wp2_with (first | (refine Z04 rfl 52 _ rfl gs _ _ rfl Tryz.isAgg52 _ Tryz.sizeOf52 h8.blk rfl ?_) | (refine Z03 rfl 52 _ _ rfl gr _ _ (stC 0 ph x.count a) rfl rfl _ Tryz.sizeOf52 h8.drop rfl rfl rfl ?_;intro w7 h11))
    have HF:Hid (AdPost w0 Q2 ph x.count a (.returned (.tuple #[stV 0 ph x.count a,.slice none 0 0])) w7):=hid ⟨j2,_,[],rfl,by decide,h11.drop.nilEv⟩
    exact bodyPost_ret (Z06 Tryz.results37 _ rfl Tryz.isAgg52 _ Tryz.sizeOf52 h11.blk rfl) rfl HF.out
  · simp only [Z00]
    go_wp2_with fail
    refine hQB.out _ _ trivial ?_
    refine wbr [false,false,false,false,true] (fuel:=3) (fun QB hQB hQX=>?_)
    simp only [Z00]
    go_wp2_with fail
    refine hQB.out _ _ trivial ?_
    refine' wbk [false,false,false,false,false,false,false,false,false,false,true] 96 trivial (fun wq hq=>?_) ?_;rotate_left
    · simp only [Z00]
      repeat (go_big_quiet_step (fail))
      exact wpQuiet_nil rfl
    refine wbr [false,false,false,false,false,false,false,false,false,false,false,true] (fuel:=1) (fun QB hQB hQX=>?_)
    simp only [Z00]
    go_wp2_with fail
    refine hQB.out _ _ trivial ?_
    refine wbr [false,false,false,false,false,false,false,false,false,false,false,false,true] (fuel:=0) (fun QB hQB hQX=>?_)
    simp only [Z00]
    go_wp2_with fail
    refine HNN.out.mono ?_
    rintro e w8 ⟨j2,rfl,h8⟩
    replace h8:=h8.part
    go_wp2_with fail
    refine hQB.out _ _ trivial ?_
    clear hQB hQX QB HNN q1 q2 q3 q4 q5 q6 q7
    refine Z02 (by kernel_rfl) ?_ _
    go_wp2_with (first | (refine Z04 rfl 52 _ rfl gs _ _ rfl Tryz.isAgg52 _ Tryz.sizeOf52 h8.blk rfl ?_) | (refine Z03 rfl 52 _ _ rfl gr _ _ (stC 0 ph x.count a) rfl rfl _ Tryz.sizeOf52 h8.drop rfl rfl rfl ?_;intro w7 h11))
    have HF:Hid (AdPost w0 Q2 ph x.count a (.returned (.tuple #[stV 0 ph x.count a,.slice none 0 0])) w7):=hid ⟨j2,_,[],rfl,by decide,h11.drop.nilEv⟩
    exact bodyPost_ret (Z06 Tryz.results37 _ rfl Tryz.isAgg52 _ Tryz.sizeOf52 h11.blk rfl) rfl HF.out
end
theorem Hold.oneEv {w0 w:World} {R:Asr} {v:Value} {e:EvR} (h:Hold w0 w (rowT 87 6 v 1 e.cells*(queA 3 e.rd (e.rs.map (Value.int .i64))*(queA 3 e.wr (e.ws.map (Value.int .i64))*R)))):Hold w0 w (evA v [e]*R):=by
  have h1:=h.imp (Imp.under _ ((Imp.assoc' _ _ _).trans (((Imp.under _ (Imp.Zmd _))).trans (Imp.assoc' _ _ _))))
  have h2:=h1.join
  have e1:[e].flatMap EvR.cells=e.cells:=by simp
  unfold evA
  rw [e1]
  exact h2
section
variable {w0 w:World} {R R':Asr} {t g n cp k:Nat} {c:Cfg} {x:ThR} {p:List InsR} {i:InsR} {A:Option Addr} {a:Acc} {ph att:Int} {m:Value}
set_option maxHeartbeats 4000000 in
theorem Z98 {ι:Type} {Q:ι→Asr} (h:Hold w0 w (thA t c x*R)) (ha:x.attempt=ptrV g)
    (hs:∀ F w',Hold w0 w' (F*(thA t c x*R))→Calls Tryz.prog 57 #[ptrV g,m] w' (APostX w0 (fun i=>F*(thA t c x*Q i)) a 3))
    (hb:∀ F i w',Hold w0 w' (F*(thA t c x*Q i))→Calls Tryz.prog 36 #[ptrV g] w' fun e w''=>e = .returned (.bool true)∧w'=w'') :
    Calls Tryz.prog 37 #[ptrV t,m] w (AdPost w0 (fun i=>thA t c x*Q i) 3 x.count a):=by
  have HX:=hid ha
  have HB:=hid hb
  have HS:=hid hs
  have H1:=hid (h.newBlk (t:=52) (cs:=#[.int .i64 0,.int .i64 0,.int .i64 0,.int .i64 0,.int .i64 0,.int .i64 0,.int .u64 0,.int .u64 0,.bool false]))
  clear h ha hs hb
  go_enter Tryz.func37,Tryz.ntmps37
  go_upto_region 1 with fail
  have h1:=H1.out
  generalize hW:w.alloc _=W at h1 ⊢
  generalize w.heap.size=gr at h1 ⊢
  clear hW H1
  have q1:=h1.drop.th_count
  have q2:=h1.drop.Zme
  rw [HX.out] at q2
  have H2:=hid (h1.newBlk (t:=52) (cs:=#[.int .i64 0,.int .i64 0,.int .i64 x.count,.int .i64 0,.int .i64 0,.int .i64 0,.int .u64 0,.int .u64 0,.bool false]))
  clear h1
  go_upto_region 2 with fail
  have h2:=H2.out
  generalize hW:W.alloc _=W2 at h2 ⊢
  generalize W.heap.size=gs at h2 ⊢
  clear hW H2 q1 q2
  have q2:=h2.drop.drop.Zme
  rw [HX.out] at q2
  have HS2:=hid (HS.out _ _ h2.join)
  clear h2
  go_wp2_with fail
  refine HS2.out.mono ?_
  rintro e w3 ⟨j,rfl,h3⟩
  replace h3:=h3.part
  have h4:Hold w0 w3 (fnA 52 gs 9 (stB x.count)*(blkA 52 gr #[.int .i64 0,.int .i64 0,.int .i64 0,.int .i64 0,.int .i64 0,.int .i64 0,.int .u64 0,.int .u64 0,.bool false]*(thA t c x*Q j))):=by
    rw [Z5t (cs:=#[.int .i64 0,.int .i64 0,.int .i64 x.count,.int .i64 0,.int .i64 0,.int .i64 0,.int .u64 0,.int .u64 0,.bool false]) (by kernel_rfl)]
    exact h3
  clear h3 HS2 q2
  go_upto_region 3 with (refine Z0o rfl 50 _ _ rfl gs 3 52 9 (stB x.count) (acD a) rfl rfl _ Tryz.sizeOf50 h4 rfl (by decide) rfl ?_;intro w5 h5;have qs:w5.cell? ⟨gs,1,none⟩=some (.int .i64 0):=Z0h h5 (by decide);have zs:=Z26 h5 1)
  have h6:Hold w0 (w5.setCell ⟨gs,1,none⟩ (.int .i64 3)) (blkA 52 gs (stC 0 3 x.count a)*(blkA 52 gr #[.int .i64 0,.int .i64 0,.int .i64 0,.int .i64 0,.int .i64 0,.int .i64 0,.int .u64 0,.int .u64 0,.bool false]*(thA t c x*Q j))):=by
    have h7:=Z0u h5 (i:=1) (by decide) (.int .i64 3)
    rw [Z5t (cs:=stC 0 3 x.count a) (by kernel_rfl)] at h7
    exact h7
  generalize hW:World.setCell _ _ _=W6 at h6 ⊢
  clear hW h4 h5 qs zs
  have p1:=(h6.blk).some_ (i:=1) rfl
  have q5:=(h6.drop.drop).th_id
  go_upto_region 12 with fail
  have h7:=h6.newRowS (e:=87) (size:=6) (cs:=#[.int .i64 0,.int .i64 x.id,.int .i64 3,.int .i64 0,.slice none 0 0,.slice none 0 0]) rfl
  generalize hW:W6.alloc _=W7 at h7 ⊢
  generalize W6.heap.size=ge at h7 ⊢
  clear hW p1 q5 h6
  have h8:=(h7.pk4 [1,2,0,3]).imp (Imp.under _ (Imp.under _ (Imp.refl _)))
  have HBB:=hid (HB.out _ j _ ((h7.pk4 [1,2,0,3]).join.join))
  have q2:=(h7.pk4 [3]).Zme
  rw [HX.out] at q2
  go_upto_region 14 with (refine HBB.out.mono ?_;rintro e w' ⟨rfl,rfl⟩)
  clear HBB q2
  go_wp2_with (first | (refine Z04 rfl 52 _ rfl gs _ _ rfl Tryz.isAgg52 _ Tryz.sizeOf52 h8.blk rfl ?_) | (refine Z03 rfl 52 _ _ rfl gr _ _ (stC 0 3 x.count a) rfl rfl _ Tryz.sizeOf52 h8.drop rfl rfl rfl ?_;intro w7 h11))
  have h12:Hold w0 w7 (rowT 87 6 (.slice (some ⟨ge,0,none⟩) 1 1) 1 (EvR.mk 0 x.id 3 0 (.slice none 0 0) (.slice none 0 0) [] [] EvR.none_).cells*(queA 3 (.slice none 0 0) []*(queA 3 (.slice none 0 0) []*(thA t c x*Q j)))):=((h11.drop.nilQue 3).nilQue 3).third
  have HF:Hid (AdPost w0 (fun i=>thA t c x*Q i) 3 x.count a (.returned (.tuple #[stV 0 3 x.count a,.slice (some ⟨ge,0,none⟩) 1 1])) w7):=hid ⟨j,_,[EvR.mk 0 x.id 3 0 (.slice none 0 0) (.slice none 0 0) [] [] EvR.none_],rfl,Nat.le_refl 1,h12.oneEv⟩
  exact bodyPost_ret (Z06 Tryz.results37 _ rfl Tryz.isAgg52 _ Tryz.sizeOf52 h11.blk rfl) rfl HF.out
set_option maxHeartbeats 4000000 in
theorem Z4l {ι:Type} {gl:ι→Nat} {Y:ι→AtR} {L:PL} {sn:List Int} {ns cs:Nat} {As:Option Addr} {Q0:ι→Asr} {Q:ι→Asr} (hQ:Q=fun i=>atA g c (Y i)*(lgA (gl i) L*(queA 3 (.slice As ns cs) (iL sn)*Q0 i))) (h:Hold w0 w (thA t c x*R)) (ha:x.attempt=ptrV g)
    (hs:∀ F w',Hold w0 w' (F*(thA t c x*R))→Calls Tryz.prog 57 #[ptrV g,m] w' (APostX w0 (fun i=>F*(thA t c x*Q i)) a 16))
    (hb:∀ F i w',Hold w0 w' (F*(thA t c x*Q i))→Calls Tryz.prog 36 #[ptrV g] w' fun e w''=>e = .returned (.bool true)∧w'=w'')
    (hY:∀ i,(Y i).log=gl i∧(Y i).seen = .slice As ns cs∧(Y i).decided=true∧(Y i).code=1) (hadr:∀ z ∈ L.addrs,0≤z∧z < c.words) (hcw:c.words≤64) (HL:Inv L) (hns:ns≤1000) :
    Calls Tryz.prog 37 #[ptrV t,m] w (AdPost w0 (fun i=>thA t c x*Q i) 16 x.count a):=by
  have HX:=hid ha
  have HB:=hid hb
  have HS:=hid hs
  have HY:=hid hY
  have H1:=hid (h.newBlk (t:=52) (cs:=#[.int .i64 0,.int .i64 0,.int .i64 0,.int .i64 0,.int .i64 0,.int .i64 0,.int .u64 0,.int .u64 0,.bool false]))
  clear h ha hs hb
  go_enter Tryz.func37,Tryz.ntmps37
  go_upto_region 1 with fail
  have h1:=H1.out
  generalize hW:w.alloc _=W at h1 ⊢
  generalize w.heap.size=gr at h1 ⊢
  clear hW H1
  have q1:=h1.drop.th_count
  have q2:=h1.drop.Zme
  rw [HX.out] at q2
  have H2:=hid (h1.newBlk (t:=52) (cs:=#[.int .i64 0,.int .i64 0,.int .i64 x.count,.int .i64 0,.int .i64 0,.int .i64 0,.int .u64 0,.int .u64 0,.bool false]))
  clear h1
  go_upto_region 2 with fail
  have h2:=H2.out
  generalize hW:W.alloc _=W2 at h2 ⊢
  generalize W.heap.size=gs at h2 ⊢
  clear hW H2 q1 q2
  have q2:=h2.drop.drop.Zme
  rw [HX.out] at q2
  have HS2:=hid (HS.out _ _ h2.join)
  clear h2
  go_wp2_with fail
  refine HS2.out.mono ?_
  rintro e w3 ⟨j,rfl,h3⟩
  replace h3:=h3.part
  have h4:Hold w0 w3 (fnA 52 gs 9 (stB x.count)*(blkA 52 gr #[.int .i64 0,.int .i64 0,.int .i64 0,.int .i64 0,.int .i64 0,.int .i64 0,.int .u64 0,.int .u64 0,.bool false]*(thA t c x*Q j))):=by
    rw [Z5t (cs:=#[.int .i64 0,.int .i64 0,.int .i64 x.count,.int .i64 0,.int .i64 0,.int .i64 0,.int .u64 0,.int .u64 0,.bool false]) (by kernel_rfl)]
    exact h3
  clear h3 HS2 q2
  go_upto_region 3 with (refine Z0o rfl 50 _ _ rfl gs 3 52 9 (stB x.count) (acD a) rfl rfl _ Tryz.sizeOf50 h4 rfl (by decide) rfl ?_;intro w5 h5;have qs:w5.cell? ⟨gs,1,none⟩=some (.int .i64 0):=Z0h h5 (by decide);have zs:=Z26 h5 1)
  have h6:Hold w0 (w5.setCell ⟨gs,1,none⟩ (.int .i64 16)) (blkA 52 gs (stC 0 16 x.count a)*(blkA 52 gr #[.int .i64 0,.int .i64 0,.int .i64 0,.int .i64 0,.int .i64 0,.int .i64 0,.int .u64 0,.int .u64 0,.bool false]*(thA t c x*Q j))):=by
    have h7:=Z0u h5 (i:=1) (by decide) (.int .i64 16)
    rw [Z5t (cs:=stC 0 16 x.count a) (by kernel_rfl)] at h7
    exact h7
  generalize hW:World.setCell _ _ _=W6 at h6 ⊢
  clear hW h4 h5 qs zs
  have p1:=(h6.blk).some_ (i:=1) rfl
  obtain ⟨y1,y2,y3,y4⟩:=HY.out j
  have q5:=(h6.drop.drop).th_id
  have q2:=(h6.drop.drop).Zme
  rw [HX.out] at q2
  have h7:Hold w0 W6 (atA g c (Y j)*(lgA (gl j) L*(queA 3 (.slice As ns cs) (iL sn)*(blkA 52 gs (stC 0 16 x.count a)*(blkA 52 gr #[.int .i64 0,.int .i64 0,.int .i64 0,.int .i64 0,.int .i64 0,.int .i64 0,.int .u64 0,.int .u64 0,.bool false]*(thA t c x*Q0 j)))))):=by
    rw [hQ] at h6
    exact h6.pk6 [3,4,5,0,1,2]
  have hd:=Za4 h7
  rw [y3] at hd
  have HD:=hid hd
  clear hd h6
  go_upto_region 8 with (refine HD.out.mono ?_;rintro e w' ⟨rfl,rfl⟩)
  clear HD q5 p1
  have h8:=h7.newBlk (t:=87) (cs:=#[.int .i64 0,.int .i64 x.id,.int .i64 4,.int .i64 0,.slice none 0 0,.slice none 0 0])
  generalize hW:W6.alloc _=W7 at h8 ⊢
  generalize W6.heap.size=ge at h8 ⊢
  clear hW h7
  have HW:=hid (at_words (h8.pk7 [1,2,3,0,4,5,6]) y1 y2 hadr hcw HL hns)
  clear q2
  have q2:=(h8.pk7 [6]).Zme
  rw [HX.out] at q2
  clear h8
  go_wp2_with fail
  refine HW.out.mono ?_
  rintro e w8 ⟨A2,c2,A3,c3,rfl,h9⟩
  clear HW q2
  have h10:Hold w0 w8 (blkA 87 ge #[.int .i64 0,.int .i64 x.id,.int .i64 4,.int .i64 0,.slice none 0 0,.slice none 0 0]*(queA 3 (.slice A2 ns c2) (iL sn)*(queA 3 (.slice A3 L.addrs.length c3) (iL L.addrs)*(atA g c (Y j)*(lgA (gl j) L*(queA 3 (.slice As ns cs) (iL sn)*(blkA 52 gs (stC 0 16 x.count a)*(blkA 52 gr #[.int .i64 0,.int .i64 0,.int .i64 0,.int .i64 0,.int .i64 0,.int .i64 0,.int .u64 0,.int .u64 0,.bool false]*(thA t c x*Q0 j))))))))):=h9.pk9 [5,0,1,2,3,4,6,7,8]
  clear h9
  have HEB:Hid (sn.length≤1000000∧L.addrs.length≤1000000):=hid (by
    obtain ⟨fp,hp⟩:=h10.drop.get
    have e:=(queReads hp).1
    have e2:(iL sn).length=sn.length:=List.length_map _
    have:=HL.le
    have:=HL.cap32
    exact ⟨by omega,by omega⟩)
  have p4:=h10.blk.some_ (i:=4) rfl
  have p5:=h10.blk.some_ (i:=5) rfl
  have z4:=h10.blk.frozen 4
  have z5:=h10.blk.frozen 5
  have H11:=hid ((h10.Zm7 4 (.slice A2 ns c2)).Zm7 5 (.slice A3 L.addrs.length c3))
  clear h10
  go_upto_region 9 with fail
  have h11:=H11.out
  generalize hW:World.setCell _ _ _=W9 at h11 ⊢
  clear hW H11 p4 p5 z4 z5
  replace h11:Hold w0 W9 (blkA 87 ge #[.int .i64 0,.int .i64 x.id,.int .i64 4,.int .i64 0,.slice A2 ns c2,.slice A3 L.addrs.length c3]*(queA 3 (.slice A2 ns c2) (iL sn)*(queA 3 (.slice A3 L.addrs.length c3) (iL L.addrs)*(atA g c (Y j)*(lgA (gl j) L*(queA 3 (.slice As ns cs) (iL sn)*(blkA 52 gs (stC 0 16 x.count a)*(blkA 52 gr #[.int .i64 0,.int .i64 0,.int .i64 0,.int .i64 0,.int .i64 0,.int .i64 0,.int .u64 0,.int .u64 0,.bool false]*(thA t c x*Q0 j))))))))):=h11
  have q2:=(h11.pk9 [8]).Zme
  rw [HX.out] at q2
  have hcd:=Z52 (h11.pk9 [3,0,1,2,4,5,6,7,8])
  rw [y4] at hcd
  have HC:=hid hcd
  clear hcd
  go_upto_region 11 with (refine HC.out.mono ?_;rintro e w' ⟨rfl,rfl⟩)
  have hbl:=h11.blk
  clear HC q2
  go_upto_region 12 with (refine Z04 rfl 87 _ rfl ge _ _ rfl Tryz.isAgg87 _ Tryz.sizeOf87 hbl rfl ?_)
  have h12:=h11.drop.newRowS (e:=87) (size:=6) (cs:=#[.int .i64 0,.int .i64 x.id,.int .i64 4,.int .i64 0,.slice A2 ns c2,.slice A3 L.addrs.length c3]) rfl
  generalize hW:W9.alloc _=W10 at h12 ⊢
  generalize W9.heap.size=gv at h12 ⊢
  clear hW hbl h11
  have h13:Hold w0 W10 (blkA 52 gs (stC 0 16 x.count a)*(blkA 52 gr #[.int .i64 0,.int .i64 0,.int .i64 0,.int .i64 0,.int .i64 0,.int .i64 0,.int .u64 0,.int .u64 0,.bool false]*(rowT 87 6 (.slice (some ⟨gv,0,none⟩) 1 1) 1 (EvR.mk 0 x.id 4 0 (.slice A2 ns c2) (.slice A3 L.addrs.length c3) sn L.addrs HEB.out).cells*(queA 3 (.slice A2 ns c2) (iL sn)*(queA 3 (.slice A3 L.addrs.length c3) (iL L.addrs)*(thA t c x*Q j)))))):=by
    rw [hQ]
    exact h12.pk9 [6,7,0,1,2,8,3,4,5]
  have HBB:=hid (HB.out _ j _ h13.join.join.join.join)
  have q2:=(h13.pk6 [5]).Zme
  rw [HX.out] at q2
  clear h12
  go_upto_region 14 with (refine HBB.out.mono ?_;rintro e w' ⟨rfl,rfl⟩)
  clear HBB q2
  go_wp2_with (first | (refine Z04 rfl 52 _ rfl gs _ _ rfl Tryz.isAgg52 _ Tryz.sizeOf52 h13.blk rfl ?_) | (refine Z03 rfl 52 _ _ rfl gr _ _ (stC 0 16 x.count a) rfl rfl _ Tryz.sizeOf52 h13.drop rfl rfl rfl ?_;intro w7 h14))
  have HF:Hid (AdPost w0 (fun i=>thA t c x*Q i) 16 x.count a (.returned (.tuple #[stV 0 16 x.count a,.slice (some ⟨gv,0,none⟩) 1 1])) w7):=hid ⟨j,_,[EvR.mk 0 x.id 4 0 (.slice A2 ns c2) (.slice A3 L.addrs.length c3) sn L.addrs HEB.out],rfl,Nat.le_refl 1,h14.drop.oneEv⟩
  exact bodyPost_ret (Z06 Tryz.results37 _ rfl Tryz.isAgg52 _ Tryz.sizeOf52 h14.blk rfl) rfl HF.out
end
end Go.Proofs.YtmlfangeanmmeaaGreatDoor
