/-
  What the proof of TopTransfers leans on, part 35 of 48: Tf, Tf2, Tg, Ti, Tj, Ua. No statement of its own.
-/
import Derived.Test.YtmlfangeanmmeaaGreatDoorTm25
import Derived.Test.YtmlfangeanmmeaaGreatDoorTm30
import Derived.Test.YtmlfangeanmmeaaGreatDoorTm31
import Derived.Test.YtmlfangeanmmeaaGreatDoorTm33
import Derived.Test.YtmlfangeanmmeaaGreatDoorTm34
namespace Go.Proofs.YtmlfangeanmmeaaGreatDoor
set_option maxRecDepth 8000
open Go.RowKit
set_option linter.unusedVariables false
section
variable {w0 w:World} {R R':Asr} {t g n cp k:Nat} {c:Cfg} {x:ThR} {y:AtR} {p:List InsR} {i:InsR} {A:Option Addr} {a:Acc} {ph att:Int} {m:Value} {seen obs:List ObR}
theorem Zfe (h:Hold w0 w (atA g c y*R)) (hf:y.frees = .slice none 0 0):Calls Tryz.prog 179 #[ptrV g] w fun e w'=>∃ A' c',e = .returned (.slice A' 0 c')∧Hold w0 w' (atA g c y*R):=by
  have q:=h.at_frees
  rw [hf] at q
  have HC:=hid (Z19 w none 0 0 0 [] (Reads.nil _ _) (Nat.zero_le _))
  have H:=hid h
  clear h hf
  go_enter Tryz.func179,Tryz.ntmps179
  go_wp2_with fail
  refine HC.out.mono ?_
  rintro e w2 ⟨A',c',rfl,_,hc⟩
  have H2:=hid (H.out.chg0 hc)
  clear HC H q hc
  go_wp2_with fail
  go_ret
  exact ⟨A',c',rfl,H2.out⟩
set_option maxHeartbeats 8000000 in
theorem Z7r {b:Nat} {sv ov:Value} (h:Hold w0 w (thA t c x*(atA g c y*(Z0a (.slice A p.length cp) p*(obsA sv seen*(obsA ov obs*R)))))) (ha:x.attempt=ptrV g) (hy:y.code=1) (hyf:y.frees = .slice none 0 0) (hcd:x.code = .slice A p.length cp) (hsv:x.seen=sv) (hov:x.obs=ov)
    (hb:x.begin_=(b:Int)) (hi:p[b]?=some i) (h7:i.op=7) (hp:ProgOk c p) (hF:FormsAt w0) (hl:seen.length≤1000∧obs.length≤1000) :
    Calls Tryz.prog 104 #[ptrV t] w fun e w'=>∃ ov',e = .returned (.tuple #[])∧Hold w0 w' (thA t c { x with attempt:=.pointer none,obs:=ov',tries:=0,outcome:=1,pc:=Z0j p (b:Int) + 1,done:=Z0j p (b:Int) + 1 == (p.length:Int) }*(Z0a (.slice A p.length cp) p*(obsA sv seen*(obsA ov' (obs++seen++[⟨(b:Int),3,1⟩])*R)))):=by
  obtain ⟨A1,c1,rfl⟩:=(h.pk5 [3]).Zmb
  obtain ⟨A2,c2,rfl⟩:=(h.pk5 [4]).Zmb
  have HX:=hid (And.intro ha (And.intro hcd (And.intro hsv (And.intro hov hb))))
  have HY:=hid (And.intro hy hyf)
  have HP:=hid (And.intro hi (And.intro h7 (And.intro hp hF)))
  have hq0:∀ w' R',Hold w0 w' (thA t c x*(atA g c y*R'))→w'.cell? ⟨t,0,none⟩=some (ptrV g)∧Calls Tryz.prog 60 #[ptrV g] w' fun e w''=>e = .returned (.int .i64 1)∧w''=w':=fun w' R' h=>by
    refine ⟨by have:=h.Zme;rw [ha] at this;exact this,?_⟩
    have:=Z52 h.swap
    rw [hy] at this
    exact this.mono fun e w'' h=>⟨h.1,h.2.symm⟩
  have HQ:=hid hq0
  replace h:=h.drew
  clear ha hcd hsv hov hb hy hyf hi h7 hp hF hq0
  go_enter Tryz.func104,Tryz.ntmps104
  go_upto_region 0 with fail
  refine Z01 [] (by kernel_rfl) ?_
  generalize hW:w.drew=W at h ⊢
  clear hW
  refine Z05 (fun w'=>w'.cell? ⟨t,0,none⟩=some (ptrV g)∧Calls Tryz.prog 60 #[ptrV g] w' fun e w''=>e = .returned (.int .i64 1)∧w''=w') (fun _ _=>trivial) _ _ _ _ ?_
  refine' wbk [true,true,true,true,true,true,true,true,true,true,true,true,true] 123 (HQ.out _ _ h) (fun wq hq=>?_) ?_;rotate_left
  · simp only [Z00]
    obtain ⟨q1,q2⟩:=hq
    repeat (first | go_big_quiet_step (fail) | (go_big_quiet_want;go_big_quiet_op;apply Exists.intro;refine ⟨?_,?_⟩;(exact q2);go_big_quiet_on))
    exact wpQuiet_nil rfl
  refine Z02 (by kernel_rfl) ?_ _
  have p1:=(HQ.out _ _ h).1
  have z1:=h.thZ 0
  have H2:=hid (h.th_attempt_set (.pointer none))
  clear h HQ
  go_upto_region 3 with fail
  have h2:=H2.out
  generalize hW:World.setCell _ _ _=W2 at h2 ⊢
  clear hW H2 p1 z1
  replace h2:=h2.drew
  obtain ⟨iO,hiO,zo0,zo1,zo2⟩:∃ i,Tryz.prog.info? 55=some i∧i.zero=some (.agg #[.int .i64 0,.int .i64 0,.int .u64 0])∧i.size=3∧i.bytes=24:=by
    have hi:=Z6d
    revert hi
    cases Tryz.prog.info? 55 with
    | none=>intro hi;cases hi
    | some i =>
      intro hi
      simp only [Option.map_some,Option.some.injEq,Prod.mk.injEq] at hi
      exact ⟨i,rfl,hi.1,hi.2.1,hi.2.2⟩
  have hS3:∀ w' R',Hold w0 w' (thA t c { x with attempt:=.pointer none }*R')→w'.cell? ⟨t,44,none⟩=some (.slice A2 obs.length c2)∧w'.cell? ⟨t,11,none⟩=some (.slice A1 seen.length c1):=fun w' R' h=>by
    have e1:=h.th_obs
    have e2:=h.th_seen
    rw [show ({ x with attempt:=.pointer none }:ThR).obs=x.obs from rfl,HX.out.2.2.2.1] at e1
    rw [show ({ x with attempt:=.pointer none }:ThR).seen=x.seen from rfl,HX.out.2.2.1] at e2
    exact ⟨e1,e2⟩
  have HS3:=hid hS3
  clear hS3
  refine Z01 [13] (by kernel_rfl) ?_
  generalize hW:W2.drew=W3 at h2 ⊢
  clear hW
  refine Z05 (fun w'=>w'.cell? ⟨t,44,none⟩=some (.slice A2 obs.length c2)∧w'.cell? ⟨t,11,none⟩=some (.slice A1 seen.length c1)) (fun _ _=>trivial) _ _ _ _ ?_
  refine' wbk [true,true,true,true,true,true,true,true,true,true] 123 (HS3.out _ _ h2) (fun wq hq=>?_) ?_;rotate_left
  · simp only [Z00]
    obtain ⟨q1,q2⟩:=hq
    repeat (go_big_quiet_step (fail))
    exact wpQuiet_nil rfl
  refine wbr [false,false,false,false,false,false,false,false,false,false,true] (fuel:=3) (fun QB hQB hQX=>?_)
  simp only [Z00]
  go_wp2_with (at_builtin;refine Z1f rfl _ _ 53 rfl 55 iO (.agg #[.int .i64 0,.int .i64 0,.int .u64 0]) 3 24 Tryz.underlying53 hiO zo0 zo1 zo2 rfl (by decide) (.slice A2 obs.length c2) obs.length (obL obs) (obL seen) rfl (h2.pk5 [4,0,1,2,3]) A1 seen.length c1 rfl (Zjs seen) (Hold.rowSrc (h2.pk5 [3]) (by decide)) (Zat seen) (by omega) (by decide) ?_)
  intro A3 c3 y4 h5
  have h3:=h5.pk5 [1,2,0,3,4]
  clear h5 h2
  go_wp2_with fail
  refine hQB.out _ _ (HS3.out _ _ h3) ?_
  clear hQB hQX QB
  refine' wbt [false,false,false,false,false,false,false,false,false,false,false,true,true] 123 (HS3.out _ _ h3) (fun wq _=>?_) ?_;rotate_left
  · simp only [Z00]
    repeat (go_big_quiet_step (fail))
    exact wpQuiet_nil rfl
  refine wbb [false,false,false,false,false,false,false,false,false,false,false,false,false,true] (fuel:=0) (fun QB hQB hQX=>?_)
  simp only [Z00]
  have p1:=(HS3.out _ _ h3).1
  have z1:=h3.thZ 44
  have H4:=hid (h3.th_obs_set (.slice A3 (obs.length + seen.length) c3))
  clear h3
  go_wp2_with fail
  refine hQB.out _ _ ?_
  clear hQB hQX QB p1 z1 HS3
  refine Z07 (by kernel_rfl) ?_
  refine Z02 (by kernel_rfl) ?_ _
  have h5:=H4.out
  generalize hW:World.setCell _ _ _=W4 at h5 ⊢
  clear hW H4
  replace h5:Hold w0 W4 (thA t c { x with attempt:=.pointer none,obs:=.slice A3 (obs.length + seen.length) c3 }*(atA g c y*(rowT 55 3 (.slice A3 (obs.length + seen.length) c3) (obs.length + seen.length) (obL obs++obL seen)*(Z0a (.slice A p.length cp) p*(obsA (.slice A1 seen.length c1) seen*R))))):=h5
  have HFr:=hid (Zfe h5.swap HY.out.2)
  clear h5
  go_wp2_with fail
  refine HFr.out.mono ?_
  rintro e w5 ⟨A6,c6,rfl,h6⟩
  clear HFr
  have p1:=h6.drop.th_tries
  have z1:=h6.drop.thZ 10
  have p2:=h6.drop.th_outcome
  have z2:=h6.drop.thZ 41
  have H7:=hid (((h6.drop).th_tries_set 0).th_outcome_set 1)
  clear h6
  go_upto_region 13 with fail
  have h7:=H7.out
  generalize hW:World.setCell _ _ _=W7 at h7 ⊢
  clear hW H7 p1 z1 p2 z2
  replace h7:Hold w0 W7 (thA t c { x with attempt:=.pointer none,obs:=.slice A3 (obs.length + seen.length) c3,tries:=0,outcome:=1 }*(rowT 55 3 (.slice A3 (obs.length + seen.length) c3) (obs.length + seen.length) (obL obs++obL seen)*(Z0a (.slice A p.length cp) p*(obsA (.slice A1 seen.length c1) seen*R)))):=h7
  replace h7:=h7.drew
  have hS4:∀ w' R',Hold w0 w' (thA t c { x with attempt:=.pointer none,obs:=.slice A3 (obs.length + seen.length) c3,tries:=0,outcome:=1 }*R')→w'.cell? ⟨t,44,none⟩=some (.slice A3 (obs.length + seen.length) c3)∧w'.cell? ⟨t,1,none⟩=some (.int .i64 (b:Int)):=fun w' R' h=>by
    have e1:=h.th_obs
    have e2:=h.th_begin_
    rw [show ({ x with attempt:=.pointer none,obs:=.slice A3 (obs.length + seen.length) c3,tries:=0,outcome:=1 }:ThR).begin_=x.begin_ from rfl,HX.out.2.2.2.2] at e2
    exact ⟨e1,e2⟩
  have HS4:=hid hS4
  clear hS4
  refine Z01 [17] (by kernel_rfl) ?_
  generalize hW:W7.drew=W8 at h7 ⊢
  clear hW
  refine Z05 (fun w'=>w'.cell? ⟨t,44,none⟩=some (.slice A3 (obs.length + seen.length) c3)∧w'.cell? ⟨t,1,none⟩=some (.int .i64 (b:Int))) (fun _ _=>trivial) _ _ _ _ ?_
  refine' wbk [true,true,true,true,true,true,true,true,true,true,true,true,true] 123 (HS4.out _ _ h7) (fun wq hq=>?_) ?_;rotate_left
  · simp only [Z00]
    obtain ⟨q1,q2⟩:=hq
    repeat (go_big_quiet_step (fail))
    exact wpQuiet_nil rfl
  refine wbr [false,false,false,false,false,false,false,false,false,false,false,false,false,true] (fuel:=4) (fun QB hQB hQX=>?_)
  simp only [Z00]
  go_wp2_with fail
  refine hQB.out _ _ (HS4.out _ _ (h7.alloc _)) ?_
  clear hQB hQX QB
  refine wbr [false,false,false,false,false,false,false,false,false,false,false,false,false,false,true] (fuel:=3) (fun QB hQB hQX=>?_)
  simp only [Z00]
  go_wp2_with (at_builtin;refine Z1o rfl _ _ 53 rfl 55 iO (.agg #[.int .i64 0,.int .i64 0,.int .u64 0]) 3 24 Tryz.underlying53 hiO zo0 zo1 zo2 rfl (by decide) (.slice A3 (obs.length + seen.length) c3) (obs.length + seen.length) (obL obs++obL seen) [.int .i64 (b:Int),.int .i64 3,.int .u64 1] _ rfl (h7.pk4 [1,0,2,3]) _ rfl rfl rfl rfl (by omega) (by decide) ?_)
  intro A9 c9 y9 h9
  have h8:=h9.pk4 [1,2,3,0]
  clear h9 h7
  go_wp2_with fail
  refine hQB.out _ _ (HS4.out _ _ h8) ?_
  clear hQB hQX QB
  refine' wbt [false,false,false,false,false,false,false,false,false,false,false,false,false,false,false,true,true] 123 (HS4.out _ _ h8) (fun wq _=>?_) ?_;rotate_left
  · simp only [Z00]
    repeat (go_big_quiet_step (fail))
    exact wpQuiet_nil rfl
  refine wbb [false,false,false,false,false,false,false,false,false,false,false,false,false,false,false,false,false,true] (fuel:=0) (fun QB hQB hQX=>?_)
  simp only [Z00]
  have p1:=(HS4.out _ _ h8).1
  have z1:=h8.thZ 44
  have H9:=hid (h8.th_obs_set (.slice A9 (obs.length + seen.length + 1) c9))
  clear h8
  go_wp2_with fail
  refine hQB.out _ _ ?_
  clear hQB hQX QB p1 z1 HS4
  refine Z07 (by kernel_rfl) ?_
  refine Z02 (by kernel_rfl) ?_ _
  go_upto_region 14 with fail
  have h9:=H9.out
  generalize hW:World.setCell _ _ _=W9 at h9 ⊢
  clear hW H9
  replace h9:Hold w0 W9 (thA t c { x with attempt:=.pointer none,obs:=.slice A9 (obs.length + seen.length + 1) c9,tries:=0,outcome:=1 }*(Z0a (.slice A p.length cp) p*(obsA (.slice A1 seen.length c1) seen*(obsA (.slice A9 (obs.length + seen.length + 1) c9) (obs++seen++[⟨(b:Int),3,1⟩])*R)))):=by
    have e1:obL obs++obL seen++[Value.int .i64 (b:Int),Value.int .i64 3,Value.int .u64 1]=obL (obs++seen++[⟨(b:Int),3,1⟩]):=by unfold obL;simp
    have e2:(obs++seen++[(⟨(b:Int),3,1⟩:ObR)]).length=obs.length + seen.length + 1:=by simp;omega
    show Hold w0 W9 (_*(_*(_*(rowT 55 3 _ (obs++seen++[(⟨(b:Int),3,1⟩:ObR)]).length (obL (obs++seen++[⟨(b:Int),3,1⟩]))*R))))
    rw [e2,← e1,List.append_assoc]
    exact h9
  replace h9:=h9.drew
  have hS5:∀ w' pc0 dn0 R',Hold w0 w' (thA t c { x with attempt:=.pointer none,obs:=.slice A9 (obs.length + seen.length + 1) c9,tries:=0,outcome:=1,pc:=pc0,done:=dn0 }*R')→w'.cell? ⟨t,31,none⟩=some (.slice A p.length cp)∧w'.cell? ⟨t,1,none⟩=some (.int .i64 (b:Int)):=fun w' pc0 dn0 R' h=>by
    have e1:=h.th_code
    have e2:=h.th_begin_
    rw [show ({ x with attempt:=.pointer none,obs:=.slice A9 (obs.length + seen.length + 1) c9,tries:=0,outcome:=1,pc:=pc0,done:=dn0 }:ThR).begin_=x.begin_ from rfl,HX.out.2.2.2.2] at e2
    rw [show ({ x with attempt:=.pointer none,obs:=.slice A9 (obs.length + seen.length + 1) c9,tries:=0,outcome:=1,pc:=pc0,done:=dn0 }:ThR).code=x.code from rfl,HX.out.2.1] at e1
    exact ⟨e1,e2⟩
  have HS5:=hid hS5
  clear hS5
  have HCm:=hid (Z9h HP.out.2.2.2 h9.swap HP.out.2.2.1 HP.out.1 HP.out.2.1)
  obtain ⟨cm,hcm⟩:∃ cm,cm=Z0j p (b:Int):=⟨_,rfl⟩
  have hcr:0≤cm∧cm≤64:=by
    obtain ⟨j,hj,_,_,_,hle⟩:=Z3b HP.out.2.2.1 (b:=(b:Int)) (Int.natCast_nonneg b) (by rw [show (b:Int).toNat=b by omega];exact HP.out.1) HP.out.2.1
    have:=HP.out.2.2.1.len
    rw [hcm]
    rw [hj]
    omega
  rw [← hcm] at HCm
  have HCE:=hid hcm
  clear hcm
  refine Z01 [] (by kernel_rfl) ?_
  generalize hW:W9.drew=W10 at h9 HCm ⊢
  clear hW
  refine Z05 (fun w'=>w'.cell? ⟨t,31,none⟩=some (.slice A p.length cp)∧w'.cell? ⟨t,1,none⟩=some (.int .i64 (b:Int))) (fun _ _=>trivial) _ _ _ _ ?_
  refine' wbk [true,true,true,true,true,true,true,true,true,true] 123 (HS5.out _ x.pc x.done _ h9) (fun wq hq=>?_) ?_;rotate_left
  · simp only [Z00]
    obtain ⟨q1,q2⟩:=hq
    repeat (go_big_quiet_step (fail))
    exact wpQuiet_nil rfl
  refine wbr [false,false,false,false,false,false,false,false,false,false,true] (fuel:=2) (fun QB hQB hQX=>?_)
  simp only [Z00]
  go_wp2_with fail
  refine HCm.out.mono ?_
  rintro e w11 ⟨rfl,h10⟩
  have h11:=h10.swap
  clear h10 h9
  go_wp2_with fail
  refine hQB.out _ _ (HS5.out _ x.pc x.done _ h11) ?_
  clear hQB hQX QB HCm
  refine' wbk [false,false,false,false,false,false,false,false,false,false,false,true] 123 (HS5.out _ x.pc x.done _ h11) (fun wq hq=>?_) ?_;rotate_left
  · simp only [Z00]
    repeat (go_big_quiet_step (fail))
    exact wpQuiet_nil rfl
  refine wbr [false,false,false,false,false,false,false,false,false,false,false,false,true] (fuel:=0) (fun QB hQB hQX=>?_)
  simp only [Z00]
  go_wp2_with fail
  refine (Z7p (n:=p.length) (cp:=cp) (A:=A) h11 HX.out.2.1).mono ?_
  rintro e w12 ⟨rfl,h12⟩
  clear h11
  go_wp2_with fail
  refine hQB.out _ _ (HS5.out _ (cm + 1) (cm + 1 == (p.length:Int)) _ h12) ?_
  clear hQB hQX QB HS5
  refine Z02 (by kernel_rfl) ?_ _
  rw [HCE.out] at h12
  have H12:=hid h12
  clear h12
  go_wp2_with fail
  go_end0
  exact ⟨_,rfl,H12.out⟩
end
section
variable {w0 w:World} {R R':Asr} {t g n cp k:Nat} {c:Cfg} {x:ThR} {y:AtR} {p:List InsR} {i:InsR} {A:Option Addr} {a:Acc} {ph att:Int} {m:Value} {seen obs:List ObR}
set_option maxHeartbeats 8000000 in
theorem Z96 {b:Nat} {sv ov:Value} (h:Hold w0 w (thA t c x*(atA g c y*(Z0a (.slice A p.length cp) p*(obsA sv seen*(obsA ov obs*R)))))) (ha:x.attempt=ptrV g) (hy:y.code=9) (hyf:y.frees = .slice none 0 0) (hcd:x.code = .slice A p.length cp) (hsv:x.seen=sv) (hov:x.obs=ov)
    (hb:x.begin_=(b:Int)) (hi:p[b]?=some i) (h7:i.op=7) (hp:ProgOk c p) (hF:FormsAt w0) (htr:x.tries < i.imm) (hl:seen.length≤1000∧obs.length≤1000) :
    Calls Tryz.prog 104 #[ptrV t] w fun e w'=>e = .returned (.tuple #[])∧Hold w0 w' (thA t c { x with attempt:=.pointer none,regs:=x.saved,pc:=(b:Int),done:=(b:Int) == (p.length:Int) }*(Z0a (.slice A p.length cp) p*(obsA sv seen*(obsA ov obs*R)))):=by
  obtain ⟨A1,c1,rfl⟩:=(h.pk5 [3]).Zmb
  obtain ⟨A2,c2,rfl⟩:=(h.pk5 [4]).Zmb
  have HX:=hid (And.intro ha (And.intro hcd (And.intro hsv (And.intro hov hb))))
  have HY:=hid (And.intro hy hyf)
  have HP:=hid (And.intro hi (And.intro h7 (And.intro hp hF)))
  have hq0:∀ w' R',Hold w0 w' (thA t c x*(atA g c y*R'))→w'.cell? ⟨t,0,none⟩=some (ptrV g)∧Calls Tryz.prog 60 #[ptrV g] w' fun e w''=>e = .returned (.int .i64 9)∧w''=w':=fun w' R' h=>by
    refine ⟨by have:=h.Zme;rw [ha] at this;exact this,?_⟩
    have:=Z52 h.swap
    rw [hy] at this
    exact this.mono fun e w'' h=>⟨h.1,h.2.symm⟩
  have HQ:=hid hq0
  replace h:=h.drew
  clear ha hcd hsv hov hb hy hyf hi h7 hp hF hq0
  go_enter Tryz.func104,Tryz.ntmps104
  go_upto_region 0 with fail
  refine Z01 [] (by kernel_rfl) ?_
  generalize hW:w.drew=W at h ⊢
  clear hW
  refine Z05 (fun w'=>w'.cell? ⟨t,0,none⟩=some (ptrV g)∧Calls Tryz.prog 60 #[ptrV g] w' fun e w''=>e = .returned (.int .i64 9)∧w''=w') (fun _ _=>trivial) _ _ _ _ ?_
  refine' wbk [true,true,true,true,true,true,true,true,true,true,true,true,true] 123 (HQ.out _ _ h) (fun wq hq=>?_) ?_;rotate_left
  · simp only [Z00]
    obtain ⟨q1,q2⟩:=hq
    repeat (first | go_big_quiet_step (fail) | (go_big_quiet_want;go_big_quiet_op;apply Exists.intro;refine ⟨?_,?_⟩;(exact q2);go_big_quiet_on))
    exact wpQuiet_nil rfl
  refine Z02 (by kernel_rfl) ?_ _
  have p1:=(HQ.out _ _ h).1
  have z1:=h.thZ 0
  have H2:=hid (h.th_attempt_set (.pointer none))
  clear h HQ
  have h2:=H2.out
  obtain ⟨gc,hA,hcap,-⟩:=(h2.pk5 [2]).codeAt HP.out.1
  subst hA
  have hbl:b < p.length:=(List.getElem?_eq_some_iff.1 HP.out.1).1
  clear h2
  go_upto_region 7 with fail
  have h2:=H2.out
  generalize hW:World.setCell _ _ _=W2 at h2 ⊢
  clear hW H2 p1 z1
  have hfn:Hold w0 W2 (fnA 116 t 46 (thF c { x with attempt:=.pointer none })*(atA g c y*(Z0a (.slice (some ⟨gc,0,none⟩) p.length cp) p*(obsA (.slice A1 seen.length c1) seen*(obsA (.slice A2 obs.length c2) obs*R))))):=h2
  go_upto_region 8 with (first | (refine Z0s rfl 61 _ rfl t 2 116 46 _ #[.int .u64 (x.saved 0),.int .u64 (x.saved 1),.int .u64 (x.saved 2),.int .u64 (x.saved 3),.int .u64 (x.saved 4),.int .u64 (x.saved 5),.int .u64 (x.saved 6),.int .u64 (x.saved 7)] rfl Tryz.isAgg61 8 Tryz.sizeOf61 hfn rfl (by decide) ?_) | (refine Z0o rfl 61 _ _ rfl t 33 116 46 _ #[.int .u64 (x.saved 0),.int .u64 (x.saved 1),.int .u64 (x.saved 2),.int .u64 (x.saved 3),.int .u64 (x.saved 4),.int .u64 (x.saved 5),.int .u64 (x.saved 6),.int .u64 (x.saved 7)] rfl rfl _ Tryz.sizeOf61 hfn rfl (by decide) rfl ?_;intro w5 h5))
  clear hfn h2
  have h6:Hold w0 w5 (thA t c { x with attempt:=.pointer none,regs:=x.saved }*(atA g c y*(Z0a (.slice (some ⟨gc,0,none⟩) p.length cp) p*(obsA (.slice A1 seen.length c1) seen*(obsA (.slice A2 obs.length c2) obs*R))))):=h5.Zmm (by kernel_rfl)
  clear h5
  go_upto_region 9 with fail
  replace h6:=h6.drew
  obtain ⟨ti,hti⟩:∃ ti,ti=x.tries:=⟨_,rfl⟩
  obtain ⟨im,him⟩:∃ im,im=i.imm:=⟨_,rfl⟩
  rw [← hti,← him] at htr
  have hS3:∀ w' R',Hold w0 w' (thA t c { x with attempt:=.pointer none,regs:=x.saved }*(atA g c y*(Z0a (.slice (some ⟨gc,0,none⟩) p.length cp) p*R')))→w'.cell? ⟨t,10,none⟩=some (.int .i64 ti)∧w'.cell? ⟨t,31,none⟩=some (.slice (some ⟨gc,0,none⟩) p.length cp)∧w'.cell? ⟨t,1,none⟩=some (.int .i64 (b:Int))∧w'.cell? ⟨gc,b*5 + 4,none⟩=some (.int .i64 im):=fun w' R' h=>by
    have e1:=h.th_tries
    rw [show ({ x with attempt:=.pointer none,regs:=x.saved }:ThR).tries=x.tries from rfl,← hti] at e1
    have e2:=h.th_begin_
    have e3:=h.th_code
    rw [show ({ x with attempt:=.pointer none,regs:=x.saved }:ThR).begin_=x.begin_ from rfl,HX.out.2.2.2.2] at e2
    rw [show ({ x with attempt:=.pointer none,regs:=x.saved }:ThR).code=x.code from rfl,HX.out.2.1] at e3
    exact ⟨e1,e3,e2,by rw [him];exact ((h.pk3 [2]).code HP.out.1).c4⟩
  have HS3:=hid hS3
  clear hS3
  have ET:decide (ti < im)=true:=decide_eq_true htr
  clear hti him htr
  refine Z01 [] (by kernel_rfl) ?_
  generalize hW:w5.drew=W6 at h6 ⊢
  clear hW
  refine Z05 (fun w'=>w'.cell? ⟨t,10,none⟩=some (.int .i64 ti)∧w'.cell? ⟨t,31,none⟩=some (.slice (some ⟨gc,0,none⟩) p.length cp)∧w'.cell? ⟨t,1,none⟩=some (.int .i64 (b:Int))∧w'.cell? ⟨gc,b*5 + 4,none⟩=some (.int .i64 im)) (fun _ _=>trivial) _ _ _ _ ?_
  refine' wbk [true,true,true,true,true,true,true,true,true,true,true,true,true,true,true,true,true,true] 123 (HS3.out _ _ h6) (fun wq hq=>?_) ?_;rotate_left
  · simp only [Z00]
    obtain ⟨q1,q2,q3,q4⟩:=hq
    repeat (go_big_quiet_step (fail))
    exact wpQuiet_nil rfl
  refine Z02 (by kernel_rfl) ?_ _
  clear HS3
  have p1:=h6.th_begin_
  rw [show ({ x with attempt:=.pointer none,regs:=x.saved }:ThR).begin_=x.begin_ from rfl,HX.out.2.2.2.2] at p1
  have HT:=hid (Z7p (n:=p.length) (cp:=cp) (A:=some ⟨gc,0,none⟩) (p:=(b:Int)) h6 HX.out.2.1)
  clear h6
  go_wp2_with fail
  refine HT.out.mono ?_
  rintro e w7 ⟨rfl,h7⟩
  have H7:=hid (h7.pk5 [0,2,3,4])
  clear h7 HT p1
  go_wp2_with fail
  refine bodyPost_ret (results_none rfl _ _ _) rfl ?_
  exact ⟨rfl,H7.out⟩
set_option maxHeartbeats 8000000 in
theorem Zag {b:Nat} {sv ov:Value} (h:Hold w0 w (thA t c x*(atA g c y*(Z0a (.slice A p.length cp) p*(obsA sv seen*(obsA ov obs*R)))))) (ha:x.attempt=ptrV g) (hy:y.code=9) (hyf:y.frees = .slice none 0 0) (hcd:x.code = .slice A p.length cp) (hsv:x.seen=sv) (hov:x.obs=ov)
    (hb:x.begin_=(b:Int)) (hi:p[b]?=some i) (h7:i.op=7) (hp:ProgOk c p) (hF:FormsAt w0) (htr:i.imm≤x.tries) (hl:seen.length≤1000∧obs.length≤1000) :
    Calls Tryz.prog 104 #[ptrV t] w fun e w'=>∃ ov',e = .returned (.tuple #[])∧Hold w0 w' (thA t c { x with attempt:=.pointer none,regs:=x.saved,obs:=ov',tries:=0,outcome:=5,pc:=Z0j p (b:Int) + 1,done:=Z0j p (b:Int) + 1 == (p.length:Int) }*(Z0a (.slice A p.length cp) p*(obsA sv seen*(obsA ov' (obs++[⟨(b:Int),3,5⟩])*R)))):=by
  obtain ⟨A1,c1,rfl⟩:=(h.pk5 [3]).Zmb
  obtain ⟨A2,c2,rfl⟩:=(h.pk5 [4]).Zmb
  have HX:=hid (And.intro ha (And.intro hcd (And.intro hsv (And.intro hov hb))))
  have HY:=hid (And.intro hy hyf)
  have HP:=hid (And.intro hi (And.intro h7 (And.intro hp hF)))
  have hq0:∀ w' R',Hold w0 w' (thA t c x*(atA g c y*R'))→w'.cell? ⟨t,0,none⟩=some (ptrV g)∧Calls Tryz.prog 60 #[ptrV g] w' fun e w''=>e = .returned (.int .i64 9)∧w''=w':=fun w' R' h=>by
    refine ⟨by have:=h.Zme;rw [ha] at this;exact this,?_⟩
    have:=Z52 h.swap
    rw [hy] at this
    exact this.mono fun e w'' h=>⟨h.1,h.2.symm⟩
  have HQ:=hid hq0
  replace h:=h.drew
  clear ha hcd hsv hov hb hy hyf hi h7 hp hF hq0
  go_enter Tryz.func104,Tryz.ntmps104
  go_upto_region 0 with fail
  refine Z01 [] (by kernel_rfl) ?_
  generalize hW:w.drew=W at h ⊢
  clear hW
  refine Z05 (fun w'=>w'.cell? ⟨t,0,none⟩=some (ptrV g)∧Calls Tryz.prog 60 #[ptrV g] w' fun e w''=>e = .returned (.int .i64 9)∧w''=w') (fun _ _=>trivial) _ _ _ _ ?_
  refine' wbk [true,true,true,true,true,true,true,true,true,true,true,true,true] 123 (HQ.out _ _ h) (fun wq hq=>?_) ?_;rotate_left
  · simp only [Z00]
    obtain ⟨q1,q2⟩:=hq
    repeat (first | go_big_quiet_step (fail) | (go_big_quiet_want;go_big_quiet_op;apply Exists.intro;refine ⟨?_,?_⟩;(exact q2);go_big_quiet_on))
    exact wpQuiet_nil rfl
  refine Z02 (by kernel_rfl) ?_ _
  have p1:=(HQ.out _ _ h).1
  have z1:=h.thZ 0
  have H2:=hid (h.th_attempt_set (.pointer none))
  clear h HQ
  have h2:=H2.out
  obtain ⟨gc,hA,hcap,-⟩:=(h2.pk5 [2]).codeAt HP.out.1
  subst hA
  have hbl:b < p.length:=(List.getElem?_eq_some_iff.1 HP.out.1).1
  clear h2
  go_upto_region 7 with fail
  have h2:=H2.out
  generalize hW:World.setCell _ _ _=W2 at h2 ⊢
  clear hW H2 p1 z1
  have hfn:Hold w0 W2 (fnA 116 t 46 (thF c { x with attempt:=.pointer none })*(atA g c y*(Z0a (.slice (some ⟨gc,0,none⟩) p.length cp) p*(obsA (.slice A1 seen.length c1) seen*(obsA (.slice A2 obs.length c2) obs*R))))):=h2
  go_upto_region 8 with (first | (refine Z0s rfl 61 _ rfl t 2 116 46 _ #[.int .u64 (x.saved 0),.int .u64 (x.saved 1),.int .u64 (x.saved 2),.int .u64 (x.saved 3),.int .u64 (x.saved 4),.int .u64 (x.saved 5),.int .u64 (x.saved 6),.int .u64 (x.saved 7)] rfl Tryz.isAgg61 8 Tryz.sizeOf61 hfn rfl (by decide) ?_) | (refine Z0o rfl 61 _ _ rfl t 33 116 46 _ #[.int .u64 (x.saved 0),.int .u64 (x.saved 1),.int .u64 (x.saved 2),.int .u64 (x.saved 3),.int .u64 (x.saved 4),.int .u64 (x.saved 5),.int .u64 (x.saved 6),.int .u64 (x.saved 7)] rfl rfl _ Tryz.sizeOf61 hfn rfl (by decide) rfl ?_;intro w5 h5))
  clear hfn h2
  have h6:Hold w0 w5 (thA t c { x with attempt:=.pointer none,regs:=x.saved }*(atA g c y*(Z0a (.slice (some ⟨gc,0,none⟩) p.length cp) p*(obsA (.slice A1 seen.length c1) seen*(obsA (.slice A2 obs.length c2) obs*R))))):=h5.Zmm (by kernel_rfl)
  clear h5
  go_upto_region 9 with fail
  replace h6:=h6.drew
  obtain ⟨ti,hti⟩:∃ ti,ti=x.tries:=⟨_,rfl⟩
  obtain ⟨im,him⟩:∃ im,im=i.imm:=⟨_,rfl⟩
  rw [← hti,← him] at htr
  have hS3:∀ w' R',Hold w0 w' (thA t c { x with attempt:=.pointer none,regs:=x.saved }*(atA g c y*(Z0a (.slice (some ⟨gc,0,none⟩) p.length cp) p*R')))→w'.cell? ⟨t,10,none⟩=some (.int .i64 ti)∧w'.cell? ⟨t,31,none⟩=some (.slice (some ⟨gc,0,none⟩) p.length cp)∧w'.cell? ⟨t,1,none⟩=some (.int .i64 (b:Int))∧w'.cell? ⟨gc,b*5 + 4,none⟩=some (.int .i64 im):=fun w' R' h=>by
    have e1:=h.th_tries
    rw [show ({ x with attempt:=.pointer none,regs:=x.saved }:ThR).tries=x.tries from rfl,← hti] at e1
    have e2:=h.th_begin_
    have e3:=h.th_code
    rw [show ({ x with attempt:=.pointer none,regs:=x.saved }:ThR).begin_=x.begin_ from rfl,HX.out.2.2.2.2] at e2
    rw [show ({ x with attempt:=.pointer none,regs:=x.saved }:ThR).code=x.code from rfl,HX.out.2.1] at e3
    exact ⟨e1,e3,e2,by rw [him];exact ((h.pk3 [2]).code HP.out.1).c4⟩
  have HS3:=hid hS3
  clear hS3
  have ET:decide (ti < im)=false:=decide_eq_false (by omega)
  clear hti him htr
  refine Z01 [] (by kernel_rfl) ?_
  generalize hW:w5.drew=W6 at h6 ⊢
  clear hW
  refine Z05 (fun w'=>w'.cell? ⟨t,10,none⟩=some (.int .i64 ti)∧w'.cell? ⟨t,31,none⟩=some (.slice (some ⟨gc,0,none⟩) p.length cp)∧w'.cell? ⟨t,1,none⟩=some (.int .i64 (b:Int))∧w'.cell? ⟨gc,b*5 + 4,none⟩=some (.int .i64 im)) (fun _ _=>trivial) _ _ _ _ ?_
  refine' wbk [true,true,true,true,true,true,true,true,true,true,true,true,true,true,true,true,true,true] 123 (HS3.out _ _ h6) (fun wq hq=>?_) ?_;rotate_left
  · simp only [Z00]
    obtain ⟨q1,q2,q3,q4⟩:=hq
    repeat (go_big_quiet_step (fail))
    exact wpQuiet_nil rfl
  refine Z02 (by kernel_rfl) ?_ _
  clear HS3
  obtain ⟨iO,hiO,zo0,zo1,zo2⟩:∃ i,Tryz.prog.info? 55=some i∧i.zero=some (.agg #[.int .i64 0,.int .i64 0,.int .u64 0])∧i.size=3∧i.bytes=24:=by
    have hi:=Z6d
    revert hi
    cases Tryz.prog.info? 55 with
    | none=>intro hi;cases hi
    | some i =>
      intro hi
      simp only [Option.map_some,Option.some.injEq,Prod.mk.injEq] at hi
      exact ⟨i,rfl,hi.1,hi.2.1,hi.2.2⟩
  have p1:=h6.th_tries
  have z1:=h6.thZ 10
  have p2:=h6.th_outcome
  have z2:=h6.thZ 41
  have H7:=hid (((h6).th_tries_set 0).th_outcome_set 5)
  clear h6
  go_upto_region 13 with fail
  have h7:=H7.out
  generalize hW:World.setCell _ _ _=W7 at h7 ⊢
  clear hW H7 p1 z1 p2 z2
  replace h7:Hold w0 W7 (thA t c { x with attempt:=.pointer none,regs:=x.saved,tries:=0,outcome:=5 }*(rowT 55 3 (.slice A2 obs.length c2) obs.length (obL obs)*(Z0a (.slice (some ⟨gc,0,none⟩) p.length cp) p*(obsA (.slice A1 seen.length c1) seen*R)))):=h7.pk5 [0,4,2,3]
  replace h7:=h7.drew
  have hS4:∀ w' R',Hold w0 w' (thA t c { x with attempt:=.pointer none,regs:=x.saved,tries:=0,outcome:=5 }*R')→w'.cell? ⟨t,44,none⟩=some (.slice A2 obs.length c2)∧w'.cell? ⟨t,1,none⟩=some (.int .i64 (b:Int)):=fun w' R' h=>by
    have e1:=h.th_obs
    rw [show ({ x with attempt:=.pointer none,regs:=x.saved,tries:=0,outcome:=5 }:ThR).obs=x.obs from rfl,HX.out.2.2.2.1] at e1
    have e2:=h.th_begin_
    rw [show ({ x with attempt:=.pointer none,regs:=x.saved,tries:=0,outcome:=5 }:ThR).begin_=x.begin_ from rfl,HX.out.2.2.2.2] at e2
    exact ⟨e1,e2⟩
  have HS4:=hid hS4
  clear hS4
  refine Z01 [17] (by kernel_rfl) ?_
  generalize hW:W7.drew=W8 at h7 ⊢
  clear hW
  refine Z05 (fun w'=>w'.cell? ⟨t,44,none⟩=some (.slice A2 obs.length c2)∧w'.cell? ⟨t,1,none⟩=some (.int .i64 (b:Int))) (fun _ _=>trivial) _ _ _ _ ?_
  refine' wbk [true,true,true,true,true,true,true,true,true,true,true,true,true] 123 (HS4.out _ _ h7) (fun wq hq=>?_) ?_;rotate_left
  · simp only [Z00]
    obtain ⟨q1,q2⟩:=hq
    repeat (go_big_quiet_step (fail))
    exact wpQuiet_nil rfl
  refine wbr [false,false,false,false,false,false,false,false,false,false,false,false,false,true] (fuel:=4) (fun QB hQB hQX=>?_)
  simp only [Z00]
  go_wp2_with fail
  refine hQB.out _ _ (HS4.out _ _ (h7.alloc _)) ?_
  clear hQB hQX QB
  refine wbr [false,false,false,false,false,false,false,false,false,false,false,false,false,false,true] (fuel:=3) (fun QB hQB hQX=>?_)
  simp only [Z00]
  go_wp2_with (at_builtin;refine Z1o rfl _ _ 53 rfl 55 iO (.agg #[.int .i64 0,.int .i64 0,.int .u64 0]) 3 24 Tryz.underlying53 hiO zo0 zo1 zo2 rfl (by decide) (.slice A2 obs.length c2) obs.length (obL obs) [.int .i64 (b:Int),.int .i64 3,.int .u64 5] _ rfl (h7.pk4 [1,0,2,3]) _ rfl rfl rfl rfl (by omega) (by decide) ?_)
  intro A9 c9 y9 h9
  have h8:=h9.pk4 [1,2,3,0]
  clear h9 h7
  go_wp2_with fail
  refine hQB.out _ _ (HS4.out _ _ h8) ?_
  clear hQB hQX QB
  refine' wbt [false,false,false,false,false,false,false,false,false,false,false,false,false,false,false,true,true] 123 (HS4.out _ _ h8) (fun wq _=>?_) ?_;rotate_left
  · simp only [Z00]
    repeat (go_big_quiet_step (fail))
    exact wpQuiet_nil rfl
  refine wbb [false,false,false,false,false,false,false,false,false,false,false,false,false,false,false,false,false,true] (fuel:=0) (fun QB hQB hQX=>?_)
  simp only [Z00]
  have p1:=(HS4.out _ _ h8).1
  have z1:=h8.thZ 44
  have H9:=hid (h8.th_obs_set (.slice A9 (obs.length + 1) c9))
  clear h8
  go_wp2_with fail
  refine hQB.out _ _ ?_
  clear hQB hQX QB p1 z1 HS4
  refine Z07 (by kernel_rfl) ?_
  refine Z02 (by kernel_rfl) ?_ _
  go_upto_region 14 with fail
  have h9:=H9.out
  generalize hW:World.setCell _ _ _=W9 at h9 ⊢
  clear hW H9
  replace h9:Hold w0 W9 (thA t c { x with attempt:=.pointer none,regs:=x.saved,obs:=.slice A9 (obs.length + 1) c9,tries:=0,outcome:=5 }*(Z0a (.slice (some ⟨gc,0,none⟩) p.length cp) p*(obsA (.slice A1 seen.length c1) seen*(obsA (.slice A9 (obs.length + 1) c9) (obs++[⟨(b:Int),3,5⟩])*R)))):=by
    have e1:obL obs++[Value.int .i64 (b:Int),Value.int .i64 3,Value.int .u64 5]=obL (obs++[⟨(b:Int),3,5⟩]):=by unfold obL;simp
    have e2:(obs++[(⟨(b:Int),3,5⟩:ObR)]).length=obs.length + 1:=by simp
    show Hold w0 W9 (_*(_*(_*(rowT 55 3 _ (obs++[(⟨(b:Int),3,5⟩:ObR)]).length (obL (obs++[⟨(b:Int),3,5⟩]))*R))))
    rw [e2,← e1]
    exact h9
  replace h9:=h9.drew
  have hS5:∀ w' pc0 dn0 R',Hold w0 w' (thA t c { x with attempt:=.pointer none,regs:=x.saved,obs:=.slice A9 (obs.length + 1) c9,tries:=0,outcome:=5,pc:=pc0,done:=dn0 }*R')→w'.cell? ⟨t,31,none⟩=some (.slice (some ⟨gc,0,none⟩) p.length cp)∧w'.cell? ⟨t,1,none⟩=some (.int .i64 (b:Int)):=fun w' pc0 dn0 R' h=>by
    have e1:=h.th_code
    have e2:=h.th_begin_
    rw [show ({ x with attempt:=.pointer none,regs:=x.saved,obs:=.slice A9 (obs.length + 1) c9,tries:=0,outcome:=5,pc:=pc0,done:=dn0 }:ThR).begin_=x.begin_ from rfl,HX.out.2.2.2.2] at e2
    rw [show ({ x with attempt:=.pointer none,regs:=x.saved,obs:=.slice A9 (obs.length + 1) c9,tries:=0,outcome:=5,pc:=pc0,done:=dn0 }:ThR).code=x.code from rfl,HX.out.2.1] at e1
    exact ⟨e1,e2⟩
  have HS5:=hid hS5
  clear hS5
  have HCm:=hid (Z9h HP.out.2.2.2 h9.swap HP.out.2.2.1 HP.out.1 HP.out.2.1)
  obtain ⟨cm,hcm⟩:∃ cm,cm=Z0j p (b:Int):=⟨_,rfl⟩
  have hcr:0≤cm∧cm≤64:=by
    obtain ⟨j,hj,_,_,_,hle⟩:=Z3b HP.out.2.2.1 (b:=(b:Int)) (Int.natCast_nonneg b) (by rw [show (b:Int).toNat=b by omega];exact HP.out.1) HP.out.2.1
    have:=HP.out.2.2.1.len
    rw [hcm]
    rw [hj]
    omega
  rw [← hcm] at HCm
  have HCE:=hid hcm
  clear hcm
  refine Z01 [] (by kernel_rfl) ?_
  generalize hW:W9.drew=W10 at h9 HCm ⊢
  clear hW
  refine Z05 (fun w'=>w'.cell? ⟨t,31,none⟩=some (.slice (some ⟨gc,0,none⟩) p.length cp)∧w'.cell? ⟨t,1,none⟩=some (.int .i64 (b:Int))) (fun _ _=>trivial) _ _ _ _ ?_
  refine' wbk [true,true,true,true,true,true,true,true,true,true] 123 (HS5.out _ x.pc x.done _ h9) (fun wq hq=>?_) ?_;rotate_left
  · simp only [Z00]
    obtain ⟨q1,q2⟩:=hq
    repeat (go_big_quiet_step (fail))
    exact wpQuiet_nil rfl
  refine wbr [false,false,false,false,false,false,false,false,false,false,true] (fuel:=2) (fun QB hQB hQX=>?_)
  simp only [Z00]
  go_wp2_with fail
  refine HCm.out.mono ?_
  rintro e w11 ⟨rfl,h10⟩
  have h11:=h10.swap
  clear h10 h9
  go_wp2_with fail
  refine hQB.out _ _ (HS5.out _ x.pc x.done _ h11) ?_
  clear hQB hQX QB HCm
  refine' wbk [false,false,false,false,false,false,false,false,false,false,false,true] 123 (HS5.out _ x.pc x.done _ h11) (fun wq hq=>?_) ?_;rotate_left
  · simp only [Z00]
    repeat (go_big_quiet_step (fail))
    exact wpQuiet_nil rfl
  refine wbr [false,false,false,false,false,false,false,false,false,false,false,false,true] (fuel:=0) (fun QB hQB hQX=>?_)
  simp only [Z00]
  go_wp2_with fail
  refine (Z7p (n:=p.length) (cp:=cp) (A:=some ⟨gc,0,none⟩) h11 HX.out.2.1).mono ?_
  rintro e w12 ⟨rfl,h12⟩
  clear h11
  go_wp2_with fail
  refine hQB.out _ _ (HS5.out _ (cm + 1) (cm + 1 == (p.length:Int)) _ h12) ?_
  clear hQB hQX QB HS5
  refine Z02 (by kernel_rfl) ?_ _
  rw [HCE.out] at h12
  have H12:=hid h12
  clear h12
  go_wp2_with fail
  go_end0
  exact ⟨_,rfl,H12.out⟩
end
section
variable {w0 w:World} {R R':Asr} {t g n cp k:Nat} {c:Cfg} {x:ThR} {y:AtR} {p:List InsR} {i:InsR} {A:Option Addr} {a:Acc} {ph att:Int} {m:Value} {seen obs:List ObR}
set_option maxHeartbeats 4000000 in
theorem Zcz {P:Ending→World→Prop} (h:Hold w0 w (thA t c x*(atA g c y*R))) (ha:x.attempt=ptrV g) (hs:y.state=2) (hst:x.strong=false)
    (he:∀ w',Hold w0 w' (thA t c x*(atA g c y*R))→Calls Tryz.prog 104 #[ptrV t] w' fun e w''=>e = .returned (.tuple #[])∧P e w'') :
    Calls Tryz.prog 61 #[ptrV t,i.val] w P:=by
  have H1:=hid (h.newBlk (t:=28) (cs:=i.cells))
  have HX:=hid (And.intro ha (And.intro hs hst))
  have HE:=hid he
  clear h ha hs hst he
  go_enter Tryz.func61,Tryz.ntmps61
  go_upto_region 7 with fail
  have h1:=H1.out
  generalize hW:w.alloc _=W at h1 ⊢
  generalize w.heap.size=gi at h1 ⊢
  clear hW H1
  have h2:=h1.drop
  have q:=h2.Zme
  rw [HX.out.1] at q
  have q2:=h2.th_strong
  rw [HX.out.2.2] at q2
  have hst:=Z5j h2.swap
  rw [HX.out.2.1] at hst
  have HS:=hid hst
  have HN:=hid (HE.out _ h2)
  clear h1 h2 hst
  go_wp2_with fail
  refine HS.out.mono ?_
  rintro e w' ⟨rfl,rfl⟩
  go_wp2_with fail
  refine HS.out.mono ?_
  rintro e w' ⟨rfl,rfl⟩
  go_wp2_with fail
  refine HN.out.mono ?_
  rintro e w' ⟨rfl,h3⟩
  have H4:=hid h3
  clear h3 HN HS q q2
  go_wp2_with fail
  refine bodyPost_end (results_none rfl _ _ _) rfl ?_
  exact H4.out
def Z73 {ι:Type} (w0:World) (Q:ι→Asr) (e:Ending) (w':World):Prop:=∃ i,e = .returned (.tuple #[])∧Hold w0 w' (Q i)
theorem Z6g {ι:Type} {Q:ι→Asr} (h:Hold w0 w (thA t c x*R)) (ha:x.attempt=ptrV g) (h1:i.op=10) (hb:i.b=0) (hi:0≤i.imm∧i.imm≤1000000) (hr:x.regs 0=0)
    (hq:∀ F w',Hold w0 w' (F*(thA t c x*R))→Calls Tryz.prog 63 #[ptrV g,.int .u64 i.imm] w' fun e w''=>∃ j,e = .returned (.int .i64 0)∧Hold w0 w'' (F*(thA t c x*Q j))) :
    Calls Tryz.prog 67 #[ptrV t,i.val] w (Z73 w0 (fun j=>thA t c x*Q j)):=by
  have H1:=hid (h.newBlk (t:=28) (cs:=i.cells))
  have HX:=hid (And.intro ha (And.intro h1 (And.intro hb hr)))
  have HQ:=hid hq
  have hS:∀ gi w' R',Hold w0 w' (blkA 28 gi i.cells*(thA t c x*R'))→w'.cell? ⟨t,0,none⟩=some (ptrV g)∧w'.cell? ⟨gi,2,none⟩=some (.int .i64 0)∧w'.cell? ⟨gi,4,none⟩=some (.int .i64 i.imm)∧Calls Tryz.prog 116 #[ptrV t,.int .i64 0,.int .i64 i.imm] w' fun e w''=>e = .returned (.int .u64 i.imm)∧w''=w':=fun gi w' R' h=>by
    refine ⟨?_,?_,h.blk.some_ (i:=4) (u:=.int .i64 i.imm) rfl,(Z7c (r:=0) h.drop (by decide) hi hr).mono fun e w'' h=>⟨h.1,h.2.symm⟩⟩
    · have:=h.drop.Zme;rw [ha] at this;exact this
    · have:=h.blk.some_ (i:=2) (u:=.int .i64 i.b) rfl;rw [hb] at this;exact this
  have HS:=hid hS
  clear h ha h1 hb hr hq hS
  go_enter Tryz.func67,Tryz.ntmps67
  go_upto_region 1 with fail
  have h1:=H1.out
  generalize hW:w.alloc _=W at h1 ⊢
  generalize w.heap.size=gi at h1 ⊢
  clear hW H1
  have q0:W.cell? ⟨gi,0,none⟩=some (.int .i64 10):=by have:=h1.blk.some_ (i:=0) (u:=.int .i64 i.op) rfl;rw [HX.out.2.1] at this;exact this
  go_upto_region 3 with fail
  replace h1:=h1.drew
  clear q0
  refine Z01 [] (by kernel_rfl) ?_
  generalize hW:W.drew=W1 at h1 ⊢
  clear hW
  refine Z05 (fun w'=>w'.cell? ⟨t,0,none⟩=some (ptrV g)∧w'.cell? ⟨gi,2,none⟩=some (.int .i64 0)∧w'.cell? ⟨gi,4,none⟩=some (.int .i64 i.imm)∧Calls Tryz.prog 116 #[ptrV t,.int .i64 0,.int .i64 i.imm] w' fun e w''=>e = .returned (.int .u64 i.imm)∧w''=w') (fun _ _=>trivial) _ _ _ _ ?_
  refine' wbk [true,true,true,true,true,true,true,true,true,true,true] 84 (HS.out _ _ _ h1) (fun wq hq=>?_) ?_;rotate_left
  · simp only [Z00]
    obtain ⟨q5,q6,q7,q8⟩:=hq
    repeat (first | go_big_quiet_step (fail) | (go_big_quiet_want;go_big_quiet_op;apply Exists.intro;refine ⟨?_,?_⟩;(exact q8);go_big_quiet_on))
    exact wpQuiet_nil rfl
  refine wbr [false,false,false,false,false,false,false,false,false,false,false,true] (fuel:=0) (fun QB hQB hQX=>?_)
  simp only [Z00]
  go_wp2_with fail
  refine (HQ.out _ _ h1).mono ?_
  rintro e w5 ⟨j,rfl,h5⟩
  clear h1
  go_wp2_with fail
  refine hQB.out _ _ (HS.out _ _ _ h5) ?_
  clear hQB hQX QB HS HQ
  refine Z02 (by kernel_rfl) ?_ _
  have H5:=hid h5.drop
  clear h5
  go_wp2_with fail
  refine bodyPost_end (results_none rfl _ _ _) rfl ?_
  exact ⟨j,rfl,H5.out⟩
theorem Z90 {ι:Type} {r:Nat} {v:Int} {Q:ι→Asr} (h:Hold w0 w (thA t c x*R)) (ha:x.attempt=ptrV g) (h1:i.op=11) (hb:i.a=0) (hbb:i.b=(r:Int)) (hr8:r < 8) (hv:x.regs r=v) (hi:0≤i.imm∧i.imm≤1000000) (hr:x.regs 0=0)
    (hq:∀ F w',Hold w0 w' (F*(thA t c x*R))→Calls Tryz.prog 65 #[ptrV g,.int .u64 i.imm,.int .u64 v] w' fun e w''=>∃ j,e = .returned (.int .i64 0)∧Hold w0 w'' (F*(thA t c x*Q j))) :
    Calls Tryz.prog 67 #[ptrV t,i.val] w (Z73 w0 (fun j=>thA t c x*Q j)):=by
  have H1:=hid (h.newBlk (t:=28) (cs:=i.cells))
  have HX:=hid (And.intro ha (And.intro h1 (And.intro hb hr)))
  have HQ:=hid hq
  have hS:∀ gi w' R',Hold w0 w' (blkA 28 gi i.cells*(thA t c x*R'))→w'.cell? ⟨t,0,none⟩=some (ptrV g)∧w'.cell? ⟨gi,1,none⟩=some (.int .i64 0)∧w'.cell? ⟨gi,2,none⟩=some (.int .i64 (r:Int))∧w'.cell? ⟨gi,4,none⟩=some (.int .i64 i.imm)∧w'.cell? ⟨t,33 + r,none⟩=some (.int .u64 v)∧Calls Tryz.prog 116 #[ptrV t,.int .i64 0,.int .i64 i.imm] w' fun e w''=>e = .returned (.int .u64 i.imm)∧w''=w':=fun gi w' R' h=>by
    refine ⟨?_,?_,?_,h.blk.some_ (i:=4) (u:=.int .i64 i.imm) rfl,?_,(Z7c (r:=0) h.drop (by decide) hi hr).mono fun e w'' h=>⟨h.1,h.2.symm⟩⟩
    · have:=h.drop.Zme;rw [ha] at this;exact this
    · have:=h.blk.some_ (i:=1) (u:=.int .i64 i.a) rfl;rw [hb] at this;exact this
    · have:=h.blk.some_ (i:=2) (u:=.int .i64 i.b) rfl;rw [hbb] at this;exact this
    · have:=h.drop.th_regs hr8;rw [hv] at this;exact this
  have HS:=hid hS
  have k0:(0:Int)≤(r:Int):=by omega
  have k1:(r:Int) < 8:=by omega
  clear h ha h1 hb hbb hr hq hS hv
  go_enter Tryz.func67,Tryz.ntmps67
  go_upto_region 1 with fail
  have h1:=H1.out
  generalize hW:w.alloc _=W at h1 ⊢
  generalize w.heap.size=gi at h1 ⊢
  clear hW H1
  have q0:W.cell? ⟨gi,0,none⟩=some (.int .i64 11):=by have:=h1.blk.some_ (i:=0) (u:=.int .i64 i.op) rfl;rw [HX.out.2.1] at this;exact this
  go_upto_region 5 with fail
  replace h1:=h1.drew
  clear q0
  refine Z01 [] (by kernel_rfl) ?_
  generalize hW:W.drew=W1 at h1 ⊢
  clear hW
  refine Z05 (fun w'=>w'.cell? ⟨t,0,none⟩=some (ptrV g)∧w'.cell? ⟨gi,1,none⟩=some (.int .i64 0)∧w'.cell? ⟨gi,2,none⟩=some (.int .i64 (r:Int))∧w'.cell? ⟨gi,4,none⟩=some (.int .i64 i.imm)∧w'.cell? ⟨t,33 + r,none⟩=some (.int .u64 v)∧Calls Tryz.prog 116 #[ptrV t,.int .i64 0,.int .i64 i.imm] w' fun e w''=>e = .returned (.int .u64 i.imm)∧w''=w') (fun _ _=>trivial) _ _ _ _ ?_
  refine' wbk [true,true,true,true,true,true,true,true,true,true,true,true,true,true,true,true,true,true,true] 84 (HS.out _ _ _ h1) (fun wq hq=>?_) ?_;rotate_left
  · simp only [Z00]
    obtain ⟨q5,q6,q7,q8,q9,q10⟩:=hq
    repeat (first | go_big_quiet_step (fail) | (go_big_quiet_want;go_big_quiet_op;apply Exists.intro;refine ⟨?_,?_⟩;(exact q10);go_big_quiet_on))
    exact wpQuiet_nil rfl
  refine wbr [false,false,false,false,false,false,false,false,false,false,false,false,false,false,false,false,false,false,false,true] (fuel:=0) (fun QB hQB hQX=>?_)
  simp only [Z00]
  go_wp2_with fail
  refine (HQ.out _ _ h1).mono ?_
  rintro e w5 ⟨j,rfl,h5⟩
  clear h1
  go_wp2_with fail
  refine hQB.out _ _ (HS.out _ _ _ h5) ?_
  clear hQB hQX QB HS HQ
  refine Z02 (by kernel_rfl) ?_ _
  have H5:=hid h5.drop
  clear h5
  go_wp2_with fail
  refine bodyPost_end (results_none rfl _ _ _) rfl ?_
  exact ⟨j,rfl,H5.out⟩
theorem Zcx {ι:Type} {Q:ι→Asr} (h:Hold w0 w (thA t c x*R)) (ha:x.attempt=ptrV g) (h1:i.op=8)
    (hq:∀ F w',Hold w0 w' (F*(thA t c x*R))→Calls Tryz.prog 62 #[ptrV g,.int .i64 1] w' fun e w''=>∃ j,e = .returned (.int .i64 0)∧Hold w0 w'' (F*(thA t c x*Q j))) :
    Calls Tryz.prog 67 #[ptrV t,i.val] w (Z73 w0 (fun j=>thA t c x*Q j)):=by
  have H1:=hid (h.newBlk (t:=28) (cs:=i.cells))
  have HX:=hid (And.intro ha h1)
  have HQ:=hid hq
  clear h ha h1 hq
  go_enter Tryz.func67,Tryz.ntmps67
  go_upto_region 1 with fail
  have h1:=H1.out
  generalize hW:w.alloc _=W at h1 ⊢
  generalize w.heap.size=gi at h1 ⊢
  clear hW H1
  have q0:W.cell? ⟨gi,0,none⟩=some (.int .i64 8):=by have:=h1.blk.some_ (i:=0) (u:=.int .i64 i.op) rfl;rw [HX.out.2] at this;exact this
  have q1:W.cell? ⟨t,0,none⟩=some (ptrV g):=by have:=h1.drop.Zme;rw [HX.out.1] at this;exact this
  have HE:=hid (HQ.out _ _ h1)
  clear h1
  go_wp2_with fail
  refine HE.out.mono ?_
  rintro e w5 ⟨j,rfl,h5⟩
  have H5:=hid h5.drop
  clear h5 HE q0 q1
  go_wp2_with fail
  refine bodyPost_end (results_none rfl _ _ _) rfl ?_
  exact ⟨j,rfl,H5.out⟩
end
theorem Zkj (w:World) (x y:Int):Calls Tryz.prog 124 #[.int .i64 0,.int .u64 x,.int .u64 y] w fun e w'=>e = .returned (.tuple #[.int .u64 (u64 (x + y)),.int .i64 0])∧w=w':=by
  have hI:Calls Tryz.prog 203 #[.int .i64 0,.int .u64 x,.int .u64 y] w fun e w'=>e = .returned (.int .u64 (u64 (x + y)))∧w=w':=by
    go_enter Tryz.func203,Tryz.ntmps203
    go_wp2_with fail
    go_ret
    exact ⟨rfl,rfl⟩
  have HI:=hid hI
  clear hI
  go_enter Tryz.func124,Tryz.ntmps124
  go_wp2_with fail
  refine HI.out.mono ?_
  rintro e w' ⟨rfl,rfl⟩
  go_wp2_with fail
  go_ret2
  exact ⟨rfl,rfl⟩
theorem Zki (w:World) (x y:Int):Calls Tryz.prog 124 #[.int .i64 1,.int .u64 x,.int .u64 y] w fun e w'=>e = .returned (.tuple #[.int .u64 (u64 (x - y)),.int .i64 0])∧w=w':=by
  have hI:Calls Tryz.prog 203 #[.int .i64 1,.int .u64 x,.int .u64 y] w fun e w'=>e = .returned (.int .u64 (u64 (x - y)))∧w=w':=by
    go_enter Tryz.func203,Tryz.ntmps203
    go_wp2_with fail
    go_ret
    exact ⟨rfl,rfl⟩
  have HI:=hid hI
  clear hI
  go_enter Tryz.func124,Tryz.ntmps124
  go_wp2_with fail
  refine HI.out.mono ?_
  rintro e w' ⟨rfl,rfl⟩
  go_wp2_with fail
  go_ret2
  exact ⟨rfl,rfl⟩
section
variable {w0 w:World} {R R':Asr} {t g n cp k:Nat} {c:Cfg} {x:ThR} {y:AtR} {p:List InsR} {i:InsR} {A:Option Addr} {a:Acc} {ph att:Int} {m:Value} {seen obs:List ObR}
set_option maxHeartbeats 4000000 in
theorem Z78 {r:Nat} (h:Hold w0 w (thA t c x*R)) (h1:i.op=1) (hr:i.a=(r:Int)) (hr8:r < 8) (hc:x.code = .slice A n cp) (h0:0≤x.pc∧x.pc≤1000000) :
    Calls Tryz.prog 70 #[ptrV t,i.val] w fun e w'=>e = .returned (.tuple #[])∧Hold w0 w' (thA t c { x with regs:=upR x.regs r (u64 i.imm),pc:=x.pc + 1,done:=x.pc + 1 == (n:Int) }*R):=by
  have H1:=hid (h.newBlk (t:=28) (cs:=i.cells))
  have HX:=hid (And.intro h1 (And.intro hr hc))
  have k0:(0:Int)≤(r:Int):=by omega
  have k1:(r:Int) < 8:=by omega
  obtain ⟨pc,hpc⟩:∃ pc,pc=x.pc:=⟨_,rfl⟩
  rw [← hpc] at h0 ⊢
  have HP:=hid hpc
  clear h h1 hr hc hpc
  go_enter Tryz.func70,Tryz.ntmps70
  go_upto_region 1 with fail
  have h1:=H1.out
  generalize hW:w.alloc _=W at h1 ⊢
  generalize w.heap.size=gi at h1 ⊢
  clear hW H1
  have q0:W.cell? ⟨gi,0,none⟩=some (.int .i64 1):=by have:=h1.blk.some_ (i:=0) (u:=.int .i64 i.op) rfl;rw [HX.out.1] at this;exact this
  have q1:W.cell? ⟨t,32,none⟩=some (.int .i64 pc):=by have:=h1.drop.th_pc;rw [← HP.out] at this;exact this
  go_upto_region 5 with fail
  replace h1:=h1.drew
  clear q0 q1
  have hS:W.drew.cell? ⟨gi,1,none⟩=some (.int .i64 (r:Int))∧W.drew.cell? ⟨gi,4,none⟩=some (.int .i64 i.imm):=by
    refine ⟨?_,h1.blk.some_ (i:=4) (u:=.int .i64 i.imm) rfl⟩
    have:=h1.blk.some_ (i:=1) (u:=.int .i64 i.a) rfl;rw [HX.out.2.1] at this;exact this
  have HS:=hid hS
  clear hS
  refine Z01 [8] (by kernel_rfl) ?_
  generalize hW:W.drew=W1 at h1 HS ⊢
  clear hW
  refine Z05 (fun w'=>w'.cell? ⟨gi,1,none⟩=some (.int .i64 (r:Int))∧w'.cell? ⟨gi,4,none⟩=some (.int .i64 i.imm)) (fun _ _=>trivial) _ _ _ _ ?_
  refine' wbt [true,true,false,true,false,false,true] 114 HS.out (fun wq _=>?_) ?_;rotate_left
  · simp only [Z00]
    repeat (go_big_quiet_step (fail))
    exact wpQuiet_nil rfl
  refine' wbk [false,false,true,false,true,true,false,true] 114 HS.out (fun wq hq=>?_) ?_;rotate_left
  · simp only [Z00]
    obtain ⟨q2,q3⟩:=hq
    repeat (go_big_quiet_step (fail))
    exact wpQuiet_nil rfl
  refine wbb [false,false,false,false,false,false,false,false,true] (fuel:=0) (fun QB hQB hQX=>?_)
  simp only [Z00]
  have p1:=h1.drop.th_regs hr8
  have z1:=h1.drop.thZ (33 + r)
  have H2:=hid ((h1.drop).th_regs_set hr8 (IntKind.u64.wrap i.imm))
  clear h1
  go_wp2_with fail
  refine hQB.out _ _ ?_
  clear hQB hQX QB p1 z1 HS
  refine Z07 (by kernel_rfl) ?_
  refine Z02 (by kernel_rfl) ?_ _
  have h2:=H2.out
  go_upto_region 20 with fail
  generalize hW:World.setCell _ _ _=W2 at h2 ⊢
  clear hW H2
  have HT:=hid (Z7p (n:=n) (cp:=cp) (A:=A) (p:=pc + 1) h2 HX.out.2.2)
  clear h2
  go_wp2_with fail
  refine HT.out.mono ?_
  rintro e w5 ⟨rfl,h5⟩
  have H5:=hid h5
  clear h5 HT
  go_wp2_with fail
  go_end0
  exact ⟨rfl,H5.out⟩
set_option maxHeartbeats 4000000 in
theorem Z93 {r r1 r2:Nat} {v1 v2:Int} (h:Hold w0 w (thA t c x*R)) (h1:i.op=3) (hfn:i.imm=0) (hr:i.a=(r:Int)) (hr8:r < 8) (hb:i.b=(r1:Int)) (hb8:r1 < 8) (hcc:i.c=(r2:Int)) (hc8:r2 < 8) (hv1:x.regs r1=v1) (hv2:x.regs r2=v2) (hc:x.code = .slice A n cp) (h0:0≤x.pc∧x.pc≤1000000) :
    Calls Tryz.prog 70 #[ptrV t,i.val] w fun e w'=>e = .returned (.tuple #[])∧Hold w0 w' (thA t c { x with regs:=upR x.regs r (u64 (v1 + v2)),pc:=x.pc + 1,done:=x.pc + 1 == (n:Int) }*R):=by
  have H1:=hid (h.newBlk (t:=28) (cs:=i.cells))
  have HX:=hid (And.intro h1 (And.intro hr hc))
  have HY:=hid (And.intro hfn (And.intro hb (And.intro hcc (And.intro hv1 hv2))))
  have k2:(0:Int)≤(r1:Int):=by omega
  have k3:(r1:Int) < 8:=by omega
  have k4:(0:Int)≤(r2:Int):=by omega
  have k5:(r2:Int) < 8:=by omega
  have k0:(0:Int)≤(r:Int):=by omega
  have k1:(r:Int) < 8:=by omega
  obtain ⟨pc,hpc⟩:∃ pc,pc=x.pc:=⟨_,rfl⟩
  rw [← hpc] at h0 ⊢
  have HP:=hid hpc
  clear h h1 hr hc hpc hfn hb hcc hv1 hv2
  go_enter Tryz.func70,Tryz.ntmps70
  go_upto_region 1 with fail
  have h1:=H1.out
  generalize hW:w.alloc _=W at h1 ⊢
  generalize w.heap.size=gi at h1 ⊢
  clear hW H1
  have q0:W.cell? ⟨gi,0,none⟩=some (.int .i64 3):=by have:=h1.blk.some_ (i:=0) (u:=.int .i64 i.op) rfl;rw [HX.out.1] at this;exact this
  have q1:W.cell? ⟨t,32,none⟩=some (.int .i64 pc):=by have:=h1.drop.th_pc;rw [← HP.out] at this;exact this
  go_upto_region 9 with fail
  replace h1:=h1.drew
  clear q0 q1
  have hS:∀ w' R',Hold w0 w' (blkA 28 gi i.cells*(thA t c x*R'))→w'.cell? ⟨gi,1,none⟩=some (.int .i64 (r:Int))∧w'.cell? ⟨gi,4,none⟩=some (.int .i64 0)∧w'.cell? ⟨gi,2,none⟩=some (.int .i64 (r1:Int))∧w'.cell? ⟨gi,3,none⟩=some (.int .i64 (r2:Int))∧w'.cell? ⟨t,33 + r1,none⟩=some (.int .u64 v1)∧w'.cell? ⟨t,33 + r2,none⟩=some (.int .u64 v2):=fun w' R' h1=>by
    refine ⟨?_,?_,?_,?_,?_,?_⟩
    · have:=h1.blk.some_ (i:=1) (u:=.int .i64 i.a) rfl;rw [HX.out.2.1] at this;exact this
    · have:=h1.blk.some_ (i:=4) (u:=.int .i64 i.imm) rfl;rw [HY.out.1] at this;exact this
    · have:=h1.blk.some_ (i:=2) (u:=.int .i64 i.b) rfl;rw [HY.out.2.1] at this;exact this
    · have:=h1.blk.some_ (i:=3) (u:=.int .i64 i.c) rfl;rw [HY.out.2.2.1] at this;exact this
    · have:=h1.drop.th_regs hb8;rw [HY.out.2.2.2.1] at this;exact this
    · have:=h1.drop.th_regs hc8;rw [HY.out.2.2.2.2] at this;exact this
  have HS:=hid hS
  clear hS
  refine Z01 [23] (by kernel_rfl) ?_
  generalize hW:W.drew=W1 at h1 ⊢
  clear hW
  refine Z05 (fun w'=>w'.cell? ⟨gi,1,none⟩=some (.int .i64 (r:Int))∧w'.cell? ⟨gi,4,none⟩=some (.int .i64 0)∧w'.cell? ⟨gi,2,none⟩=some (.int .i64 (r1:Int))∧w'.cell? ⟨gi,3,none⟩=some (.int .i64 (r2:Int))∧w'.cell? ⟨t,33 + r1,none⟩=some (.int .u64 v1)∧w'.cell? ⟨t,33 + r2,none⟩=some (.int .u64 v2)) (fun _ _=>trivial) _ _ _ _ ?_
  refine' wbt [true,true,false,true,false,true,true,false,true,false,false,true,true,false,true,false,false,false,false,false,false,true] 114 (HS.out _ _ h1) (fun wq _=>?_) ?_;rotate_left
  · simp only [Z00]
    repeat (go_big_quiet_step (fail))
    exact wpQuiet_nil rfl
  refine' wbk [false,false,true,false,true,false,false,true,false,true,true,false,false,true,false,true,true] 114 (HS.out _ _ h1) (fun wq hq=>?_) ?_;rotate_left
  · simp only [Z00]
    obtain ⟨q2,q3,q4,q5,q6,q7⟩:=hq
    repeat (go_big_quiet_step (fail))
    exact wpQuiet_nil rfl
  refine wbr [false,false,false,false,false,false,false,false,false,false,false,false,false,false,false,false,false,true] (fuel:=5) (fun QB hQB hQX=>?_)
  simp only [Z00]
  go_wp2_with fail
  refine (Zkj _ _ _).mono ?_
  rintro e w' ⟨rfl,rfl⟩
  go_wp2_with fail
  refine hQB.out _ _ (HS.out _ _ h1) ?_
  clear hQB hQX QB
  refine' wbt [false,false,false,false,false,false,false,false,false,false,false,false,false,false,false,false,false,false,true,true,true,false,true] 114 (HS.out _ _ h1) (fun wq _=>?_) ?_;rotate_left
  · simp only [Z00]
    repeat (go_big_quiet_step (fail))
    exact wpQuiet_nil rfl
  refine wbb [false,false,false,false,false,false,false,false,false,false,false,false,false,false,false,false,false,false,false,false,false,false,false,true] (fuel:=0) (fun QB hQB hQX=>?_)
  simp only [Z00]
  have p1:=h1.drop.th_regs hr8
  have z1:=h1.drop.thZ (33 + r)
  have H2:=hid ((h1.drop).th_regs_set hr8 (u64 (v1 + v2)))
  clear h1
  go_wp2_with fail
  refine hQB.out _ _ ?_
  clear hQB hQX QB p1 z1 HS
  refine Z07 (by kernel_rfl) ?_
  refine Z02 (by kernel_rfl) ?_ _
  have h2:=H2.out
  go_upto_region 20 with fail
  generalize hW:World.setCell _ _ _=W2 at h2 ⊢
  clear hW H2
  have HT:=hid (Z7p (n:=n) (cp:=cp) (A:=A) (p:=pc + 1) h2 HX.out.2.2)
  clear h2
  go_wp2_with fail
  refine HT.out.mono ?_
  rintro e w5 ⟨rfl,h5⟩
  have H5:=hid h5
  clear h5 HT
  go_wp2_with fail
  go_end0
  exact ⟨rfl,H5.out⟩
set_option maxHeartbeats 4000000 in
theorem Z91 {r r1 r2:Nat} {v1 v2:Int} (h:Hold w0 w (thA t c x*R)) (h1:i.op=3) (hfn:i.imm=1) (hr:i.a=(r:Int)) (hr8:r < 8) (hb:i.b=(r1:Int)) (hb8:r1 < 8) (hcc:i.c=(r2:Int)) (hc8:r2 < 8) (hv1:x.regs r1=v1) (hv2:x.regs r2=v2) (hc:x.code = .slice A n cp) (h0:0≤x.pc∧x.pc≤1000000) :
    Calls Tryz.prog 70 #[ptrV t,i.val] w fun e w'=>e = .returned (.tuple #[])∧Hold w0 w' (thA t c { x with regs:=upR x.regs r (u64 (v1 - v2)),pc:=x.pc + 1,done:=x.pc + 1 == (n:Int) }*R):=by
  have H1:=hid (h.newBlk (t:=28) (cs:=i.cells))
  have HX:=hid (And.intro h1 (And.intro hr hc))
  have HY:=hid (And.intro hfn (And.intro hb (And.intro hcc (And.intro hv1 hv2))))
  have k2:(0:Int)≤(r1:Int):=by omega
  have k3:(r1:Int) < 8:=by omega
  have k4:(0:Int)≤(r2:Int):=by omega
  have k5:(r2:Int) < 8:=by omega
  have k0:(0:Int)≤(r:Int):=by omega
  have k1:(r:Int) < 8:=by omega
  obtain ⟨pc,hpc⟩:∃ pc,pc=x.pc:=⟨_,rfl⟩
  rw [← hpc] at h0 ⊢
  have HP:=hid hpc
  clear h h1 hr hc hpc hfn hb hcc hv1 hv2
  go_enter Tryz.func70,Tryz.ntmps70
  go_upto_region 1 with fail
  have h1:=H1.out
  generalize hW:w.alloc _=W at h1 ⊢
  generalize w.heap.size=gi at h1 ⊢
  clear hW H1
  have q0:W.cell? ⟨gi,0,none⟩=some (.int .i64 3):=by have:=h1.blk.some_ (i:=0) (u:=.int .i64 i.op) rfl;rw [HX.out.1] at this;exact this
  have q1:W.cell? ⟨t,32,none⟩=some (.int .i64 pc):=by have:=h1.drop.th_pc;rw [← HP.out] at this;exact this
  go_upto_region 9 with fail
  replace h1:=h1.drew
  clear q0 q1
  have hS:∀ w' R',Hold w0 w' (blkA 28 gi i.cells*(thA t c x*R'))→w'.cell? ⟨gi,1,none⟩=some (.int .i64 (r:Int))∧w'.cell? ⟨gi,4,none⟩=some (.int .i64 1)∧w'.cell? ⟨gi,2,none⟩=some (.int .i64 (r1:Int))∧w'.cell? ⟨gi,3,none⟩=some (.int .i64 (r2:Int))∧w'.cell? ⟨t,33 + r1,none⟩=some (.int .u64 v1)∧w'.cell? ⟨t,33 + r2,none⟩=some (.int .u64 v2):=fun w' R' h1=>by
    refine ⟨?_,?_,?_,?_,?_,?_⟩
    · have:=h1.blk.some_ (i:=1) (u:=.int .i64 i.a) rfl;rw [HX.out.2.1] at this;exact this
    · have:=h1.blk.some_ (i:=4) (u:=.int .i64 i.imm) rfl;rw [HY.out.1] at this;exact this
    · have:=h1.blk.some_ (i:=2) (u:=.int .i64 i.b) rfl;rw [HY.out.2.1] at this;exact this
    · have:=h1.blk.some_ (i:=3) (u:=.int .i64 i.c) rfl;rw [HY.out.2.2.1] at this;exact this
    · have:=h1.drop.th_regs hb8;rw [HY.out.2.2.2.1] at this;exact this
    · have:=h1.drop.th_regs hc8;rw [HY.out.2.2.2.2] at this;exact this
  have HS:=hid hS
  clear hS
  refine Z01 [23] (by kernel_rfl) ?_
  generalize hW:W.drew=W1 at h1 ⊢
  clear hW
  refine Z05 (fun w'=>w'.cell? ⟨gi,1,none⟩=some (.int .i64 (r:Int))∧w'.cell? ⟨gi,4,none⟩=some (.int .i64 1)∧w'.cell? ⟨gi,2,none⟩=some (.int .i64 (r1:Int))∧w'.cell? ⟨gi,3,none⟩=some (.int .i64 (r2:Int))∧w'.cell? ⟨t,33 + r1,none⟩=some (.int .u64 v1)∧w'.cell? ⟨t,33 + r2,none⟩=some (.int .u64 v2)) (fun _ _=>trivial) _ _ _ _ ?_
  refine' wbt [true,true,false,true,false,true,true,false,true,false,false,true,true,false,true,false,false,false,false,false,false,true] 114 (HS.out _ _ h1) (fun wq _=>?_) ?_;rotate_left
  · simp only [Z00]
    repeat (go_big_quiet_step (fail))
    exact wpQuiet_nil rfl
  refine' wbk [false,false,true,false,true,false,false,true,false,true,true,false,false,true,false,true,true] 114 (HS.out _ _ h1) (fun wq hq=>?_) ?_;rotate_left
  · simp only [Z00]
    obtain ⟨q2,q3,q4,q5,q6,q7⟩:=hq
    repeat (go_big_quiet_step (fail))
    exact wpQuiet_nil rfl
  refine wbr [false,false,false,false,false,false,false,false,false,false,false,false,false,false,false,false,false,true] (fuel:=5) (fun QB hQB hQX=>?_)
  simp only [Z00]
  go_wp2_with fail
  refine (Zki _ _ _).mono ?_
  rintro e w' ⟨rfl,rfl⟩
  go_wp2_with fail
  refine hQB.out _ _ (HS.out _ _ h1) ?_
  clear hQB hQX QB
  refine' wbt [false,false,false,false,false,false,false,false,false,false,false,false,false,false,false,false,false,false,true,true,true,false,true] 114 (HS.out _ _ h1) (fun wq _=>?_) ?_;rotate_left
  · simp only [Z00]
    repeat (go_big_quiet_step (fail))
    exact wpQuiet_nil rfl
  refine wbb [false,false,false,false,false,false,false,false,false,false,false,false,false,false,false,false,false,false,false,false,false,false,false,true] (fuel:=0) (fun QB hQB hQX=>?_)
  simp only [Z00]
  have p1:=h1.drop.th_regs hr8
  have z1:=h1.drop.thZ (33 + r)
  have H2:=hid ((h1.drop).th_regs_set hr8 (u64 (v1 - v2)))
  clear h1
  go_wp2_with fail
  refine hQB.out _ _ ?_
  clear hQB hQX QB p1 z1 HS
  refine Z07 (by kernel_rfl) ?_
  refine Z02 (by kernel_rfl) ?_ _
  have h2:=H2.out
  go_upto_region 20 with fail
  generalize hW:World.setCell _ _ _=W2 at h2 ⊢
  clear hW H2
  have HT:=hid (Z7p (n:=n) (cp:=cp) (A:=A) (p:=pc + 1) h2 HX.out.2.2)
  clear h2
  go_wp2_with fail
  refine HT.out.mono ?_
  rintro e w5 ⟨rfl,h5⟩
  have H5:=hid h5
  clear h5 HT
  go_wp2_with fail
  go_end0
  exact ⟨rfl,H5.out⟩
end
section
variable {w0 w:World} {R R':Asr} {t g n cp k:Nat} {c:Cfg} {x:ThR} {y:AtR} {p:List InsR} {i:InsR} {A:Option Addr} {a:Acc} {ph att:Int} {m:Value} {seen obs:List ObR}
set_option maxHeartbeats 4000000 in
theorem Zae {ι ι2:Type} {Q:ι→Asr} {Q2:ι2→Asr} (h:Hold w0 w R) (h1:i.op=10∨i.op=11∨i.op=8)
    (hr:∀ F w',Hold w0 w' (F*R)→Calls Tryz.prog 67 #[ptrV t,i.val] w' (Z73 w0 (fun j=>F*Q j)))
    (hs:∀ F j w',Hold w0 w' (F*Q j)→Calls Tryz.prog 37 #[ptrV t,m] w' (AdPost w0 (fun j2=>F*Q2 j2) ph att a)) :
    Calls Tryz.prog 39 #[ptrV t,m,i.val] w (AdPost w0 Q2 ph att a):=by
  have H1:=hid ((h.newBlk (t:=28) (cs:=i.cells)).newBlk (t:=52) (cs:=#[.int .i64 0,.int .i64 0,.int .i64 0,.int .i64 0,.int .i64 0,.int .i64 0,.int .u64 0,.int .u64 0,.bool false]))
  have HR:=hid hr
  have HS:=hid hs
  obtain ⟨op,hop⟩:∃ op,op=i.op:=⟨_,rfl⟩
  have HOP:=hid hop
  rw [← hop] at h1
  clear h hr hs hop
  go_enter Tryz.func39,Tryz.ntmps39
  go_upto_region 1 with fail
  have h2:=H1.out
  rw [show (w.alloc (.cells i.cells 28)).heap.size=w.heap.size + 1 by simp] at h2
  generalize hW:World.alloc _ _=W at h2 ⊢
  generalize w.heap.size=gi at h2 ⊢
  clear hW H1
  obtain ⟨gs,hgs⟩:∃ gs,gs=gi + 1:=⟨_,rfl⟩
  rw [← hgs] at h2 ⊢
  clear hgs
  have q0:W.cell? ⟨gi,0,none⟩=some (.int .i64 op):=by have:=h2.drop.blk.some_ (i:=0) (u:=.int .i64 i.op) rfl;rw [← HOP.out] at this;exact this
  have hb:=h2.drop.blk
  have HRR:=hid (HR.out _ _ h2.join)
  clear h2 HR
  rcases h1 with rfl | rfl | rfl
  all_goals
    go_wp2_with (refine Z04 rfl 28 _ rfl gi _ _ rfl Tryz.isAgg28 _ Tryz.sizeOf28 hb rfl ?_)
    refine HRR.out.mono ?_
    rintro e w3 ⟨j,rfl,h3⟩
    have HSS:=hid (HS.out _ _ _ h3)
    clear HRR hb q0 h3
    go_wp2_with fail
    refine HSS.out.mono ?_
    rintro e w4 ⟨j2,v,l,rfl,hl,h4⟩
    have h5:=h4.swap.part.imp (Imp.under _ (Imp.drop _ _))
    clear HSS h4
    go_wp2_with (refine Z03 rfl 52 _ _ rfl gs _ _ (stC 0 ph att a) rfl rfl _ Tryz.sizeOf52 h5 rfl rfl rfl ?_;intro w7 h11)
    have HF:Hid (AdPost w0 Q2 ph att a (.returned (.tuple #[stV 0 ph att a,v])) w7):=hid ⟨j2,v,l,rfl,hl,h11.drop⟩
    exact bodyPost_ret (Z06 Tryz.results39 _ rfl Tryz.isAgg52 _ Tryz.sizeOf52 h11.blk rfl) rfl HF.out
set_option maxHeartbeats 4000000 in
theorem Z95 {X:ThR} (h:Hold w0 w (thA t c x*R)) (h1:i.op=1∨i.op=3) (ha:X.attempt = .pointer none)
    (hl:∀ F w',Hold w0 w' (F*(thA t c x*R))→Calls Tryz.prog 70 #[ptrV t,i.val] w' fun e w''=>e = .returned (.tuple #[])∧Hold w0 w'' (F*(thA t c X*R))) :
    Calls Tryz.prog 39 #[ptrV t,m,i.val] w (AdPost w0 (fun _:Unit=>thA t c X*R) 0 0 acc0):=by
  have H1:=hid ((h.newBlk (t:=28) (cs:=i.cells)).newBlk (t:=52) (cs:=#[.int .i64 0,.int .i64 0,.int .i64 0,.int .i64 0,.int .i64 0,.int .i64 0,.int .u64 0,.int .u64 0,.bool false]))
  have HR:=hid hl
  have HA:=hid ha
  obtain ⟨op,hop⟩:∃ op,op=i.op:=⟨_,rfl⟩
  have HOP:=hid hop
  rw [← hop] at h1
  clear h hl hop ha
  go_enter Tryz.func39,Tryz.ntmps39
  go_upto_region 1 with fail
  have h2:=H1.out
  rw [show (w.alloc (.cells i.cells 28)).heap.size=w.heap.size + 1 by simp] at h2
  generalize hW:World.alloc _ _=W at h2 ⊢
  generalize w.heap.size=gi at h2 ⊢
  clear hW H1
  obtain ⟨gs,hgs⟩:∃ gs,gs=gi + 1:=⟨_,rfl⟩
  rw [← hgs] at h2 ⊢
  clear hgs
  have q0:W.cell? ⟨gi,0,none⟩=some (.int .i64 op):=by have:=h2.drop.blk.some_ (i:=0) (u:=.int .i64 i.op) rfl;rw [← HOP.out] at this;exact this
  have hb:=h2.drop.blk
  have HRR:=hid (HR.out _ _ h2.join)
  clear h2 HR
  rcases h1 with rfl | rfl
  all_goals
    go_wp2_with (refine Z04 rfl 28 _ rfl gi _ _ rfl Tryz.isAgg28 _ Tryz.sizeOf28 hb rfl ?_)
    refine HRR.out.mono ?_
    rintro e w4 ⟨rfl,h4⟩
    have h5:=h4.part.imp (Imp.under _ (Imp.drop _ _))
    have q1:=h5.drop.Zme
    rw [HA.out] at q1
    clear HRR h4 hb q0
    go_wp2_with (refine Z03 rfl 52 _ _ rfl gs _ _ (stC 0 0 0 acc0) rfl rfl _ Tryz.sizeOf52 h5 rfl rfl rfl ?_;intro w7 h11)
    have HF:Hid (AdPost w0 (fun _:Unit=>thA t c X*R) 0 0 acc0 (.returned (.tuple #[stV 0 0 0 acc0,.slice none 0 0])) w7):=hid ⟨(),_,[],rfl,by decide,h11.drop.nilEv⟩
    exact bodyPost_ret (Z06 Tryz.results39 _ rfl Tryz.isAgg52 _ Tryz.sizeOf52 h11.blk rfl) rfl HF.out
set_option maxHeartbeats 4000000 in
theorem Z94 {X:ThR} (h:Hold w0 w (thA t c x*R)) (h1:i.op=1∨i.op=3) (ha:X.attempt=ptrV g)
    (hl:∀ F w',Hold w0 w' (F*(thA t c x*R))→Calls Tryz.prog 70 #[ptrV t,i.val] w' fun e w''=>e = .returned (.tuple #[])∧Hold w0 w'' (F*(thA t c X*R))) :
    Calls Tryz.prog 39 #[ptrV t,m,i.val] w (AdPost w0 (fun _:Unit=>thA t c X*R) 0 X.count acc0):=by
  have H1:=hid ((h.newBlk (t:=28) (cs:=i.cells)).newBlk (t:=52) (cs:=#[.int .i64 0,.int .i64 0,.int .i64 0,.int .i64 0,.int .i64 0,.int .i64 0,.int .u64 0,.int .u64 0,.bool false]))
  have HR:=hid hl
  have HA:=hid ha
  obtain ⟨op,hop⟩:∃ op,op=i.op:=⟨_,rfl⟩
  have HOP:=hid hop
  rw [← hop] at h1
  clear h hl hop ha
  go_enter Tryz.func39,Tryz.ntmps39
  go_upto_region 1 with fail
  have h2:=H1.out
  rw [show (w.alloc (.cells i.cells 28)).heap.size=w.heap.size + 1 by simp] at h2
  generalize hW:World.alloc _ _=W at h2 ⊢
  generalize w.heap.size=gi at h2 ⊢
  clear hW H1
  obtain ⟨gs,hgs⟩:∃ gs,gs=gi + 1:=⟨_,rfl⟩
  rw [← hgs] at h2 ⊢
  clear hgs
  have q0:W.cell? ⟨gi,0,none⟩=some (.int .i64 op):=by have:=h2.drop.blk.some_ (i:=0) (u:=.int .i64 i.op) rfl;rw [← HOP.out] at this;exact this
  have hb:=h2.drop.blk
  have HRR:=hid (HR.out _ _ h2.join)
  clear h2 HR
  rcases h1 with rfl | rfl
  all_goals
    go_wp2_with (refine Z04 rfl 28 _ rfl gi _ _ rfl Tryz.isAgg28 _ Tryz.sizeOf28 hb rfl ?_)
    refine HRR.out.mono ?_
    rintro e w4 ⟨rfl,h4⟩
    have h5:=h4.part.imp (Imp.under _ (Imp.drop _ _))
    have q1:=h5.drop.Zme
    rw [HA.out] at q1
    have q2:=h5.drop.th_count
    clear HRR h4 hb q0
    go_wp2_with (refine Z03 rfl 52 _ _ rfl gs _ _ (stC 0 0 X.count acc0) rfl rfl _ Tryz.sizeOf52 h5 rfl rfl rfl ?_;intro w7 h11)
    have HF:Hid (AdPost w0 (fun _:Unit=>thA t c X*R) 0 X.count acc0 (.returned (.tuple #[stV 0 0 X.count acc0,.slice none 0 0])) w7):=hid ⟨(),_,[],rfl,by decide,h11.drop.nilEv⟩
    exact bodyPost_ret (Z06 Tryz.results39 _ rfl Tryz.isAgg52 _ Tryz.sizeOf52 h11.blk rfl) rfl HF.out
set_option maxHeartbeats 8000000 in
theorem Z7q {ι2:Type} {Q2:ι2→Asr} (h:Hold w0 w (thA t c x*R)) (h1:i.op=7) (htr:0≤x.tries∧x.tries≤1000000) (hct:0≤x.count∧x.count≤1000000)
    (hs:∀ F g gs gl ge w',Hold w0 w' (F*(thA t c { x with begin_:=x.pc,saved:=x.regs,tries:=x.tries + 1,attempt:=ptrV g,seen:=.slice none 0 0,count:=x.count + 1 }*(atA g c { Z5y gs gl x.id with state:=1,at_:=2,enter:=ptrV ge }*(enA ge x.id 0 0*(stA gs (Z08 c.reads) []*(lgA gl (newL c.writes)*R))))))→Calls Tryz.prog 37 #[ptrV t,m] w' (AdPost w0 (fun j2=>F*Q2 j2) ph att a)) :
    Calls Tryz.prog 39 #[ptrV t,m,i.val] w (AdPost w0 Q2 ph att a):=by
  have H1:=hid ((h.newBlk (t:=28) (cs:=i.cells)).newBlk (t:=52) (cs:=#[.int .i64 0,.int .i64 0,.int .i64 0,.int .i64 0,.int .i64 0,.int .i64 0,.int .u64 0,.int .u64 0,.bool false]))
  have HS:=hid hs
  have HOP:=hid h1
  clear h hs h1
  obtain ⟨tr,htr2⟩:∃ tr,tr=x.tries:=⟨_,rfl⟩
  obtain ⟨ct,hct2⟩:∃ ct,ct=x.count:=⟨_,rfl⟩
  have HT:=hid (And.intro htr2 hct2)
  rw [← htr2] at htr
  rw [← hct2] at hct
  clear htr2 hct2
  go_enter Tryz.func39,Tryz.ntmps39
  go_upto_region 1 with fail
  have h2:=H1.out
  rw [show (w.alloc (.cells i.cells 28)).heap.size=w.heap.size + 1 by simp] at h2
  generalize hW:World.alloc _ _=W at h2 ⊢
  generalize w.heap.size=gi at h2 ⊢
  clear hW H1
  obtain ⟨gs,hgs⟩:∃ gs,gs=gi + 1:=⟨_,rfl⟩
  rw [← hgs] at h2 ⊢
  clear hgs
  have q0:W.cell? ⟨gi,0,none⟩=some (.int .i64 7):=by have:=h2.drop.blk.some_ (i:=0) (u:=.int .i64 i.op) rfl;rw [HOP.out] at this;exact this
  replace h2:Hold w0 W (blkA 52 gs #[.int .i64 0,.int .i64 0,.int .i64 0,.int .i64 0,.int .i64 0,.int .i64 0,.int .u64 0,.int .u64 0,.bool false]*(thA t c x*R)):=h2.imp (Imp.under _ (Imp.drop _ _))
  go_upto_region 3 with fail
  go_cut [] (fun wx=>Hold w0 wx (blkA 52 gs #[.int .i64 0,.int .i64 0,.int .i64 0,.int .i64 0,.int .i64 0,.int .i64 0,.int .u64 0,.int .u64 0,.bool false]*(thA t c { x with begin_:=x.pc,saved:=x.regs }*R)))
  case first =>
    clear q0
    replace h2:=h2.swap.drew
    obtain ⟨R1,hR1⟩:∃ R1,R1=blkA 52 gs #[.int .i64 0,.int .i64 0,.int .i64 0,.int .i64 0,.int .i64 0,.int .i64 0,.int .u64 0,.int .u64 0,.bool false]*R:=⟨_,rfl⟩
    rw [← hR1] at h2
    have hS:∀ w' b0 sv0,Hold w0 w' (thA t c { x with begin_:=b0,saved:=sv0 }*R1)→w'.cell? ⟨t,32,none⟩=some (.int .i64 x.pc):=fun w' b0 sv0 h=>h.th_pc
    have HS2:=hid hS
    have HR1:=hid hR1
    clear hR1 hS
    have h:Hold w0 W.drew (fnA 116 t 46 (thF c { x with begin_:=x.begin_,saved:=x.saved })*R1):=h2
    clear h2
    refine Z01 [] (by kernel_rfl) ?_
    generalize hW:W.drew=W1 at h ⊢
    clear hW
    refine Z05 (fun w'=>w'.cell? ⟨t,32,none⟩=some (.int .i64 x.pc)) (fun _ _=>trivial) _ _ _ _ ?_
    refine' wbk [true,true,true,true,true,true,true,true,true,true,true] 103 (HS2.out _ _ _ h) (fun wq hq=>?_) ?_;rotate_left
    · simp only [Z00]
      repeat (go_big_quiet_step (fail))
      exact wpQuiet_nil rfl
    refine wbr [false,false,false,false,false,false,false,false,false,false,false,true] (fuel:=8) (fun QB hQB hQX=>?_)
    simp only [Z00]
    go_wp2_with (refine Z0s rfl 61 _ rfl t 33 116 46 _ #[.int .u64 (x.regs 0),.int .u64 (x.regs 1),.int .u64 (x.regs 2),.int .u64 (x.regs 3),.int .u64 (x.regs 4),.int .u64 (x.regs 5),.int .u64 (x.regs 6),.int .u64 (x.regs 7)] rfl Tryz.isAgg61 8 Tryz.sizeOf61 h rfl (by decide) ?_)
    refine hQB.out _ _ (HS2.out _ _ _ h) ?_
    clear hQB hQX QB
    refine' wbk [false,false,false,false,false,false,false,false,false,false,false,false,true,true,true] 103 (HS2.out _ _ _ h) (fun wq hq=>?_) ?_;rotate_left
    · simp only [Z00]
      repeat (go_big_quiet_step (fail))
      exact wpQuiet_nil rfl
    refine wbr [false,false,false,false,false,false,false,false,false,false,false,false,false,false,false,true] (fuel:=4) (fun QB hQB hQX=>?_)
    simp only [Z00]
    have p1:=Hold.th_begin_ h
    have z1:=Hold.thZ h 1
    have H:=hid (Hold.th_begin__set h x.pc)
    clear h
    go_wp2_with fail
    refine hQB.out _ _ (HS2.out _ _ _ H.out) ?_
    clear hQB hQX QB p1 z1
    have h:=H.out
    generalize hW:World.setCell _ _ _=W2 at h ⊢
    clear hW H
    refine' wbk [false,false,false,false,false,false,false,false,false,false,false,false,false,false,false,false,true,true,true] 103 (HS2.out _ _ _ h) (fun wq hq=>?_) ?_;rotate_left
    · simp only [Z00]
      repeat (go_big_quiet_step (fail))
      exact wpQuiet_nil rfl
    refine wbr [false,false,false,false,false,false,false,false,false,false,false,false,false,false,false,false,false,false,false,true] (fuel:=0) (fun QB hQB hQX=>?_)
    simp only [Z00]
    go_wp2_with (refine Z0o rfl 61 _ _ rfl t 2 116 46 _ #[.int .u64 (x.regs 0),.int .u64 (x.regs 1),.int .u64 (x.regs 2),.int .u64 (x.regs 3),.int .u64 (x.regs 4),.int .u64 (x.regs 5),.int .u64 (x.regs 6),.int .u64 (x.regs 7)] rfl rfl _ Tryz.sizeOf61 h rfl (by decide) rfl ?_;intro w5 h5)
    first | (have hh:Hold w0 _ (thA t c { x with begin_:=x.pc,saved:=x.saved }*R1):=h;have h6:Hold w0 w5 (thA t c { x with begin_:=x.pc,saved:=x.regs }*R1):=Hold.Zmm h5 (by kernel_rfl)) | (have hh:Hold w0 _ (thA t c { x with begin_:=x.begin_,saved:=x.saved }*R1):=h;have h6:Hold w0 w5 (thA t c { x with begin_:=x.begin_,saved:=x.regs }*R1):=Hold.Zmm h5 (by kernel_rfl))
    clear hh
    refine hQB.out _ _ (HS2.out _ _ _ h6) ?_
    clear hQB hQX QB h5 h
    have h:=h6
    clear h6
    refine Z02 (by kernel_rfl) ?_ _
    rw [HR1.out] at h
    go_wp2_with fail
    go_meet
    exact Hold.swap h
  case rest =>
  clear h2 q0
  rename World=>w3
  have h3:=hcut.swap
  clear hcut
  have p1:=h3.th_tries
  rw [show ({ x with begin_:=x.pc,saved:=x.regs }:ThR).tries=x.tries from rfl,← HT.out.1] at p1
  have z1:=h3.thZ 10
  have H4:=hid (h3.th_tries_set (tr + 1))
  clear h3
  go_upto_region 5 with fail
  have h4:=H4.out
  generalize hW:World.setCell _ _ _=W4 at h4 ⊢
  clear hW H4 p1 z1
  have hst:=Zg6 h4 (by rw [show ({ x with begin_:=x.pc,saved:=x.regs,tries:=tr + 1 }:ThR).count=x.count from rfl,← HT.out.2];exact hct)
  have HST:=hid hst
  clear h4 hst
  go_wp2_with fail
  refine HST.out.mono ?_
  rintro e w5 ⟨g,gst,gl,ge,rfl,h5⟩
  have h6:Hold w0 w5 (blkA 52 gs #[.int .i64 0,.int .i64 0,.int .i64 0,.int .i64 0,.int .i64 0,.int .i64 0,.int .u64 0,.int .u64 0,.bool false]*(thA t c { x with begin_:=x.pc,saved:=x.regs,tries:=x.tries + 1,attempt:=ptrV g,seen:=.slice none 0 0,count:=x.count + 1 }*(atA g c { Z5y gst gl x.id with state:=1,at_:=2,enter:=ptrV ge }*(enA ge x.id 0 0*(stA gst (Z08 c.reads) []*(lgA gl (newL c.writes)*R)))))):=by
    have h7:=h5.pk6 [5,0,1,2,3,4]
    rw [HT.out.1] at h7
    exact h7
  have HSS:=hid (HS.out _ _ _ _ _ _ h6)
  clear h5 h6 HST
  go_wp2_with fail
  refine HSS.out.mono ?_
  rintro e w6 ⟨j2,v,l,rfl,hl,h7⟩
  have h8:=h7.swap
  clear h7 HSS
  go_wp2_with (refine Z03 rfl 52 _ _ rfl gs _ _ (stC 0 ph att a) rfl rfl _ Tryz.sizeOf52 h8 rfl rfl rfl ?_;intro w7 h11)
  have HF:Hid (AdPost w0 Q2 ph att a (.returned (.tuple #[stV 0 ph att a,v])) w7):=hid ⟨j2,v,l,rfl,hl,h11.drop⟩
  exact bodyPost_ret (Z06 Tryz.results39 _ rfl Tryz.isAgg52 _ Tryz.sizeOf52 h11.blk rfl) rfl HF.out
end
def Asr.exs {α:Type} (φ:α→Prop) (ps:α→List Asr):Asr:=Asr.ex fun a:{ a:α // φ a }=>sepR (ps a.1) Asr.emp
theorem Hold.Zm8 {α:Type} {φ:α→Prop} {ps:α→List Asr} {w0 w:World} {R:Asr} (h:Hold w0 w (Asr.exs φ ps*R)):∃ a,φ a∧Hold w0 w (sepR (ps a) R):=by
  obtain ⟨⟨a,ha⟩,h⟩:=h.exOpen
  exact ⟨a,ha,h.imp (Imp.flat _ _)⟩
theorem Hold.Zm9 {α:Type} {φ:α→Prop} {ps:α→List Asr} {w0 w:World} {R:Asr} (a:α) (ha:φ a) (h:Hold w0 w (sepR (ps a) R)):Hold w0 w (Asr.exs φ ps*R) :=
  Hold.exClose (x:=⟨a,ha⟩) (h.imp (Imp.fold _ _))
section
variable {w0 w:World} {R a1 a2 a3 a4 a5 a6 a7 a8 a9 b0 b1:Asr}
theorem Hold.pk10 (h:Hold w0 w (a1*(a2*(a3*(a4*(a5*(a6*(a7*(a8*(a9*(b0*R))))))))))) (is:List Nat) (hn:is.Nodup∧∀ i ∈ is,i < 10:=by decide):Hold w0 w (sepR (is.map fun i=>[a1,a2,a3,a4,a5,a6,a7,a8,a9,b0].getD i Asr.emp) R):=h.imp (Imp.pick R is [a1,a2,a3,a4,a5,a6,a7,a8,a9,b0] hn.1 hn.2)
theorem Hold.pk11 (h:Hold w0 w (a1*(a2*(a3*(a4*(a5*(a6*(a7*(a8*(a9*(b0*(b1*R)))))))))))) (is:List Nat) (hn:is.Nodup∧∀ i ∈ is,i < 11:=by decide):Hold w0 w (sepR (is.map fun i=>[a1,a2,a3,a4,a5,a6,a7,a8,a9,b0,b1].getD i Asr.emp) R):=h.imp (Imp.pick R is [a1,a2,a3,a4,a5,a6,a7,a8,a9,b0,b1] hn.1 hn.2)
end
structure AQ where
  x:AtR
  ge:Nat
  gk:Nat
  gw:Nat
  gt:Nat
  gb:Nat
  Bs:Option Addr
  Bc:Nat
  Co:Option Addr
  Cc:Nat
  ls:Int
def AC (c:Cfg) (id:Int) (T:TS) (q:AQ):Prop:=q.x.enter=ptrV q.ge∧q.x.th=id∧q.x.state=1∧q.x.allocs = .slice none 0 0∧q.x.frees = .slice none 0 0∧q.x.pushed=0∧q.x.seen = .slice q.Bs T.sn.length q.Bc∧0≤q.x.clock∧q.x.clock≤1000
def lokC (c:Cfg) (T:TS) (q:AQ):Prop:=if T.L.addrs=[] then q.x.orecs = .slice none 0 0 else q.x.lock=ptrV q.gk∧q.x.orecs = .slice q.Co (osT c T).length q.Cc
def lokA (c:Cfg) (id:Int) (T:TS) (q:AQ):Asr:=if T.L.addrs=[] then Asr.emp else lkA q.gk id (osT c T) T.old false q.ls*queA 3 (.slice q.Co (osT c T).length q.Cc) (iL (osT c T))
def acL (g:Nat) (c:Cfg) (id:Int) (T:TS) (q:AQ) (k:Int) (ck:Int):List Asr:=[atA g c q.x,enA q.ge id k ck,stA q.x.set (Z08 c.reads) T.S,lgA q.x.log T.L,queA 3 (.slice q.Bs T.sn.length q.Bc) (iL T.sn)]
def phC (c:Cfg) (id:Int) (T:TS) (q:AQ):Ph→Prop
  | .none=>False
  | .ent1 | .ent2=>AC c id T q∧q.x.at_=2∧q.x.orecs = .slice none 0 0
  | .idle=>AC c id T q∧q.x.at_=0∧q.x.orecs = .slice none 0 0
  | .rd1 ad bf=>AC c id T q∧q.x.at_=3∧q.x.orecs = .slice none 0 0∧q.x.loads=1∧q.x.read=ptrV q.gk∧q.x.addr=ad∧q.x.use_=Z1z q.gb
  | .rd2 ad bf vl=>AC c id T q∧q.x.at_=3∧q.x.orecs = .slice none 0 0∧q.x.loads=2∧q.x.read=ptrV q.gk∧q.x.addr=ad∧q.x.use_=Z1z q.gb
  | .lk ld sn=>AC c id T q∧q.x.at_=5∧q.x.code=1∧q.x.lock=ptrV q.gk∧q.x.orecs = .slice q.Co (osT c T).length q.Cc
  | .take=>AC c id T q∧q.x.at_=6∧q.x.code=1∧q.x.turn=ptrV q.gt∧lokC c T q
  | .wait tk=>AC c id T q∧q.x.at_=6∧q.x.code=1∧q.x.turn=ptrV q.gt∧lokC c T q
  | .chk tk zs=>AC c id T q∧q.x.at_=7∧q.x.code=1∧q.x.turn=ptrV q.gt∧lokC c T q∧q.x.check=ptrV q.gw
  | .dec tk=>AC c id T q∧q.x.at_=8∧q.x.code=1∧q.x.turn=ptrV q.gt∧lokC c T q
  | .wr tk ck k=>AC c id T q∧q.x.at_=9∧q.x.code=1∧q.x.turn=ptrV q.gt∧q.x.orecs = .slice q.Co (osT c T).length q.Cc∧q.x.clock=ck∧q.x.decided=true∧q.x.write=ptrV q.gw
  | .rel tk ck k st=>AC c id T q∧q.x.at_=10∧q.x.code=T.code∧q.x.turn=ptrV q.gt∧q.x.release=ptrV q.gw∧(st=true→q.x.clock=ck∧q.x.decided=true)
  | .stamp tk ck=>AC c id T q∧q.x.at_=11∧q.x.code=T.code∧q.x.turn=ptrV q.gt∧q.x.clock=ck
  | .pass tk=>AC c id T q∧q.x.at_=12∧q.x.code=T.code∧q.x.turn=ptrV q.gt
  | .leave=>q.x.at_=14∧q.x.code=T.code∧q.x.state=1∧q.x.frees = .slice none 0 0∧q.x.th=id
def phL (g:Nat) (c:Cfg) (id:Int) (T:TS) (q:AQ):Ph→List Asr
  | .none=>[]
  | .ent1=>acL g c id T q 1 0
  | .ent2=>acL g c id T q 2 T.rv
  | .idle=>acL g c id T q 3 T.rv
  | .rd1 ad bf=>rdA q.gk ad (ad % c.orecs) T.rv 1 bf 0 false :: blkA 108 q.gb #[ptrV g] :: acL g c id T q 3 T.rv
  | .rd2 ad bf vl=>rdA q.gk ad (ad % c.orecs) T.rv 2 bf vl false :: blkA 108 q.gb #[ptrV g] :: acL g c id T q 3 T.rv
  | .lk ld sn=>lkA q.gk id (osT c T) T.old ld sn :: queA 3 (.slice q.Co (osT c T).length q.Cc) (iL (osT c T)) :: acL g c id T q 3 T.rv
  | .take=>tuA q.gt false 0 false :: lokA c id T q :: acL g c id T q 3 T.rv
  | .wait tk=>tuA q.gt true tk false :: lokA c id T q :: acL g c id T q 3 T.rv
  | .chk tk zs=>tuA q.gt true tk true :: lokA c id T q :: chkA q.gw zs T.rv false :: acL g c id T q 3 T.rv
  | .dec tk=>tuA q.gt true tk true :: lokA c id T q :: acL g c id T q 3 T.rv
  | .wr tk ck k=>[tuA q.gt true tk true,wrA q.gw (T.L.addrs.drop k) (T.L.vals.drop k),queA 3 (.slice q.Co (osT c T).length q.Cc) (iL (osT c T)),atA g c q.x,lgA q.x.log T.L]
  | .rel tk ck k st=>[tuA q.gt true tk true,reA q.gw ((osT c T).drop k) (if st then List.replicate ((osT c T).length - k) ((ck + 1)*64) else T.old.drop k),atA g c q.x,lgA q.x.log T.L]
  | .stamp tk ck=>[tuA q.gt true tk true,atA g c q.x]
  | .pass tk=>[tuA q.gt true tk true,atA g c q.x]
  | .leave=>[atA g c q.x]
def atS (g:Nat) (c:Cfg) (id:Int) (T:TS):Asr:=Asr.exs (fun q=>phC c id T q T.ph) (fun q=>phL g c id T q T.ph)
def atI (g:Nat) (c:Cfg) (id:Int) (T:TS) (v:Int):Asr:=Asr.exs (fun q=>phC c id T q .idle∧q.x.value=v) (fun q=>phL g c id T q .idle)
theorem Imp.exs {α β:Type} {φ:α→Prop} {ps:α→List Asr} {φ':β→Prop} {ps':β→List Asr} (f:α→β) (h:∀ a,φ a→φ' (f a)∧ps' (f a)=ps a):Imp (Asr.exs φ ps) (Asr.exs φ' ps'):=by
  rintro w fp ⟨⟨a,ha⟩,hp⟩
  have hp2:(sepR (ps' (f a)) Asr.emp).P w fp:=by rw [(h a ha).2];exact hp
  exact ⟨fp,⟨⟨f a,(h a ha).1⟩,hp2⟩,fun b hb=>hb⟩
theorem Zfi {g:Nat} {c:Cfg} {id:Int} {T:TS} {v:Int} (h:T.ph = .idle):Imp (atI g c id T v) (atS g c id T):=by
  unfold atI atS
  rw [h]
  exact Imp.exs (fun a=>a) fun a ha=>⟨ha.1,rfl⟩
theorem Zfh {g:Nat} {c:Cfg} {id:Int} {T:TS} {w0 w:World} {R:Asr} (hq:T.ph = .idle) (h:Hold w0 w (atS g c id T*R)):∃ v,Hold w0 w (atI g c id T v*R):=by
  unfold atS at h
  rw [hq] at h
  obtain ⟨q,h1,h2⟩:=h.Zm8
  exact ⟨q.x.value,h2 |> Hold.Zm9 q ⟨h1,rfl⟩⟩
theorem APostX.mono {ι κ:Type} {w0:World} {Q:ι→Asr} {Q':κ→Asr} {a:Acc} {p:Int} {e:Ending} {w:World} (h:APostX w0 Q a p e w) (k:∀ i w',Hold w0 w' (Q i)→∃ j,Hold w0 w' (Q' j)):APostX w0 Q' a p e w:=by
  obtain ⟨i,h1,h2⟩:=h
  obtain ⟨j,h3⟩:=k i w h2
  exact ⟨j,h1,h3⟩
section
variable {w0 w:World} {R R':Asr} {g m:Nat} {c:Cfg} {id:Int} {T:TS} {C C2:Cells} {a:Acc}
theorem Zi3 {gs gl ge:Nat} {th:Int} (h:Hold w0 w (atA g c { Z5y gs gl id with state:=1,at_:=2,enter:=ptrV ge }*(enA ge id 0 0*(stA gs (Z08 c.reads) []*(lgA gl (newL c.writes)*(memA m C*R)))))) (hC:COk C) (hid:0≤id∧id≤100) :
    Calls Tryz.prog 57 #[ptrV g,ptrV m] w (APostX (ι:=Unit) w0 (fun _=>atS g c id (T.begun c)*(memA m (opC C 6 id 1 true)*R)) (stA2 C 6 id 1) 2):=by
  have key:Calls Tryz.prog 57 #[ptrV g,ptrV m] w (APostX (ι:=Unit) w0 (fun _=>atA g c { Z5y gs gl id with state:=1,at_:=2,enter:=ptrV ge }*(enA ge id 1 0*(memA m (opC C 6 id 1 true)*(stA gs (Z08 c.reads) []*(lgA gl (newL c.writes)*R))))) (stA2 C 6 id 1) 2):=by
    refine Z3e h rfl (fun w' gr h=>?_)
    refine (Z8r (h.pk6 [1,2,5,3,4,0]) rfl hC ⟨Int.le_refl 0,by decide⟩ hid rfl rfl).mono ?_
    rintro e w'' ⟨rfl,h2⟩
    exact ⟨(),rfl,h2.pk6 [5,0,1,2,3,4]⟩
  refine key.mono fun e w' h=>h.mono fun _ w'' h=>⟨(),?_⟩
  exact Hold.Zm9 (AQ.mk { Z5y gs gl id with state:=1,at_:=2,enter:=ptrV ge } ge 0 0 0 0 none 0 none 0 0) ⟨⟨rfl,rfl,rfl,rfl,rfl,rfl,rfl,Int.le_refl 0,by show (0:Int)≤1000;decide⟩,rfl,rfl⟩ ((h.nilQue 3).pk6 [1,2,4,5,0,3])
end
end Go.Proofs.YtmlfangeanmmeaaGreatDoor
