/-
  What the proof of TopTransfers leans on, part 45 of 48: Yc. No statement of its own.
-/
import Derived.Test.YtmlfangeanmmeaaGreatDoorTm44
namespace Go.Proofs.YtmlfangeanmmeaaGreatDoor
set_option maxRecDepth 8000
open Go.RowKit
set_option linter.unusedVariables false
set_option maxHeartbeats 8000000 in
theorem topTransfers_any (a0 m0 m1 m2 p0 p1 p2:Int) (A:Option Addr) (len cap:Nat) (w:World) (hk:∀ j,j < len→∃ ad z,A=some ad∧w.cell? (ad.add j)=some (.int .i64 z)) (hF:FormsAt w) :
    Calls Tryz.prog 3 #[.int .i64 a0,.agg #[.int .i64 m0,.int .i64 m1,.int .i64 m2],.agg #[.int .i64 p0,.int .i64 p1,.int .i64 p2],.slice A len cap] w fun e w'=>e = .returned (.bool true)∧Below w.heap.size w w':=by
  have h0:=Hold.start w
  have HF:=hid hF
  have HK:=hid hk
  clear hF hk
  have h1:=(h0.newBlk (t:=22) (cs:=#[.int .i64 m0,.int .i64 m1,.int .i64 m2])).newBlk (t:=22) (cs:=#[.int .i64 p0,.int .i64 p1,.int .i64 p2])
  rw [show (w.alloc (.cells #[.int .i64 m0,.int .i64 m1,.int .i64 m2] 22)).heap.size=w.heap.size + 1 by simp] at h1
  have H1:=hid h1
  clear h0 h1
  by_cases hl:len≤300
  · have hd : decide ((300:Int) < (len:Int))=false:=decide_eq_false (by omega)
    have hd':decide (300 < len)=false:=decide_eq_false (by omega)
    go_enter Tryz.func3,Tryz.ntmps3
    go_upto_region 1 with fail
    have h1:=H1.out
    generalize hW:World.alloc (World.alloc _ _) _=W at h1 ⊢
    generalize w.heap.size + 1=g6 at h1 ⊢
    generalize w.heap.size=g5 at h1 ⊢
    clear hW H1
    have H:=hid ((h1.imp (Imp.Zmd _)).nilQue 29 |>.pk4 [0,2,3,1])
    clear h1
    go_wp2_with fail
    go_loopw [9,10] (fun pv i wr=>∃ (t:Nat) (gs:Nat→Nat) (P:TPar),t≤2∧i = .int .i64 (t:Int)∧(∀ i,i < t→(0≤P.m i∧P.m i≤1000)∧(0≤P.a i∧P.a i < 4)∧(0≤P.b i∧P.b i < 4))∧Hold w wr (queA 29 pv (mvU gs t)*(blkA 22 g6 #[.int .i64 p0,.int .i64 p1,.int .i64 p2]*(blkA 22 g5 #[.int .i64 m0,.int .i64 m1,.int .i64 m2]*(sepR (mvL gs P t) Asr.emp*Asr.emp))))) (fun _ i _=>2 - (intOf i).toNat)
    case atStart=>exact ⟨0,fun _=>0,⟨fun _=>0,fun _=>0,fun _=>0⟩,by decide,rfl,fun i hi=>(by omega),H.out⟩
    case round =>
      clear H
      obtain ⟨t,gs,P,ht,rfl,hP,h⟩:=hrel
      have hul:(mvU gs t).length=t:=by unfold mvU;simp
      obtain ⟨A7,c7,rfl⟩:=h.Zmc
      rw [hul] at h ⊢
      by_cases hlt:t < 2
      · have e1:decide ((t:Int) < 2)=true:=decide_eq_true (by omega)
        have e1':decide (t < 2)=true:=decide_eq_true hlt
        have k0:(0:Int)≤(t:Int):=by omega
        have k1:(t:Int) < 3:=by omega
        obtain ⟨pz,hpz⟩:∃ z:Int,(#[.int .i64 p0,.int .i64 p1,.int .i64 p2]:Array Value)[t]?=some (.int .i64 z):=by
          match t,hlt with
          | 0,_=>exact ⟨p0,rfl⟩
          | 1,_=>exact ⟨p1,rfl⟩
        obtain ⟨mz,hmz⟩:∃ z:Int,(#[.int .i64 m0,.int .i64 m1,.int .i64 m2]:Array Value)[t]?=some (.int .i64 z):=by
          match t,hlt with
          | 0,_=>exact ⟨m0,rfl⟩
          | 1,_=>exact ⟨m1,rfl⟩
        have HU:=hid (And.intro hul (And.intro hP hmz))
        have hS:∀ w' X Y,Hold w w' (X*(blkA 22 g6 #[.int .i64 p0,.int .i64 p1,.int .i64 p2]*Y))→w'.cell? ⟨g6,t,none⟩=some (.int .i64 pz):=fun w' X Y h=>h.drop.blk.some_ hpz
        have HS:=hid hS
        have H:=hid h
        clear h hP hul hmz hpz hS
        go_upto_region 7 with fail
        have h:=H.out.drew
        clear H
        refine Z01 [] (by kernel_rfl) ?_
        generalize hW:World.drew _=W3 at h ⊢
        clear hW
        refine Z05 (fun w'=>w'.cell? ⟨g6,t,none⟩=some (.int .i64 pz)) (fun _ _=>trivial) _ _ _ _ ?_
        refine' wbk [true,true,true,false,true,true,true,true] 219 (HS.out _ _ _ h) (fun wq hq=>?_) ?_;rotate_left
        · simp only [Z00]
          have q2:=hq
          repeat (go_big_quiet_step (fail))
          exact wpQuiet_nil rfl
        refine wbr [false,false,false,true] (fuel:=3) (fun QB hQB hQX=>?_)
        simp only [Z00]
        go_wp2_with fail
        refine (Z4o _ _ 4 (by decide) (by decide)).mono ?_
        rintro e Wc ⟨ka,hka,rfl,rfl⟩
        go_wp2_with fail
        refine hQB.out _ _ (HS.out _ _ _ h) ?_
        clear hQB hQX QB
        refine wbr [false,false,false,false,false,false,false,false,true] (fuel:=2) (fun QB hQB hQX=>?_)
        simp only [Z00]
        go_wp2_with fail
        refine (Z4o _ _ 4 (by decide) (by decide)).mono ?_
        rintro e Wc ⟨kb,hkb,rfl,rfl⟩
        go_wp2_with fail
        refine hQB.out _ _ (HS.out _ _ _ h) ?_
        clear hQB hQX QB
        refine' wbk [false,false,false,false,false,false,false,false,false,true,true] 219 (HS.out _ _ _ h) (fun wq hq=>?_) ?_;rotate_left
        · simp only [Z00]
          repeat (go_big_quiet_step (fail))
          exact wpQuiet_nil rfl
        refine Z02 (by kernel_rfl) ?_ _
        have H3:=hid h
        clear h HS
        go_upto_region 8 with fail
        have q3:W3.cell? ⟨g5,t,none⟩=some (.int .i64 mz):=(H3.out.pk3 [2]).blk.some_ HU.out.2.2
        obtain ⟨iP,hiP,zp0,zp1,zp2⟩:∃ i,Tryz.prog.info? 29=some i∧i.zero=some (.slice none 0 0)∧i.size=1∧i.bytes=24:=by
          have hi:=Z6q
          revert hi
          cases Tryz.prog.info? 29 with
          | none=>intro hi;cases hi
          | some i =>
            intro hi
            simp only [Option.map_some,Option.some.injEq,Prod.mk.injEq] at hi
            exact ⟨i,rfl,hi.1,hi.2.1,hi.2.2⟩
        go_wp2_with fail
        refine (Z4o _ _ 50 (by decide) (by decide)).mono ?_
        rintro e w' ⟨km,hkm,rfl,rfl⟩
        have h4:=H3.out.newBlk (t:=28) (cs:=#[.int .i64 1,.int .i64 2,.int .i64 0,.int .i64 0,.int .i64 (km:Int),.int .i64 7,.int .i64 0,.int .i64 0,.int .i64 0,.int .i64 8,.int .i64 10,.int .i64 1,.int .i64 0,.int .i64 0,.int .i64 (ka:Int),.int .i64 3,.int .i64 1,.int .i64 1,.int .i64 2,.int .i64 1,.int .i64 11,.int .i64 0,.int .i64 1,.int .i64 0,.int .i64 (ka:Int),.int .i64 10,.int .i64 1,.int .i64 0,.int .i64 0,.int .i64 (kb:Int),.int .i64 3,.int .i64 1,.int .i64 1,.int .i64 2,.int .i64 0,.int .i64 11,.int .i64 0,.int .i64 1,.int .i64 0,.int .i64 (kb:Int),.int .i64 8,.int .i64 0,.int .i64 0,.int .i64 0,.int .i64 0])
        clear q3 H3
        have HLT:Hid ((mvU gs t).length≤1000000):=hid (by rw [HU.out.1];omega)
        have HKK:=hid (And.intro hkm (And.intro hka hkb))
        clear hkm hka hkb
        have H4:=hid (h4.pk5 [1,0,2,3,4])
        clear h4
        go_wp2_with (at_builtin;refine Za8 rfl _ _ 25 rfl iP (.slice none 0 0) 24 Tryz.underlying25 hiP zp0 zp1 zp2 rfl (.slice (some ⟨W3.heap.size,0,none⟩) 9 9) _ rfl H4.out _ rfl (by simp) rfl HLT.out (by decide) ?_;intro v8 w8 h8;have H8:=hid h8;clear H4 h8)
        go_roundw
        case rel =>
          obtain ⟨hkm,hka,hkb⟩:=HKK.out
          have h9:Hold w w8 (queA 29 v8 (mvU gs t++[.slice (some ⟨W3.heap.size,0,none⟩) 9 9])*(blkA 28 W3.heap.size (insL (Z88 km ka kb)).toArray*(blkA 22 g6 #[.int .i64 p0,.int .i64 p1,.int .i64 p2]*(blkA 22 g5 #[.int .i64 m0,.int .i64 m1,.int .i64 m2]*(sepR (mvL gs P t) Asr.emp*Asr.emp))))):=H8.out
          have h10:Hold w w8 (sepR (mvL gs P t++[blkA 28 W3.heap.size (insL (Z88 km ka kb)).toArray]) Asr.emp*(queA 29 v8 (mvU gs t++[.slice (some ⟨W3.heap.size,0,none⟩) 9 9])*(blkA 22 g6 #[.int .i64 p0,.int .i64 p1,.int .i64 p2]*(blkA 22 g5 #[.int .i64 m0,.int .i64 m1,.int .i64 m2]*Asr.emp)))):=((h9.pk5 [4,1,0,2,3]).join).imp (Imp.on _ (Z2p _ _))
          rw [← Zlc,← Zlb] at h10
          exact ⟨t + 1,upN gs t W3.heap.size,P.up t km ka kb,by omega,by go_num,TParOk.up HU.out.2.1 (by omega) (by omega) (by omega),h10.pk4 [1,2,3,0]⟩
        case measure=>simp [intOf];omega
      · obtain rfl:2=t:=by omega
        have e1:decide (((2:Nat):Int) < 2)=false:=rfl
        have hP2:TParOk P:=⟨fun i hi=>(hP i hi).1,fun i hi=>(hP i hi).2.1,fun i hi=>(hP i hi).2.2⟩
        have HP:=hid hP2
        obtain ⟨RR,hRR⟩:∃ RR:Asr,RR=queA 29 (.slice A7 2 c7) (mvU gs 2)*(sepR (mvL gs P 2) Asr.emp*Asr.emp):=⟨_,rfl⟩
        have h2:Hold w wr RR:=by rw [hRR];exact h.pk4 [0,3]
        have HRR:=hid hRR
        have h3:=h2.newRowS (e:=28) (size:=5) (cs:=#[.int .i64 7,.int .i64 0,.int .i64 0,.int .i64 0,.int .i64 8]) rfl
        have H:=hid h3
        clear h h2 h3 hRR hP hP2 hul
        go_wp2_with fail
        go_loopw [13,14] (fun av i wr=>∃ k:Nat,k≤4∧i = .int .i64 (k:Int)∧Hold w wr (rowT 28 5 av (1 + 2*k) (insL (aPart.take (1 + 2*k)))*RR)) (fun _ i _=>4 - (intOf i).toNat)
        case atStart=>exact ⟨0,by decide,rfl,H.out⟩
        case round =>
          clear H
          obtain ⟨k,hk,rfl,h⟩:=hrel
          obtain ⟨A8,c8,rfl⟩:=h.Zmb
          obtain ⟨iO,hiO,zo0,zo1,zo2⟩:∃ i,Tryz.prog.info? 28=some i∧i.zero=some (.agg #[.int .i64 0,.int .i64 0,.int .i64 0,.int .i64 0,.int .i64 0])∧i.size=5∧i.bytes=40:=by
            have hi:=Z8e
            revert hi
            cases Tryz.prog.info? 28 with
            | none=>intro hi;cases hi
            | some i =>
              intro hi
              simp only [Option.map_some,Option.some.injEq,Prod.mk.injEq] at hi
              exact ⟨i,rfl,hi.1,hi.2.1,hi.2.2⟩
          by_cases hlt2:k < 4
          · have e2:decide ((k:Int) < 4)=true:=decide_eq_true (by omega)
            have e2':decide (k < 4)=true:=decide_eq_true hlt2
            have h2:=(h.newBlk (t:=28) (cs:=#[.int .i64 10,.int .i64 1,.int .i64 0,.int .i64 0,.int .i64 (k:Int),.int .i64 3,.int .i64 3,.int .i64 3,.int .i64 1,.int .i64 0])).pk2 [1,0]
            have hr:0 < 2→∃ ad:Addr,(some ⟨wr.heap.size,0,none⟩:Option Addr)=some ad∧∀ (j:Nat) (u:Value),([.int .i64 10,.int .i64 1,.int .i64 0,.int .i64 0,.int .i64 (k:Int),.int .i64 3,.int .i64 3,.int .i64 3,.int .i64 1,.int .i64 0]:List Value)[j]?=some u→(wr.alloc (.cells #[.int .i64 10,.int .i64 1,.int .i64 0,.int .i64 0,.int .i64 (k:Int),.int .i64 3,.int .i64 3,.int .i64 3,.int .i64 1,.int .i64 0] 28)).cell? (ad.add j)=some u:=fun _=>⟨_,rfl,fun j u hj=>by
              rw [Addr.add_lit,Nat.zero_add]
              exact (h2.pk2 [1]).blk.some_ (by rw [← hj];simp)⟩
            have HR:=hid hr
            have H2:=hid h2
            have HAS:=hid (Zht hlt2)
            clear h h2 hr
            go_wp2_with (at_builtin;refine Z1f rfl _ _ 29 rfl 28 iO (.agg #[.int .i64 0,.int .i64 0,.int .i64 0,.int .i64 0,.int .i64 0]) 5 40 Tryz.underlying29 hiO zo0 zo1 zo2 rfl (by decide) (.slice A8 (1 + 2*k) c8) (1 + 2*k) (insL (aPart.take (1 + 2*k))) [.int .i64 10,.int .i64 1,.int .i64 0,.int .i64 0,.int .i64 (k:Int),.int .i64 3,.int .i64 3,.int .i64 3,.int .i64 1,.int .i64 0] rfl H2.out (some ⟨wr.heap.size,0,none⟩) 2 2 rfl rfl HR.out rfl (by omega) (by decide) ?_;intro A3 c3 y4 h5;have H5:=hid (h5.imp (Imp.under _ (Imp.drop _ _)));clear h5 H2 HR)
            go_roundw
            case rel =>
              refine ⟨k + 1,by omega,by go_num,?_⟩
              rw [HAS.out]
              exact H5.out
            case measure=>simp [intOf];omega
          · obtain rfl:4=k:=by omega
            have e2:decide (((4:Nat):Int) < 4)=false:=rfl
            rw [show 1 + 2*4=9 from rfl] at h ⊢
            have h2:=(h.newBlk (t:=28) (cs:=#[.int .i64 8,.int .i64 0,.int .i64 0,.int .i64 0,.int .i64 0,.int .i64 1,.int .i64 3,.int .i64 0,.int .i64 0,.int .i64 0])).pk2 [1,0]
            have hr:0 < 2→∃ ad:Addr,(some ⟨wr.heap.size,0,none⟩:Option Addr)=some ad∧∀ (j:Nat) (u:Value),([.int .i64 8,.int .i64 0,.int .i64 0,.int .i64 0,.int .i64 0,.int .i64 1,.int .i64 3,.int .i64 0,.int .i64 0,.int .i64 0]:List Value)[j]?=some u→(wr.alloc (.cells #[.int .i64 8,.int .i64 0,.int .i64 0,.int .i64 0,.int .i64 0,.int .i64 1,.int .i64 3,.int .i64 0,.int .i64 0,.int .i64 0] 28)).cell? (ad.add j)=some u:=fun _=>⟨_,rfl,fun j u hj=>by
              rw [Addr.add_lit,Nat.zero_add]
              exact (h2.pk2 [1]).blk.some_ (by rw [← hj];simp)⟩
            have HR:=hid hr
            have H2:=hid h2
            clear h h2 hr
            obtain ⟨iP,hiP,zp0,zp1,zp2⟩:∃ i,Tryz.prog.info? 29=some i∧i.zero=some (.slice none 0 0)∧i.size=1∧i.bytes=24:=by
              have hi:=Z6q
              revert hi
              cases Tryz.prog.info? 29 with
              | none=>intro hi;cases hi
              | some i =>
                intro hi
                simp only [Option.map_some,Option.some.injEq,Prod.mk.injEq] at hi
                exact ⟨i,rfl,hi.1,hi.2.1,hi.2.2⟩
            have HLT:Hid ((mvU gs 2).length≤1000000):=hid (by show 2≤1000000;decide)
            go_wp2_with (first | (at_builtin;refine Z1f rfl _ _ 29 rfl 28 iO (.agg #[.int .i64 0,.int .i64 0,.int .i64 0,.int .i64 0,.int .i64 0]) 5 40 Tryz.underlying29 hiO zo0 zo1 zo2 rfl (by decide) (.slice A8 9 c8) 9 (insL (aPart.take 9)) [.int .i64 8,.int .i64 0,.int .i64 0,.int .i64 0,.int .i64 0,.int .i64 1,.int .i64 3,.int .i64 0,.int .i64 0,.int .i64 0] rfl H2.out (some ⟨wr.heap.size,0,none⟩) 2 2 rfl rfl HR.out rfl (by decide) (by decide) ?_;intro A3 c3 y4 h5;have h6:=(h5.imp (Imp.under _ (Imp.drop _ _)));rw [HRR.out] at h6;have H6:=hid (h6.pk2 [1,0]);clear h5 h6 H2 HR) | (at_builtin;refine Z16 rfl _ _ 25 rfl iP (.slice none 0 0) 24 Tryz.underlying25 hiP zp0 zp1 zp2 rfl _ _ rfl H6.out rfl rfl HLT.out (by decide) ?_;intro v8 w8 h8;obtain ⟨A9,c9,rfl⟩:∃ A c,v8 = .slice A 3 c:=(by obtain ⟨A,c,h⟩:=h8.Zmc;exact ⟨A,c,h⟩);have H8:=hid h8;clear h8))
            refine (Z4o _ a0 5 (by decide) (by decide)).mono ?_
            rintro e w' ⟨oc,ho,rfl,rfl⟩
            have h9:Hold w w8 (queA 29 (.slice A9 3 c9) (mvU gs 2++[.slice A3 11 c3])*(rowT 28 5 (.slice A3 11 c3) 11 (insL aPart)*(sepR (mvL gs P 2) Asr.emp*Asr.emp))):=H8.out
            have h2:=h9.newBlk (t:=32) (cs:=(tCfg oc).cells)
            clear H8 h9
            go_upto_region 16 with fail
            generalize hW:World.alloc _ _=W2 at h2 ⊢
            generalize w8.heap.size=gc at h2 ⊢
            clear hW
            have hb:=h2.blk
            have h3:=h2.newQue 34 #[.int .u64 10,.int .u64 20,.int .u64 30,.int .u64 40] 4 rfl (by decide)
            have HO:=hid ho
            clear h2
            go_wp2_with (refine Z04 rfl 32 _ rfl gc _ _ rfl Tryz.isAgg32 _ Tryz.sizeOf32 hb rfl ?_)
            generalize hW:World.alloc _ _=W3 at h3 ⊢
            generalize W2.heap.size=gi at h3 ⊢
            clear hW hb
            have h4:Hold w W3 (queA 29 (.slice A9 3 c9) (mvU gs 2++[.slice A3 11 c3])*(rowT 28 5 (.slice A3 11 c3) 11 (insL aPart)*(sepR (mvL gs P 2) Asr.emp*(queA 34 (.slice (some ⟨gi,0,none⟩) 4 4) [.int .u64 10,.int .u64 20,.int .u64 30,.int .u64 40]*(blkA 32 gc (tCfg oc).cells*Asr.emp))))):=h3.pk5 [2,3,4,0,1]
            clear h3
            refine (rep_any (n:=3) (rr:=3) (m:=len) (c:=tCfg oc) (q:=Z99 P) (Ai:=some ⟨gi,0,none⟩) (wn:=4) (ci:=4) h4 ⟨by decide,by decide⟩ rfl (fun t ht=>tSrc t ht) (by decide) hl HK.out).mono ?_
            rintro e w5 ⟨pv',vs,kv,ks,rfl,hvs,hks,hkr,h5⟩
            clear h4
            rw [Zg8] at h5
            have E:=tEnv (o:=oc) (by have:=HO.out;omega) HP.out
            have HR:=hid (Zid (I:=RT (tCfg oc) P) (c:=tCfg oc) (ps:=Z42 P) (n:=3) (ks:=ks) (Ai:=some ⟨gi,0,none⟩) (ci:=4) (init:=[10,20,30,40]) (bA:=gi) (vs:=vs) (pv:=pv') (kv:=kv) h5 HF.out (fun i hi=>PgOk.of HF.out (E.prog i hi)) (Z7t (by have:=HO.out;omega)) ⟨by decide,by decide⟩ hvs rfl (by omega) hkr (fun F w' hh=>hh.drop.drop.drop.drop.queReads) (RT.new (Z7t (by have:=HO.out;omega)) rfl (Zak oc)) (fun gm B M i hB hI hi=>hI.pick E HP.out rfl (by show 4≤Z1s (4:Int);decide) HF.out hi (by omega)) (fun M hI=>by
              obtain ⟨⟨H,m,hIT⟩,_,hB⟩:=hI
              exact ⟨hIT.gen.shp.ok,by omega,fun i hi=>by have:=(hIT.gen.wf i hi).seenl.2.1;omega⟩))
            have HKS:=hid hks
            clear h5 hvs hkr hks E
            go_wp2_with fail
            refine HR.out.mono ?_
            rintro e w6 ⟨M,y,thv,stv,Ae,ne,ce,obv,os,hI,hos,rfl,h6⟩
            clear HR
            obtain ⟨⟨H,mE,hIT⟩,_,hB⟩:=hI
            have hrun:=hIT.run
            have hobs:=hIT.pa.obs
            have hobl:=(hIT.gen.wf 2 (by decide)).seenl.2.1
            clear hIT
            unfold resA at h6
            obtain ⟨nl,hnl⟩:∃ nl,nl=M.steps.length:=⟨_,rfl⟩
            obtain ⟨As,cs,rfl⟩:∃ A c,stv = .slice A nl c:=by rw [hnl];exact h6.part.Zmb
            obtain ⟨At,ct,rfl⟩:∃ A c,thv = .slice A 3 c:=h6.part.drop.part.Zmb
            obtain ⟨go,oo,co,rfl⟩:∃ g o c,obv = .slice (some ⟨g,o,none⟩) 3 c:=by rw [← hos];exact h6.part.drop.part.drop.part.queAd (by omega)
            obtain ⟨ov,hov⟩:∃ ov,os[2]?=some ov:=⟨_,List.getElem?_eq_getElem (by omega)⟩
            obtain ⟨ob,hob⟩:∃ ob,ob=(M.th 2).obs:=⟨_,rfl⟩
            have h8:Hold w w6 (rowT 52 9 (.slice As nl cs) nl (stL M.steps)*(queA 53 (.slice (some ⟨go,oo,none⟩) 3 co) os*(obsA ov ob*Asr.emp))):=by
              rw [hnl,hob]
              have a1:=h6.part
              rw [hnl] at a1
              have a2:=((a1.pk2 [1,0]).part.drop.part.pk3 [2,0,1]).pk3 [0,1,2]
              have e2:os.getD 2 undef=ov:=by rw [List.getD_eq_getElem?_getD,hov];rfl
              have a3:=(a1.imp (Imp.under _ (Imp.on _ ((Imp.drop _ _).trans (Imp.under _ ((Imp.nth _ Asr.emp _ 2 (Zl9 (by decide))).trans (Imp.under _ (Imp.toEmp _))))))))
              rw [e2] at a3
              exact a3.imp (Imp.under _ ((Imp.assoc _ _ _).trans (Imp.under _ ((Imp.assoc _ _ _).trans (Imp.under _ (Imp.toEmp _))))))
            have h9:=h8.newBlk (t:=42) (cs:=#[.slice none 0 0,.slice none 0 0,.int .u64 0,.int .u64 0,.int .u64 0,.slice none 0 0,.slice none 0 0,.slice none 0 0,.slice none 0 0,.slice none 0 0,.slice none 0 0,.slice none 0 0])
            have HM:=hid (And.intro hrun hnl)
            have HOB:=hid (And.intro hobs (And.intro hob hov))
            have hnl2:nl≤300:=by have:=HKS.out;omega
            have hob3:ob.length≤300:=by rw [hob];have:=HKS.out;omega
            clear h6 h8 hrun hobs hnl hB hos hob hov hobl
            go_upto_region 19 with (refine Z03 rfl 42 _ _ rfl _ _ _ (resC M.C y (.slice At 3 ct) (.slice As nl cs) (.slice Ae ne ce) (.slice (some ⟨go,oo,none⟩) 3 co)) rfl rfl _ Tryz.sizeOf42 h9 rfl rfl rfl ?_;intro w7 h11;clear h9)
            generalize w6.heap.size=g12 at h11 ⊢
            have h12:=h11.newBlk (t:=34) (cs:=#[.int .u64 10,.int .u64 20,.int .u64 30,.int .u64 40])
            clear h11
            go_upto_region 20 with fail
            generalize hW:World.alloc _ _=W8 at h12 ⊢
            generalize w7.heap.size=gd at h12 ⊢
            clear hW
            have H:=hid h12
            clear h12
            go_wp2_with fail
            go_loopw [21,22] (fun wv i wr=>∃ (j:Nat) (m:MonT),j≤nl∧wv = .bool m.writing∧i = .int .i64 (j:Int)∧Z43 mon0T (M.steps.take j)=some m∧Hold w wr (blkA 34 gd (datL m)*(blkA 42 g12 (resC M.C y (.slice At 3 ct) (.slice As nl cs) (.slice Ae ne ce) (.slice (some ⟨go,oo,none⟩) 3 co))*(rowT 52 9 (.slice As nl cs) nl (stL M.steps)*(queA 53 (.slice (some ⟨go,oo,none⟩) 3 co) os*(obsA ov ob*Asr.emp)))))) (fun _ i _=>nl - (intOf i).toNat)
            case atStart=>exact ⟨0,mon0T,Nat.zero_le _,rfl,rfl,rfl,H.out⟩
            case round =>
              clear H
              obtain ⟨j,m,hj,rfl,rfl,hm,h⟩:=hrel
              by_cases hlt2:j < nl
              · have e3:decide ((j:Int) < (nl:Int))=true:=decide_eq_true (by omega)
                have e3':decide (j < nl)=true:=decide_eq_true hlt2
                have j0:(0:Int)≤(j:Int):=by omega
                have j1:(j:Int) < (nl:Int):=by omega
                obtain ⟨x,hx⟩:∃ x,M.steps[j]?=some x:=⟨_,List.getElem?_eq_getElem (by have:=HM.out.2;omega)⟩
                obtain ⟨m',hm',ht'⟩:=Zd7 HM.out.1 hx hm
                have hcase:=Zh4 hm'
                obtain ⟨gst,rfl,hcv,-⟩:=(h.pk3 [2]).rowSBlk (by decide) (by omega)
                obtain ⟨th,ph,att,kd,cl,ix,gt,pt,dn⟩:=x
                have HCV:Hid (∀ (jj:Nat) (u:Value),(stC th ph att ⟨kd,cl,ix,gt,pt,dn⟩).toList[jj]?=some u→wr.cell? ⟨gst,j*9 + jj,none⟩=some u):=hid (fun jj u hu=>hcv _ _ (Zi6 M.steps j _ jj u hx hu))
                dsimp only at hcase
                have p9:=(h.pk2 [1]).blk.some_ (i:=9) rfl
                have H1:=hid (h.newBlk (t:=52) (cs:=stC th ph att ⟨kd,cl,ix,gt,pt,dn⟩))
                have HC:=hid (And.intro hcase ht')
                clear h hx hm hm' ht' hcase hcv
                go_upto_region 25 with (refine Z2i rfl 52 _ rfl ⟨gst,j*9,none⟩ (stC th ph att ⟨kd,cl,ix,gt,pt,dn⟩) rfl Tryz.isAgg52 9 Tryz.sizeOf52 ?_ rfl ?_)
                · exact HCV.out
                have h1:=H1.out
                generalize hW:World.alloc _ _=W5 at h1 ⊢
                generalize wr.heap.size=gx at h1 ⊢
                clear hW H1 HCV p9
                have x1:=h1.blk.some_ (i:=1) rfl
                have x5:=h1.blk.some_ (i:=5) rfl
                have x7:=h1.blk.some_ (i:=7) rfl
                have H1:=hid h1
                clear h1
                obtain ⟨D,b⟩:=m
                rcases HC.out.1 with ⟨rfl,hi0,hi4,rfl⟩ | ⟨rfl,rfl,hsum⟩ | ⟨n17,n19,rfl,hws⟩
                · obtain ⟨i,rfl⟩:∃ i:Nat,ix=(i:Int):=⟨ix.toNat,by omega⟩
                  have i4:i < 4:=by omega
                  have f1:decide ((i:Int) < 0)=false:=decide_eq_false (by omega)
                  have f2:decide (4≤(i:Int))=false:=decide_eq_false (by omega)
                  have f2':decide (4≤i)=false:=decide_eq_false (by omega)
                  have h1:=H1.out
                  have p:=h1.drop.blk.some_ (i:=i) (Z18 (m:=⟨D,b⟩) i4)
                  have fz:=h1.drop.blk.frozen i
                  have h2:=(h1.pk2 [1]).Zm7 i (.int .u64 pt)
                  rw [Zho (b:=true)] at h2
                  have hC:=HC.out.2
                  try dsimp only at hC h2
                  generalize upD D (i:Int) pt=D2 at h2 hC
                  have HCC:=hid hC
                  have H3:=hid h2
                  clear h1 h2 hC H1 HC
                  go_upto_region 33 with fail
                  have h:=H3.out.drew
                  clear H3 p fz x1 x5 x7
                  refine Z01 [] (by kernel_rfl) ?_
                  generalize hW:World.drew _=W7 at h ⊢
                  clear hW
                  refine Z05 (fun w'=>w'.cell? ⟨gd,0,none⟩=some (.int .u64 (D2 0))∧w'.cell? ⟨gd,1,none⟩=some (.int .u64 (D2 1))∧w'.cell? ⟨gd,2,none⟩=some (.int .u64 (D2 2))∧w'.cell? ⟨gd,3,none⟩=some (.int .u64 (D2 3))) (fun _ _=>trivial) _ _ _ _ ?_
                  refine' wbk [true,true,true,true,true,true,true,true,true,true,true,true,true,true,true,true,true,true,true,true] 219 ⟨h.blk.some_ (Z18 (m:=⟨D2,true⟩) (by decide)),h.blk.some_ (Z18 (m:=⟨D2,true⟩) (by decide)),h.blk.some_ (Z18 (m:=⟨D2,true⟩) (by decide)),h.blk.some_ (Z18 (m:=⟨D2,true⟩) (by decide))⟩ (fun wq hq=>?_) ?_;rotate_left
                  · simp only [Z00]
                    obtain ⟨s0,s1,s2,s3⟩:=hq
                    repeat (go_big_quiet_step (fail))
                    exact wpQuiet_nil rfl
                  refine Z02 (by kernel_rfl) ?_ _
                  have H3:=hid h
                  clear h
                  go_wp2_with fail
                  go_roundw
                  case rel=>exact ⟨j + 1,⟨D2,true⟩,hlt2,rfl,by go_num,HCC.out,H3.out⟩
                  case measure=>simp [intOf];omega
                · have hC:=HC.out.2
                  try dsimp only at hC hsum
                  have gs1:(IntKind.u64.wrap (IntKind.u64.wrap (IntKind.u64.wrap (D 0 + D 1) + D 2) + D 3) == 100)=true:=by rw [Zg9 hsum];rfl
                  have gs2:(IntKind.u64.wrap (IntKind.u64.wrap (IntKind.u64.wrap (D 0 + D 1) + D 2) + D 3) != 100)=false:=by rw [Zg9 hsum];rfl
                  have HCC:=hid hC
                  have H3:=hid H1.out
                  clear hC H1 HC hsum
                  go_upto_region 33 with fail
                  have h:=H3.out.drew
                  clear H3 x1 x5 x7
                  have h:Hold w _ (blkA 52 gx (stC th 19 att ⟨kd,cl,ix,gt,pt,dn⟩)*(blkA 34 gd (datL ⟨D,false⟩)*(blkA 42 g12 (resC M.C y (.slice At 3 ct) (.slice (some ⟨gst,0,none⟩) nl cs) (.slice Ae ne ce) (.slice (some ⟨go,oo,none⟩) 3 co))*(rowT 52 9 (.slice (some ⟨gst,0,none⟩) nl cs) nl (stL M.steps)*(queA 53 (.slice (some ⟨go,oo,none⟩) 3 co) os*(obsA ov ob*Asr.emp)))))):=h
                  refine Z01 [] (by kernel_rfl) ?_
                  generalize hW:World.drew _=W7 at h ⊢
                  clear hW
                  refine Z05 (fun w'=>w'.cell? ⟨gd,0,none⟩=some (.int .u64 (D 0))∧w'.cell? ⟨gd,1,none⟩=some (.int .u64 (D 1))∧w'.cell? ⟨gd,2,none⟩=some (.int .u64 (D 2))∧w'.cell? ⟨gd,3,none⟩=some (.int .u64 (D 3))) (fun _ _=>trivial) _ _ _ _ ?_
                  refine' wbk [true,true,true,true,true,true,true,true,true,true,true,true,true,true,true,true,true,true,true,true] 219 ⟨h.drop.blk.some_ (Z18 (m:=⟨D,false⟩) (by decide)),h.drop.blk.some_ (Z18 (m:=⟨D,false⟩) (by decide)),h.drop.blk.some_ (Z18 (m:=⟨D,false⟩) (by decide)),h.drop.blk.some_ (Z18 (m:=⟨D,false⟩) (by decide))⟩ (fun wq hq=>?_) ?_;rotate_left
                  · simp only [Z00]
                    obtain ⟨s0,s1,s2,s3⟩:=hq
                    repeat (go_big_quiet_step (fail))
                    exact wpQuiet_nil rfl
                  refine Z02 (by kernel_rfl) ?_ _
                  have H3:=hid h
                  clear h
                  go_wp2_with fail
                  go_roundw
                  case rel=>exact ⟨j + 1,⟨D,false⟩,hlt2,rfl,by go_num,HCC.out,H3.out.drop⟩
                  case measure=>simp [intOf];omega
                · have g17:(ph == 17)=false:=beq_eq_false_iff_ne.2 n17
                  have g19:(ph == 19)=false:=beq_eq_false_iff_ne.2 n19
                  have hC:=HC.out.2
                  try dsimp only at hC hws
                  have HCC:=hid hC
                  clear hC HC n17 n19
                  cases b with
                  | true =>
                  clear hws
                  have H3:=hid H1.out
                  clear H1
                  go_upto_region 33 with fail
                  have h:=H3.out.drew
                  clear H3 x1 x5 x7
                  refine Z01 [] (by kernel_rfl) ?_
                  generalize hW:World.drew _=W7 at h ⊢
                  clear hW
                  refine Z05 (fun w'=>w'.cell? ⟨gd,0,none⟩=some (.int .u64 (D 0))∧w'.cell? ⟨gd,1,none⟩=some (.int .u64 (D 1))∧w'.cell? ⟨gd,2,none⟩=some (.int .u64 (D 2))∧w'.cell? ⟨gd,3,none⟩=some (.int .u64 (D 3))) (fun _ _=>trivial) _ _ _ _ ?_
                  refine' wbk [true,true,true,true,true,true,true,true,true,true,true,true,true,true,true,true,true,true,true,true] 219 ⟨h.drop.blk.some_ (Z18 (m:=⟨D,true⟩) (by decide)),h.drop.blk.some_ (Z18 (m:=⟨D,true⟩) (by decide)),h.drop.blk.some_ (Z18 (m:=⟨D,true⟩) (by decide)),h.drop.blk.some_ (Z18 (m:=⟨D,true⟩) (by decide))⟩ (fun wq hq=>?_) ?_;rotate_left
                  · simp only [Z00]
                    obtain ⟨s0,s1,s2,s3⟩:=hq
                    repeat (go_big_quiet_step (fail))
                    exact wpQuiet_nil rfl
                  refine Z02 (by kernel_rfl) ?_ _
                  have H3:=hid h
                  clear h
                  go_wp2_with fail
                  go_roundw
                  case rel=>exact ⟨j + 1,⟨D,true⟩,hlt2,rfl,by go_num,HCC.out,H3.out.drop⟩
                  case measure=>simp [intOf];omega
                  | false =>
                  have hsum:sum4 D=100:=hws.resolve_left (by simp)
                  have gs1:(IntKind.u64.wrap (IntKind.u64.wrap (IntKind.u64.wrap (D 0 + D 1) + D 2) + D 3) == 100)=true:=by rw [Zg9 hsum];rfl
                  have gs2:(IntKind.u64.wrap (IntKind.u64.wrap (IntKind.u64.wrap (D 0 + D 1) + D 2) + D 3) != 100)=false:=by rw [Zg9 hsum];rfl
                  have H3:=hid H1.out
                  clear H1 hsum hws
                  go_upto_region 33 with fail
                  have h:=H3.out.drew
                  clear H3 x1 x5 x7
                  refine Z01 [] (by kernel_rfl) ?_
                  generalize hW:World.drew _=W7 at h ⊢
                  clear hW
                  refine Z05 (fun w'=>w'.cell? ⟨gd,0,none⟩=some (.int .u64 (D 0))∧w'.cell? ⟨gd,1,none⟩=some (.int .u64 (D 1))∧w'.cell? ⟨gd,2,none⟩=some (.int .u64 (D 2))∧w'.cell? ⟨gd,3,none⟩=some (.int .u64 (D 3))) (fun _ _=>trivial) _ _ _ _ ?_
                  refine' wbk [true,true,true,true,true,true,true,true,true,true,true,true,true,true,true,true,true,true,true,true] 219 ⟨h.drop.blk.some_ (Z18 (m:=⟨D,false⟩) (by decide)),h.drop.blk.some_ (Z18 (m:=⟨D,false⟩) (by decide)),h.drop.blk.some_ (Z18 (m:=⟨D,false⟩) (by decide)),h.drop.blk.some_ (Z18 (m:=⟨D,false⟩) (by decide))⟩ (fun wq hq=>?_) ?_;rotate_left
                  · simp only [Z00]
                    obtain ⟨s0,s1,s2,s3⟩:=hq
                    repeat (go_big_quiet_step (fail))
                    exact wpQuiet_nil rfl
                  refine Z02 (by kernel_rfl) ?_ _
                  have H3:=hid h
                  clear h
                  go_wp2_with fail
                  go_roundw
                  case rel=>exact ⟨j + 1,⟨D,false⟩,hlt2,rfl,by go_num,HCC.out,H3.out.drop⟩
                  case measure=>simp [intOf];omega
              · obtain rfl:nl=j:=by omega
                have e3:decide ((nl:Int) < (nl:Int))=false:=decide_eq_false (by omega)
                have e3':decide (nl < nl)=false:=decide_eq_false (by omega)
                obtain ⟨nb,hnb⟩:∃ nb,nb=ob.length:=⟨_,rfl⟩
                have h2:Hold w wr (rowT 55 3 ov nb (obL ob)*(blkA 42 g12 (resC M.C y (.slice At 3 ct) (.slice As nl cs) (.slice Ae ne ce) (.slice (some ⟨go,oo,none⟩) 3 co))*(queA 53 (.slice (some ⟨go,oo,none⟩) 3 co) os*(blkA 34 gd (datL m)*(rowT 52 9 (.slice As nl cs) nl (stL M.steps)*Asr.emp))))):=by rw [hnb];exact h.pk5 [4,1,3,0,2]
                obtain ⟨Ab,cb,rfl⟩:=h2.Zmb
                have p9:=(h2.pk2 [1]).blk.some_ (i:=9) rfl
                have p11:=(h2.pk2 [1]).blk.some_ (i:=11) rfl
                have hobs:obsO (0,0) ob=some (0,0):=by rw [HOB.out.2.1];exact HOB.out.1
                have HB:=hid (And.intro hobs HOB.out.2.2)
                have hnb3:nb≤300:=by omega
                have HNB:=hid hnb
                have H:=hid h2
                clear h h2 hob3 hnb hobs hm HOB
                go_wp2_with fail
                clear p9 p11
                go_loopw [24,25,26] (fun sv kv i wr=>∃ (j:Nat) (s k:Int),j≤nb∧sv = .int .u64 s∧kv = .int .i64 k∧i = .int .i64 (j:Int)∧0≤k∧k≤(j:Int)∧obsO (0,0) (ob.take j)=some (s,k)∧Hold w wr (rowT 55 3 (.slice Ab nb cb) nb (obL ob)*(blkA 42 g12 (resC M.C y (.slice At 3 ct) (.slice As nl cs) (.slice Ae ne ce) (.slice (some ⟨go,oo,none⟩) 3 co))*(queA 53 (.slice (some ⟨go,oo,none⟩) 3 co) os*(blkA 34 gd (datL m)*(rowT 52 9 (.slice As nl cs) nl (stL M.steps)*Asr.emp)))))) (fun _ _ i _=>nb - (intOf i).toNat)
                case atStart=>exact ⟨0,0,0,Nat.zero_le _,rfl,rfl,rfl,by decide,by decide,rfl,H.out⟩
                case round =>
                  clear H
                  obtain ⟨j2,s,k,hj2,rfl,rfl,rfl,hk0,hk1,hm2,h⟩:=hrel
                  have p11:=(h.pk2 [1]).blk.some_ (i:=11) rfl
                  have q2:=(h.pk3 [2]).queCell HB.out.2
                  by_cases hlt3:j2 < nb
                  · have e4:decide ((j2:Int) < (nb:Int))=true:=decide_eq_true (by omega)
                    have e4':decide (j2 < nb)=true:=decide_eq_true hlt3
                    have i0:(0:Int)≤(j2:Int):=by omega
                    have i1:(j2:Int) < (nb:Int):=by omega
                    obtain ⟨o,ho⟩:∃ o,ob[j2]?=some o:=⟨_,List.getElem?_eq_getElem (by have:=HNB.out;omega)⟩
                    obtain ⟨st',hst,hst'⟩:=Zeh HB.out.1 ho hm2
                    have hcase:=Zjr hst
                    obtain ⟨g3,rfl,hcv,-⟩:=h.rowSBlk (by decide) (by omega)
                    obtain ⟨opc,okd,ovl⟩:=o
                    have c1:=hcv _ _ (Zek ob j2 _ 1 _ ho rfl)
                    have c2:=hcv _ _ (Zek ob j2 _ 2 _ ho rfl)
                    dsimp only at hcase c1 c2
                    have HS:=hid hst'
                    have H:=hid h
                    clear h hst hst' hcv ho hm2
                    rcases hcase with ⟨rfl,rfl⟩ | ⟨rfl,hok,rfl⟩ | ⟨n1,n3,rfl⟩
                    · go_wp2_with fail
                      go_roundw
                      case rel=>exact ⟨j2 + 1,_,k + 1,hlt3,rfl,by go_num,by go_num,by omega,by omega,HS.out,H.out⟩
                      case measure=>simp [intOf];omega
                    · by_cases hv:ovl=1
                      · subst hv
                        obtain ⟨rfl,rfl⟩:=hok rfl
                        go_wp2_with fail
                        go_roundw
                        case rel=>exact ⟨j2 + 1,0,0,hlt3,rfl,rfl,by go_num,by decide,by omega,HS.out,H.out⟩
                        case measure=>simp [intOf];omega
                      · have v1:(ovl == 1)=false:=beq_eq_false_iff_ne.2 hv
                        clear hok hv
                        go_wp2_with fail
                        go_roundw
                        case rel=>exact ⟨j2 + 1,0,0,hlt3,rfl,rfl,by go_num,by decide,by omega,HS.out,H.out⟩
                        case measure=>simp [intOf];omega
                    · have k1:(okd == 1)=false:=beq_eq_false_iff_ne.2 n1
                      have k3:(okd == 3)=false:=beq_eq_false_iff_ne.2 n3
                      clear n1 n3
                      go_wp2_with fail
                      go_roundw
                      case rel=>exact ⟨j2 + 1,s,k,hlt3,rfl,rfl,by go_num,hk0,by omega,HS.out,H.out⟩
                      case measure=>simp [intOf];omega
                  · obtain rfl:nb=j2:=by omega
                    have e4:decide ((nb:Int) < (nb:Int))=false:=decide_eq_false (by omega)
                    have e4':decide (nb < nb)=false:=decide_eq_false (by omega)
                    have HH:=hid h
                    clear h
                    go_wp2_with fail
                    refine (awake21_any HF.out HH.out).mono ?_
                    rintro e w' ⟨rfl,h⟩
                    clear p11 q2
                    go_wp2_with fail
                    go_ret
                    exact ⟨rfl,h.below⟩
  · have hd:decide ((300:Int) < (len:Int))=true:=decide_eq_true (by omega)
    have hd':decide (300 < len)=true:=decide_eq_true (by omega)
    go_enter Tryz.func3,Tryz.ntmps3
    go_wp2_with fail
    refine (awake21_any HF.out H1.out).mono ?_
    rintro e w' ⟨rfl,h⟩
    go_wp2_with fail
    go_ret
    exact ⟨rfl,h.below⟩
end Go.Proofs.YtmlfangeanmmeaaGreatDoor
