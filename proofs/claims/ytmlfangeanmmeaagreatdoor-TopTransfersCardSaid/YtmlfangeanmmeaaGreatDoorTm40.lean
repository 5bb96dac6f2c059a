/-
  What the proof of TopTransfers leans on, part 40 of 48: Xm. No statement of its own.
-/
import Derived.Test.YtmlfangeanmmeaaGreatDoorTm20
import Derived.Test.YtmlfangeanmmeaaGreatDoorTm39
namespace Go.Proofs.YtmlfangeanmmeaaGreatDoor
set_option maxRecDepth 8000
open Go.RowKit
set_option linter.unusedVariables false
section
variable {w0 w:World} {R:Asr} {gm n:Nat} {c:Cfg} {ps:Nat→List InsR} {M:MS}
abbrev resC (C:Cells) (y:Lay) (thv stv evv obv:Value):Array Value:=#[slV C y 1,slV C y 2,.int .u64 (w1 C 3),.int .u64 (w1 C 4),.int .u64 (w1 C 5),slV C y 6,slV C y 7,slV C y 8,thv,stv,evv,obv]
set_option maxHeartbeats 4000000 in
theorem Zle (h:Hold w0 w (mcS gm c ps n M*R)) (hC:COk M.C) (hl:M.steps.length≤1000) (hn1:1≤n) (hn16:n≤16) (hob:∀ i,i < n→(M.th i).obs.length≤1000) :
    Calls Tryz.prog 13 #[ptrV gm] w fun e w'=>∃ y thv A k Ae ne ce obv os,e = .returned (.agg (resC M.C y thv (.slice A M.steps.length k) (.slice Ae ne ce) obv))∧os.length=n∧Hold w0 w' (rowT 52 9 (.slice A M.steps.length k) M.steps.length (stL M.steps)*(rowT 63 11 thv n (tsF ps M.th n)*(queA 53 obv os*(sepR (obF os M.th n) Asr.emp*R)))):=by
  obtain ⟨⟨m,thv,stv,evv,ts,es⟩,⟨hq1,hq2⟩,h⟩:=Z9q h
  replace h:Hold w0 w (blkA 78 gm #[ptrV m,thv,stv,evv]*(queA 81 thv (ts.map ptrV)*(rowT 52 9 stv M.steps.length (stL M.steps)*(evA evv es*(sepR (thsL ts c ps n M.th) Asr.emp*(memA m M.C*R)))))):=h
  replace hq1:ts.length=n:=hq1
  replace hq2:es.length≤M.steps.length:=hq2
  obtain ⟨At,ct,rfl⟩:=h.drop.Zmc
  obtain ⟨ad,rfl,hct⟩:∃ ad,At=some ad∧n≤ct:=by
    obtain ⟨fp,h1⟩:=h.drop.get
    obtain ⟨_,h3,_,b,h4,_⟩:=queReads h1
    rw [List.length_map] at h3 h4
    obtain ⟨ad2,hA,_⟩:=h4.cellAt (k:=0) (by omega)
    exact ⟨ad2,hA,by omega⟩
  rw [List.length_map,hq1] at h
  obtain ⟨Ae,ce,rfl⟩:∃ A c,evv = .slice A es.length c:=(h.pk4 [3]).part.Zmb
  obtain ⟨nl,hnl⟩:∃ nl,nl=M.steps.length:=⟨_,rfl⟩
  rw [← hnl] at h hl hq2 ⊢
  obtain ⟨ne,hne⟩:∃ ne,ne=es.length:=⟨_,rfl⟩
  rw [← hne] at h hq2
  have H:=hid ((h.pk5 [0,1,3,4,2]).newBlk (t:=42) (cs:=#[.slice none 0 0,.slice none 0 0,.int .u64 0,.int .u64 0,.int .u64 0,.slice none 0 0,.slice none 0 0,.slice none 0 0,.slice none 0 0,.slice none 0 0,.slice none 0 0,.slice none 0 0]))
  have HX:=hid (And.intro hC (And.intro hq1 (And.intro hne hob)))
  clear h hC hq1 hnl hne hob
  go_enter Tryz.func13,Tryz.ntmps13
  go_upto_region 3 with fail
  have h0:=H.out
  generalize hW:w.alloc _=W at h0 ⊢
  generalize w.heap.size=gr at h0 ⊢
  clear hW H
  have h:Hold w0 W (blkA 42 gr #[.slice none 0 0,.slice none 0 0,.int .u64 0,.int .u64 0,.int .u64 0,.slice none 0 0,.slice none 0 0,.slice none 0 0,.slice none 0 0,.slice none 0 0,.slice none 0 0,.slice none 0 0]*((blkA 78 gm #[ptrV m,.slice (some ad) n ct,stv,.slice Ae ne ce]*(queA 81 (.slice (some ad) n ct) (ts.map ptrV)*(evA (.slice Ae ne ce) es*sepR (thsL ts c ps n M.th) Asr.emp)))*(rowT 52 9 stv nl (stL M.steps)*(memA m M.C*R)))):=((((((h0.pk5 [3,4,0,1,2]).join).pk4 [3,0,1,2]).join).pk3 [2,0,1]).join).pk2 [1,0]
  clear h0
  have hS2:∀ w' X Y,Hold w0 w' (X*((blkA 78 gm #[ptrV m,.slice (some ad) n ct,stv,.slice Ae ne ce]*(queA 81 (.slice (some ad) n ct) (ts.map ptrV)*(evA (.slice Ae ne ce) es*sepR (thsL ts c ps n M.th) Asr.emp)))*Y))→w'.cell? ⟨gm,0,none⟩=some (ptrV m)∧w'.cell? ⟨gm,2,none⟩=some stv:=fun w' X Y h =>
    have b:=h.drop.part.blk
    ⟨b.some_ (i:=0) rfl,b.some_ (i:=2) rfl⟩
  have HS2:=hid hS2
  clear hS2
  go_cut [3] (fun s3 wx=>∃ g3 y A k,s3 = .pointer (some ⟨g3,0,none⟩)∧Hold w0 wx (blkA 42 g3 (resC M.C y (.slice none 0 0) (.slice A nl k) (.slice none 0 0) (.slice none 0 0))*(rowT 52 9 (.slice A nl k) nl (stL M.steps)*(blkA 42 gr #[.slice none 0 0,.slice none 0 0,.int .u64 0,.int .u64 0,.int .u64 0,.slice none 0 0,.slice none 0 0,.slice none 0 0,.slice none 0 0,.slice none 0 0,.slice none 0 0,.slice none 0 0]*((blkA 78 gm #[ptrV m,.slice (some ad) n ct,stv,.slice Ae ne ce]*(queA 81 (.slice (some ad) n ct) (ts.map ptrV)*(evA (.slice Ae ne ce) es*sepR (thsL ts c ps n M.th) Asr.emp)))*R)))))
  case first =>
    replace h:=h.drew
    refine Z01 [] (by kernel_rfl) ?_
    generalize hW:W.drew=Wc at h ⊢
    clear hW
    refine Z05 (fun w'=>w'.cell? ⟨gm,0,none⟩=some (ptrV m)∧w'.cell? ⟨gm,2,none⟩=some stv) (fun _ _=>trivial) _ _ _ _ ?_
    refine' wbk [true,true,true,true,false,true,true,true,true] 71 (HS2.out _ _ _ h) (fun wq hq=>?_) ?_;rotate_left
    · simp only [Z00]
      obtain ⟨q1,q2⟩:=hq
      repeat (go_big_quiet_step (fail))
      exact wpQuiet_nil rfl
    refine Z0n [false,false,false,false,true] [false,false,false,false,false,false,false,false,false,false,false,true] (fuel:=4) (by rfl) (by rfl) (by rfl) (by rfl) (by kernel_rfl) (fun QB hQB hQX=>?_) (fun QB hQB hQX=>?_)
    · simp only [Z00]
      go_wp2_with fail
      refine (image_any w0 Wc _ m M.C (h.pk4 [3,0,1,2]) HX.out.1).mono ?_
      rintro e Wc ⟨y,rfl,h⟩
      replace h:=((h.imp (Imp.rest _ _)).pk4 [1,2,3,0])
      go_wp2_with fail
      refine hQB.out _ _ (HS2.out _ _ _ h) ?_
      clear hQB hQX QB
      refine Z0n [false,false,false,false,false,false,false,false,false,true] [false,false,false,false,false,false,false,false,false,false,false,true] (fuel:=3) (by rfl) (by rfl) (by rfl) (by rfl) (by kernel_rfl) (fun QB hQB hQX=>?_) (fun QB hQB hQX=>?_)
      · simp only [Z00]
        go_wp2_with fail
        refine (Zbp (h.pk3 [2,0,1]) (by omega) (Z7u _)).mono ?_
        rintro e Wc ⟨A,k,rfl,h⟩
        replace h:=((h.pk4 [0,2,3,1]).join)
        go_wp2_with fail
        refine hQB.out _ _ (HS2.out _ _ _ h) ?_
        clear hQB hQX QB
        refine' wbk [false,false,false,false,false,false,false,false,false,false,true] 71 (HS2.out _ _ _ h) (fun wq hq=>?_) ?_;rotate_left
        · simp only [Z00]
          repeat (go_big_quiet_step (fail))
          exact wpQuiet_nil rfl
        refine wbr [false,false,false,false,false,false,false,false,false,false,false,true] (fuel:=1) (fun QB hQB hQX=>?_)
        simp only [Z00]
        have H:=hid ((h.newBlk (t:=42) (cs:=#[.slice none 0 0,.slice none 0 0,.int .u64 0,.int .u64 0,.int .u64 0,.slice none 0 0,.slice none 0 0,.slice none 0 0,.slice none 0 0,.slice none 0 0,.slice none 0 0,.slice none 0 0])).join)
        clear h
        go_wp2_with fail
        refine hQB.out _ _ (HS2.out _ _ _ H.out) ?_
        clear hQB hQX QB
        have h:=H.out
        generalize hW:Wc.alloc _=W2 at h ⊢
        generalize Wc.heap.size=g3 at h ⊢
        clear hW H
        obtain ⟨Wc,rfl⟩:∃ W',W'=W2:=⟨_,rfl⟩
        refine wbr [false,false,false,false,false,false,false,false,false,false,false,false,true] (fuel:=0) (fun QB hQB hQX=>?_)
        simp only [Z00]
        replace h:=h.part.imp (Imp.under _ (Imp.assoc _ _ _))
        go_wp2_with (first | (refine Z03 rfl 42 _ _ rfl g3 _ _ (resC M.C y (.slice none 0 0) (.slice A nl k) (.slice none 0 0) (.slice none 0 0)) rfl rfl _ Tryz.sizeOf42 h rfl rfl rfl ?_;intro w5 h6) | (refine Z03 rfl 42 _ _ rfl g3 _ _ (resC M.C y (.slice none 0 0) (.slice A nl k) (.slice none 0 0) (.slice none 0 0)) rfl rfl _ Tryz.sizeOf42 h.swap rfl rfl rfl ?_;intro w5 h6))
        refine hQB.out _ _ (HS2.out _ _ _ h6.join.join) ?_
        clear hQB hQX QB
        refine Z02 (by kernel_rfl) ?_ _
        go_wp2_with fail
        go_meet
        exact ⟨g3,y,A,k,rfl,h6.imp (Imp.under _ (Imp.under _ (Imp.under _ (Imp.under _ ((Imp.drop _ _).trans (Imp.drop _ _))))))⟩
      · simp only [Z00]
        have H:=hid ((h.newBlk (t:=42) (cs:=#[.slice none 0 0,.slice none 0 0,.int .u64 0,.int .u64 0,.int .u64 0,.slice none 0 0,.slice none 0 0,.slice none 0 0,.slice none 0 0,.slice none 0 0,.slice none 0 0,.slice none 0 0])).join)
        clear h
        go_wp2_with fail
        refine hQB.out _ _ (HS2.out _ _ _ H.out) ?_
        clear hQB hQX QB
        have h:=H.out
        generalize hW:Wc.alloc _=W2 at h ⊢
        generalize Wc.heap.size=g3 at h ⊢
        clear hW H
        obtain ⟨Wc,rfl⟩:∃ W',W'=W2:=⟨_,rfl⟩
        refine wbr [false,false,false,false,false,false,false,false,false,true] (fuel:=2) (fun QB hQB hQX=>?_)
        simp only [Z00]
        go_wp2_with fail
        refine (Zbp (h.pk3 [2,0,1]) (by omega) (Z7u _)).mono ?_
        rintro e Wc ⟨A,k,rfl,h⟩
        replace h:=((h.pk4 [0,2,3,1]).join)
        go_wp2_with fail
        refine hQB.out _ _ (HS2.out _ _ _ h) ?_
        clear hQB hQX QB
        refine' wbk [false,false,false,false,false,false,false,false,false,false,true] 71 (HS2.out _ _ _ h) (fun wq hq=>?_) ?_;rotate_left
        · simp only [Z00]
          repeat (go_big_quiet_step (fail))
          exact wpQuiet_nil rfl
        refine wbr [false,false,false,false,false,false,false,false,false,false,false,false,true] (fuel:=0) (fun QB hQB hQX=>?_)
        simp only [Z00]
        replace h:=h.part.imp (Imp.under _ (Imp.assoc _ _ _))
        go_wp2_with (first | (refine Z03 rfl 42 _ _ rfl g3 _ _ (resC M.C y (.slice none 0 0) (.slice A nl k) (.slice none 0 0) (.slice none 0 0)) rfl rfl _ Tryz.sizeOf42 h rfl rfl rfl ?_;intro w5 h6) | (refine Z03 rfl 42 _ _ rfl g3 _ _ (resC M.C y (.slice none 0 0) (.slice A nl k) (.slice none 0 0) (.slice none 0 0)) rfl rfl _ Tryz.sizeOf42 h.swap rfl rfl rfl ?_;intro w5 h6))
        refine hQB.out _ _ (HS2.out _ _ _ h6.join.join) ?_
        clear hQB hQX QB
        refine Z02 (by kernel_rfl) ?_ _
        go_wp2_with fail
        go_meet
        exact ⟨g3,y,A,k,rfl,h6.imp (Imp.under _ (Imp.under _ (Imp.under _ (Imp.under _ ((Imp.drop _ _).trans (Imp.drop _ _))))))⟩
    · simp only [Z00]
      have H:=hid ((h.newBlk (t:=42) (cs:=#[.slice none 0 0,.slice none 0 0,.int .u64 0,.int .u64 0,.int .u64 0,.slice none 0 0,.slice none 0 0,.slice none 0 0,.slice none 0 0,.slice none 0 0,.slice none 0 0,.slice none 0 0])).join)
      clear h
      go_wp2_with fail
      refine hQB.out _ _ (HS2.out _ _ _ H.out) ?_
      clear hQB hQX QB
      have h:=H.out
      generalize hW:Wc.alloc _=W2 at h ⊢
      generalize Wc.heap.size=g3 at h ⊢
      clear hW H
      obtain ⟨Wc,rfl⟩:∃ W',W'=W2:=⟨_,rfl⟩
      refine wbr [false,false,false,false,true] (fuel:=3) (fun QB hQB hQX=>?_)
      simp only [Z00]
      go_wp2_with fail
      refine (image_any w0 Wc _ m M.C (h.pk4 [3,0,1,2]) HX.out.1).mono ?_
      rintro e Wc ⟨y,rfl,h⟩
      replace h:=((h.imp (Imp.rest _ _)).pk4 [1,2,3,0])
      go_wp2_with fail
      refine hQB.out _ _ (HS2.out _ _ _ h) ?_
      clear hQB hQX QB
      refine wbr [false,false,false,false,false,false,false,false,false,true] (fuel:=2) (fun QB hQB hQX=>?_)
      simp only [Z00]
      go_wp2_with fail
      refine (Zbp (h.pk3 [2,0,1]) (by omega) (Z7u _)).mono ?_
      rintro e Wc ⟨A,k,rfl,h⟩
      replace h:=((h.pk4 [0,2,3,1]).join)
      go_wp2_with fail
      refine hQB.out _ _ (HS2.out _ _ _ h) ?_
      clear hQB hQX QB
      refine' wbk [false,false,false,false,false,false,false,false,false,false,true] 71 (HS2.out _ _ _ h) (fun wq hq=>?_) ?_;rotate_left
      · simp only [Z00]
        repeat (go_big_quiet_step (fail))
        exact wpQuiet_nil rfl
      refine wbr [false,false,false,false,false,false,false,false,false,false,false,false,true] (fuel:=0) (fun QB hQB hQX=>?_)
      simp only [Z00]
      replace h:=h.part.imp (Imp.under _ (Imp.assoc _ _ _))
      go_wp2_with (first | (refine Z03 rfl 42 _ _ rfl g3 _ _ (resC M.C y (.slice none 0 0) (.slice A nl k) (.slice none 0 0) (.slice none 0 0)) rfl rfl _ Tryz.sizeOf42 h rfl rfl rfl ?_;intro w5 h6) | (refine Z03 rfl 42 _ _ rfl g3 _ _ (resC M.C y (.slice none 0 0) (.slice A nl k) (.slice none 0 0) (.slice none 0 0)) rfl rfl _ Tryz.sizeOf42 h.swap rfl rfl rfl ?_;intro w5 h6))
      refine hQB.out _ _ (HS2.out _ _ _ h6.join.join) ?_
      clear hQB hQX QB
      refine Z02 (by kernel_rfl) ?_ _
      go_wp2_with fail
      go_meet
      exact ⟨g3,y,A,k,rfl,h6.imp (Imp.under _ (Imp.under _ (Imp.under _ (Imp.under _ ((Imp.drop _ _).trans (Imp.drop _ _))))))⟩
  case rest =>
  clear HS2
  rename World=>w3
  obtain ⟨g3,y,A,k,rfl,h⟩:=hcut
  have h1:Hold w0 w3 (evA (.slice Ae ne ce) es*(sepR (thsL ts c ps n M.th) Asr.emp*(queA 81 (.slice (some ad) n ct) (ts.map ptrV)*(blkA 78 gm #[ptrV m,.slice (some ad) n ct,stv,.slice Ae ne ce]*(blkA 42 g3 (resC M.C y (.slice none 0 0) (.slice A nl k) (.slice none 0 0) (.slice none 0 0))*(rowT 52 9 (.slice A nl k) nl (stL M.steps)*(blkA 42 gr #[.slice none 0 0,.slice none 0 0,.int .u64 0,.int .u64 0,.int .u64 0,.slice none 0 0,.slice none 0 0,.slice none 0 0,.slice none 0 0,.slice none 0 0,.slice none 0 0,.slice none 0 0]*R))))))):=(((h.pk4 [3,0,1,2]).part.pk2 [1,0]).part.pk2 [1,0]).part
  clear h
  have h2:=(((((h1.pk7 [4,1,2,3,0,5,6]).imp (Imp.Zmd _)).nilQue 53).nilRowS 63 11).pk4 [0,3,1,2])
  have q1:=(h1.pk4 [3]).blk.some_ (i:=1) rfl
  obtain ⟨RR,hRR⟩:∃ RR:Asr,RR=queA 81 (.slice (some ad) n ct) (ts.map ptrV)*(blkA 78 gm #[ptrV m,.slice (some ad) n ct,stv,.slice Ae ne ce]*(evA (.slice Ae ne ce) es*(rowT 52 9 (.slice A nl k) nl (stL M.steps)*(blkA 42 gr #[.slice none 0 0,.slice none 0 0,.int .u64 0,.int .u64 0,.int .u64 0,.slice none 0 0,.slice none 0 0,.slice none 0 0,.slice none 0 0,.slice none 0 0,.slice none 0 0,.slice none 0 0]*R)))):=⟨_,rfl⟩
  replace h2:Hold w0 w3 (rowT 63 11 (.slice none 0 0) 0 []*(blkA 42 g3 (resC M.C y (.slice none 0 0) (.slice A nl k) (.slice none 0 0) (.slice none 0 0))*(queA 53 (.slice none 0 0) []*(Asr.emp*(sepR (thsL ts c ps n M.th) Asr.emp*RR))))):=by rw [hRR];exact h2
  have HRR:=hid hRR
  have H:=hid h2
  clear h1 h2 hRR
  go_wp2_with fail
  clear q1
  go_loopw [27] (fun i wr=>∃ (j:Nat) (os:List Value) (tv ov:Value),j≤n∧i = .int .i64 (j:Int)∧os.length=j∧Hold w0 wr (rowT 63 11 tv j (tsF ps M.th j)*(blkA 42 g3 (resC M.C y tv (.slice A nl k) (.slice none 0 0) ov)*(queA 53 ov os*(sepR (obF os M.th j) Asr.emp*(sepR (thsL ts c ps n M.th) Asr.emp*RR)))))) (fun i _=>n - (intOf i).toNat)
  case atStart=>exact ⟨0,[],_,_,Nat.zero_le _,rfl,rfl,H.out⟩
  case round =>
    clear H
    obtain ⟨j,os,tv,ov,hj,rfl,hos,h⟩:=hrel
    by_cases hlt:j < n
    · have e1:decide ((j:Int) < (n:Int))=true:=decide_eq_true (by omega)
      have e1':decide (j < n)=true:=decide_eq_true hlt
      have k0:(0:Int)≤(j:Int):=by omega
      have k1:(j:Int) < (n:Int):=by omega
      have hk:(ts.map ptrV)[j]?=some (ptrV (ts.getD j 0)):=by
        rw [List.getElem?_map,List.getD_eq_getElem?_getD,List.getElem?_eq_getElem (by rw [HX.out.2.1];exact hlt)]
        rfl
      have qt:wr.cell? (ad.add j)=some (ptrV (ts.getD j 0)):=by
        have h3:=h.drop.drop.drop.drop.drop
        rw [HRR.out] at h3
        exact h3.queAt hk
      have hobT:=HX.out.2.2.2 j hlt
      obtain ⟨B,h1,hback⟩:=Zip hlt (h.pk5 [4,0,1,2,3])
      clear hk h
      generalize hgt:ts.getD j 0=gt at qt h1 hback
      generalize hTT:M.th j=T at h1 hback hobT
      generalize hpj:ps j=p at h1 hback
      have HB:=hid hback
      have HT:=hid (And.intro hTT (And.intro hpj hos))
      have HO:=hid (And.intro hobT (show os.length≤1000000 by omega))
      have H:=hid (h1.pk4 [2,3,0,1])
      clear h1 hback hTT hpj hos hgt hobT
      go_upto_region 7 with fail
      have h:=H.out.drew
      clear H
      obtain ⟨iT,hiT,zt0,zt1,zt2⟩:∃ i,Tryz.prog.info? 63=some i∧i.zero=some (.agg #[.int .i64 0,.int .u64 0,.int .u64 0,.int .u64 0,.int .u64 0,.int .u64 0,.int .u64 0,.int .u64 0,.int .u64 0,.int .i64 0,.bool false])∧i.size=11∧i.bytes=88:=by
        have hi:=Zbg
        revert hi
        cases Tryz.prog.info? 63 with
        | none=>intro hi;cases hi
        | some i =>
          intro hi
          simp only [Option.map_some,Option.some.injEq,Prod.mk.injEq] at hi
          exact ⟨i,rfl,hi.1,hi.2.1,hi.2.2⟩
      have hS:∀ w' X Y,Hold w0 w' (X*(blkA 42 g3 (resC M.C y tv (.slice A nl k) (.slice none 0 0) ov)*Y))→w'.cell? ⟨g3,8,none⟩=some tv:=fun w' X Y h=>h.drop.blk.some_ (i:=8) rfl
      have HS:=hid hS
      clear hS
      refine Z01 [7] (by kernel_rfl) ?_
      generalize hW:wr.drew=W3 at h ⊢
      clear hW
      refine Z05 (fun w'=>w'.cell? ⟨g3,8,none⟩=some tv) (fun _ _=>trivial) _ _ _ _ ?_
      refine' wbk [true,true,true] 71 (HS.out _ _ _ h) (fun wq hq=>?_) ?_;rotate_left
      · simp only [Z00]
        have q2:=hq
        repeat (go_big_quiet_step (fail))
        exact wpQuiet_nil rfl
      refine wbr [false,false,false,true] (fuel:=4) (fun QB hQB hQX=>?_)
      simp only [Z00]
      go_wp2_with fail
      refine (Zdx (h.pk3 [2,0,1])).mono ?_
      rintro e Wc ⟨rfl,h⟩
      replace h:=h.pk3 [1,2,0]
      go_wp2_with fail
      refine hQB.out _ _ (HS.out _ _ _ h) ?_
      clear hQB hQX QB
      refine wbr [false,false,false,false,true] (fuel:=3) (fun QB hQB hQX=>?_)
      simp only [Z00]
      go_wp2_with fail
      refine hQB.out _ _ (HS.out _ _ _ (h.alloc _)) ?_
      clear hQB hQX QB
      refine wbr [false,false,false,false,false,true] (fuel:=2) (fun QB hQB hQX=>?_)
      simp only [Z00]
      go_wp2_with (at_builtin;refine Z1o rfl _ _ 37 rfl 63 iT (.agg #[.int .i64 0,.int .u64 0,.int .u64 0,.int .u64 0,.int .u64 0,.int .u64 0,.int .u64 0,.int .u64 0,.int .u64 0,.int .i64 0,.bool false]) 11 88 Tryz.underlying37 hiT zt0 zt1 zt2 rfl (by decide) tv j (tsF ps M.th j) [.int .i64 T.pc,.int .u64 (T.regs 0),.int .u64 (T.regs 1),.int .u64 (T.regs 2),.int .u64 (T.regs 3),.int .u64 (T.regs 4),.int .u64 (T.regs 5),.int .u64 (T.regs 6),.int .u64 (T.regs 7),.int .i64 T.outcome,.bool (T.pc == (p.length:Int))] _ rfl h _ rfl rfl rfl rfl (by omega) (by decide) ?_)
      intro A9 c9 y9 h8
      clear h
      go_wp2_with fail
      refine hQB.out _ _ (HS.out _ _ _ h8) ?_
      clear hQB hQX QB
      refine' wbk [false,false,false,false,false,false,true] 71 (HS.out _ _ _ h8) (fun wq hq=>?_) ?_;rotate_left
      · simp only [Z00]
        repeat (go_big_quiet_step (fail))
        exact wpQuiet_nil rfl
      refine wbb [false,false,false,false,false,false,false,true] (fuel:=0) (fun QB hQB hQX=>?_)
      simp only [Z00]
      have p1:=HS.out _ _ _ h8
      have z1:=h8.drop.blk.frozen 8
      have H9:=hid (h8.swap.Zm7 8 (.slice A9 (j + 1) c9))
      clear h8
      go_wp2_with fail
      refine hQB.out _ _ ?_
      clear hQB hQX QB p1 z1 HS
      refine Z07 (by kernel_rfl) ?_
      refine Z02 (by kernel_rfl) ?_ _
      go_upto_region 8 with fail
      have h9:Hold w0 _ (blkA 42 g3 (resC M.C y (.slice A9 (j + 1) c9) (.slice A nl k) (.slice none 0 0) ov)*(rowT 63 11 (.slice A9 (j + 1) c9) (j + 1) (tsF ps M.th j++[.int .i64 T.pc,.int .u64 (T.regs 0),.int .u64 (T.regs 1),.int .u64 (T.regs 2),.int .u64 (T.regs 3),.int .u64 (T.regs 4),.int .u64 (T.regs 5),.int .u64 (T.regs 6),.int .u64 (T.regs 7),.int .i64 T.outcome,.bool (T.pc == (p.length:Int))])*(thS gt c p (n:Int) (j:Int) T*(B*(queA 53 ov os*(sepR (obF os M.th j) Asr.emp*RR)))))):=H9.out
      generalize hW:World.setCell _ _ _=W4 at h9 ⊢
      clear hW H9
      have h:=(h9.pk5 [4,0,2,3,1]).drew
      clear h9
      obtain ⟨iP,hiP,zp0,zp1,zp2⟩:∃ i,Tryz.prog.info? 53=some i∧i.zero=some (.slice none 0 0)∧i.size=1∧i.bytes=24:=by
        have hi:=Zey
        revert hi
        cases Tryz.prog.info? 53 with
        | none=>intro hi;cases hi
        | some i =>
          intro hi
          simp only [Option.map_some,Option.some.injEq,Prod.mk.injEq] at hi
          exact ⟨i,rfl,hi.1,hi.2.1,hi.2.2⟩
      have hS:∀ w' X Y,Hold w0 w' (X*(blkA 42 g3 (resC M.C y (.slice A9 (j + 1) c9) (.slice A nl k) (.slice none 0 0) ov)*Y))→w'.cell? ⟨g3,11,none⟩=some ov:=fun w' X Y h=>h.drop.blk.some_ (i:=11) rfl
      have HS:=hid hS
      clear hS
      refine Z01 [7] (by kernel_rfl) ?_
      generalize hW:W4.drew=W5 at h ⊢
      clear hW
      refine Z05 (fun w'=>w'.cell? ⟨g3,11,none⟩=some ov) (fun _ _=>trivial) _ _ _ _ ?_
      refine' wbk [true,true,true] 71 (HS.out _ _ _ h) (fun wq hq=>?_) ?_;rotate_left
      · simp only [Z00]
        have q2:=hq
        repeat (go_big_quiet_step (fail))
        exact wpQuiet_nil rfl
      refine wbr [false,false,false,true] (fuel:=4) (fun QB hQB hQX=>?_)
      simp only [Z00]
      go_wp2_with fail
      refine (Zir (h.pk3 [2,0,1]) HO.out.1).mono ?_
      rintro e Wc ⟨Ao,ko,rfl,h⟩
      replace h:=h.pk4 [2,3,1,0]
      go_wp2_with fail
      refine hQB.out _ _ (HS.out _ _ _ h) ?_
      clear hQB hQX QB
      refine wbr [false,false,false,false,true] (fuel:=3) (fun QB hQB hQX=>?_)
      simp only [Z00]
      go_wp2_with fail
      refine hQB.out _ _ (HS.out _ _ _ (h.alloc _)) ?_
      clear hQB hQX QB
      refine wbr [false,false,false,false,false,true] (fuel:=2) (fun QB hQB hQX=>?_)
      simp only [Z00]
      go_wp2_with (at_builtin;refine Z16 rfl _ _ 40 rfl iP (.slice none 0 0) 24 Tryz.underlying40 hiP zp0 zp1 zp2 rfl (.slice Ao T.obs.length ko) _ rfl h rfl rfl HO.out.2 (by decide) ?_)
      intro v8 w8 h8
      obtain ⟨A8,n8,c8,rfl⟩:∃ A n c,v8 = .slice A n c:=by obtain ⟨A,c,h⟩:=h8.Zmc;exact ⟨A,_,c,h⟩
      clear h
      go_wp2_with fail
      refine hQB.out _ _ (HS.out _ _ _ h8) ?_
      clear hQB hQX QB
      refine' wbk [false,false,false,false,false,false,true] 71 (HS.out _ _ _ h8) (fun wq hq=>?_) ?_;rotate_left
      · simp only [Z00]
        repeat (go_big_quiet_step (fail))
        exact wpQuiet_nil rfl
      refine wbb [false,false,false,false,false,false,false,true] (fuel:=0) (fun QB hQB hQX=>?_)
      simp only [Z00]
      have p1:=HS.out _ _ _ h8
      have z1:=h8.drop.blk.frozen 11
      have H9:=hid (h8.swap.Zm7 11 (.slice A8 n8 c8))
      clear h8
      go_wp2_with fail
      refine hQB.out _ _ ?_
      clear hQB hQX QB p1 z1 HS
      refine Z07 (by kernel_rfl) ?_
      refine Z02 (by kernel_rfl) ?_ _
      go_wp2_with fail
      go_roundw
      case rel =>
        obtain ⟨hTT,hpj,hos⟩:=HT.out
        have h9:Hold w0 _ (blkA 42 g3 (resC M.C y (.slice A9 (j + 1) c9) (.slice A nl k) (.slice none 0 0) (.slice A8 n8 c8))*(queA 53 (.slice A8 n8 c8) (os++[.slice Ao T.obs.length ko])*(thS gt c p (n:Int) (j:Int) T*(obsA (.slice Ao T.obs.length ko) T.obs*(B*(rowT 63 11 (.slice A9 (j + 1) c9) (j + 1) (tsF ps M.th j++[.int .i64 T.pc,.int .u64 (T.regs 0),.int .u64 (T.regs 1),.int .u64 (T.regs 2),.int .u64 (T.regs 3),.int .u64 (T.regs 4),.int .u64 (T.regs 5),.int .u64 (T.regs 6),.int .u64 (T.regs 7),.int .i64 T.outcome,.bool (T.pc == (p.length:Int))])*(sepR (obF os M.th j) Asr.emp*RR))))))):=H9.out
        have h10:=((h9.pk7 [6,3,2,4,5,0,1]).join).imp (Imp.on _ (Z2p (obsA (.slice Ao T.obs.length ko) T.obs) (obF os M.th j)))
        have h11:=(HB.out _ _ (h10.pk3 [1,2,0])).pk5 [2,3,4,1,0]
        refine ⟨j + 1,os++[.slice Ao T.obs.length ko],.slice A9 (j + 1) c9,.slice A8 n8 c8,hlt,by go_num,by rw [List.length_append,hos];rfl,?_⟩
        have e1:obF (os++[.slice Ao T.obs.length ko]) M.th (j + 1)=obF os M.th j++[obsA (.slice Ao T.obs.length ko) T.obs]:=by
          rw [← hTT,← hos];exact Zh0
        have e2:tsF ps M.th (j + 1)=tsF ps M.th j++[.int .i64 T.pc,.int .u64 (T.regs 0),.int .u64 (T.regs 1),.int .u64 (T.regs 2),.int .u64 (T.regs 3),.int .u64 (T.regs 4),.int .u64 (T.regs 5),.int .u64 (T.regs 6),.int .u64 (T.regs 7),.int .i64 T.outcome,.bool (T.pc == (p.length:Int))]:=by rw [Zg4,hTT,hpj]
        rw [e1,e2]
        exact h11
      case measure=>simp [intOf];omega
    · obtain rfl:j=n:=by omega
      have e1:decide ((j:Int) < (j:Int))=false:=decide_eq_false (by omega)
      have e1':decide (j < j)=false:=decide_eq_false (by omega)
      rw [HRR.out] at h
      have q3:=(h.pk10 [6]).blk.some_ (i:=3) rfl
      have HOS:=hid hos
      obtain ⟨n7,c7,A7,rfl⟩:∃ n c A,tv = .slice A n c:=by obtain ⟨A,c,h⟩:=h.Zmb;exact ⟨_,c,A,h⟩
      obtain ⟨n8,c8,A8,rfl⟩:∃ n c A,ov = .slice A n c:=by obtain ⟨A,c,h⟩:=(h.pk3 [2]).Zmc;exact ⟨_,c,A,h⟩
      obtain ⟨RQ,hRQ⟩:∃ RQ:Asr,RQ=rowT 52 9 (.slice A nl k) nl (stL M.steps)*(rowT 63 11 (.slice A7 n7 c7) j (tsF ps M.th j)*(queA 53 (.slice A8 n8 c8) os*(sepR (obF os M.th j) Asr.emp*R))):=⟨_,rfl⟩
      have h5:Hold w0 wr (evA (.slice Ae ne ce) es*(blkA 42 g3 (resC M.C y (.slice A7 n7 c7) (.slice A nl k) (.slice none 0 0) (.slice A8 n8 c8))*(blkA 42 gr #[.slice none 0 0,.slice none 0 0,.int .u64 0,.int .u64 0,.int .u64 0,.slice none 0 0,.slice none 0 0,.slice none 0 0,.slice none 0 0,.slice none 0 0,.slice none 0 0,.slice none 0 0]*RQ))):=by rw [hRQ];exact (h.pk10 [6,4,5,7,1,9,8,0,2,3]).drop.drop.drop
      have HRQ:=hid hRQ
      have hne:=HX.out.2.2.1
      have h6:Hold w0 wr (rowT 87 6 (.slice none 0 0) 0 []*(blkA 42 g3 (resC M.C y (.slice A7 n7 c7) (.slice A nl k) (.slice none 0 0) (.slice A8 n8 c8))*(rowT 87 6 (.slice Ae ne ce) ne (es.flatMap EvR.cells)*(sepR (es.map EvR.objs) Asr.emp*(blkA 42 gr #[.slice none 0 0,.slice none 0 0,.int .u64 0,.int .u64 0,.int .u64 0,.slice none 0 0,.slice none 0 0,.slice none 0 0,.slice none 0 0,.slice none 0 0,.slice none 0 0,.slice none 0 0]*RQ))))):=by
        rw [hne] at h5 ⊢
        exact ((h5.part.nilRowS 87 6).pk4 [0,3,1,2])
      have H:=hid h6
      clear h h5 h6 hRQ hos hne
      go_wp2_with fail
      clear q3
      go_loopw [51] (fun i wr=>∃ (k2:Nat) (ev2:Value) (xs:List Value),k2≤ne∧i = .int .i64 (k2:Int)∧Hold w0 wr (rowT 87 6 ev2 k2 xs*(blkA 42 g3 (resC M.C y (.slice A7 n7 c7) (.slice A nl k) ev2 (.slice A8 n8 c8))*(rowT 87 6 (.slice Ae ne ce) ne (es.flatMap EvR.cells)*(sepR (es.map EvR.objs) Asr.emp*(blkA 42 gr #[.slice none 0 0,.slice none 0 0,.int .u64 0,.int .u64 0,.int .u64 0,.slice none 0 0,.slice none 0 0,.slice none 0 0,.slice none 0 0,.slice none 0 0,.slice none 0 0,.slice none 0 0]*RQ)))))) (fun i _=>ne - (intOf i).toNat)
      case atStart=>exact ⟨0,_,[],Nat.zero_le _,rfl,H.out⟩
      case round =>
        clear H
        obtain ⟨k2,ev2,xs,hk2,rfl,h⟩:=hrel
        by_cases hlt2:k2 < ne
        · have e3:decide ((k2:Int) < (ne:Int))=true:=decide_eq_true (by omega)
          have e3':decide (k2 < ne)=true:=decide_eq_true hlt2
          have k0:(0:Int)≤(k2:Int):=by omega
          have k1:(k2:Int) < (ne:Int):=by omega
          obtain ⟨e,he⟩:∃ e,es[k2]?=some e:=⟨_,List.getElem?_eq_getElem (by have:=HX.out.2.2.1;omega)⟩
          obtain ⟨ge,rfl,hcv,hcap⟩:=(h.pk3 [2]).rowSBlk (by decide) (by omega)
          obtain ⟨B,h1,hback⟩:=Zkc he (h.pk4 [3,0,1,2])
          obtain ⟨eat,eth,ekd,ewd,erd,ewr,ers,ews,ehb⟩:=e
          replace h1:Hold w0 wr (queA 3 erd (ers.map (Value.int .i64))*(queA 3 ewr (ews.map (Value.int .i64))*(B*(rowT 87 6 ev2 k2 xs*(blkA 42 g3 (resC M.C y (.slice A7 n7 c7) (.slice A nl k) ev2 (.slice A8 n8 c8))*(rowT 87 6 (.slice (some ⟨ge,0,none⟩) ne ce) ne (es.flatMap EvR.cells)*(blkA 42 gr #[.slice none 0 0,.slice none 0 0,.int .u64 0,.int .u64 0,.int .u64 0,.slice none 0 0,.slice none 0 0,.slice none 0 0,.slice none 0 0,.slice none 0 0,.slice none 0 0,.slice none 0 0]*RQ))))))):=h1
          replace hback:∀ w' R',Hold w0 w' (queA 3 erd (ers.map (Value.int .i64))*(queA 3 ewr (ews.map (Value.int .i64))*(B*R')))→Hold w0 w' (sepR (es.map EvR.objs) Asr.emp*R'):=hback
          obtain ⟨n1,c1,A1,rfl⟩:∃ n c A,erd = .slice A n c:=by obtain ⟨A,c,h⟩:=h1.Zmc;exact ⟨_,c,A,h⟩
          obtain ⟨n2,c2,A2,rfl⟩:∃ n c A,ewr = .slice A n c:=by obtain ⟨A,c,h⟩:=h1.drop.Zmc;exact ⟨_,c,A,h⟩
          have HCV:Hid (∀ (jj:Nat) (u:Value),(#[.int .i64 eat,.int .i64 eth,.int .i64 ekd,.int .i64 ewd,.slice A1 n1 c1,.slice A2 n2 c2]:Array Value).toList[jj]?=some u→wr.cell? ⟨ge,k2*6 + jj,none⟩=some u):=hid (fun jj u hu=>hcv _ _ (Zii es k2 _ jj u he hu))
          have HB:=hid hback
          have HE:=hid ehb
          have H:=hid (h1.newBlk (t:=87) (cs:=#[.int .i64 eat,.int .i64 eth,.int .i64 ekd,.int .i64 ewd,.slice A1 n1 c1,.slice A2 n2 c2]))
          clear h h1 hback hcv he ehb
          go_upto_region 13 with (refine Z2i rfl 87 _ rfl ⟨ge,k2*6,none⟩ #[.int .i64 eat,.int .i64 eth,.int .i64 ekd,.int .i64 ewd,.slice A1 n1 c1,.slice A2 n2 c2] rfl Tryz.isAgg87 6 Tryz.sizeOf87 ?_ rfl ?_)
          · exact HCV.out
          have h1:=H.out
          generalize hW:World.alloc _ _=W at h1 ⊢
          generalize wr.heap.size=g7 at h1 ⊢
          clear hW H HCV
          have h:=h1.drew
          clear h1
          have hS:∀ w' Y,Hold w0 w' (blkA 87 g7 #[.int .i64 eat,.int .i64 eth,.int .i64 ekd,.int .i64 ewd,.slice A1 n1 c1,.slice A2 n2 c2]*Y)→w'.cell? ⟨g7,4,none⟩=some (.slice A1 n1 c1)∧w'.cell? ⟨g7,5,none⟩=some (.slice A2 n2 c2):=fun w' Y h=>⟨h.blk.some_ (i:=4) rfl,h.blk.some_ (i:=5) rfl⟩
          have HS:=hid hS
          clear hS
          refine Z01 [7,9] (by kernel_rfl) ?_
          generalize hW:W.drew=W3 at h ⊢
          clear hW
          refine Z05 (fun w'=>w'.cell? ⟨g7,4,none⟩=some (.slice A1 n1 c1)∧w'.cell? ⟨g7,5,none⟩=some (.slice A2 n2 c2)) (fun _ _=>trivial) _ _ _ _ ?_
          refine' wbk [true,true,false,true,true] 71 (HS.out _ _ h) (fun wq hq=>?_) ?_;rotate_left
          · simp only [Z00]
            obtain ⟨q4,q5⟩:=hq
            repeat (go_big_quiet_step (fail))
            exact wpQuiet_nil rfl
          refine wbr [false,false,true] (fuel:=5) (fun QB hQB hQX=>?_)
          simp only [Z00]
          go_wp2_with fail
          refine (Zik h.swap HE.out.1).mono ?_
          rintro e Wc ⟨A3,c3,rfl,h⟩
          replace h:=h.drop.swap
          go_wp2_with fail
          refine hQB.out _ _ (HS.out _ _ h) ?_
          clear hQB hQX QB
          refine' wbk [false,false,false,false,false,false,true] 71 (HS.out _ _ h) (fun wq hq=>?_) ?_;rotate_left
          · simp only [Z00]
            repeat (go_big_quiet_step (fail))
            exact wpQuiet_nil rfl
          refine wbr [false,false,false,false,false,true] (fuel:=3) (fun QB hQB hQX=>?_)
          simp only [Z00]
          go_wp2_with fail
          refine (Zik (h.pk3 [2,0,1]) HE.out.2).mono ?_
          rintro e Wc ⟨A4,c4,rfl,h⟩
          replace h:=h.drop.pk3 [1,2,0]
          go_wp2_with fail
          refine hQB.out _ _ (HS.out _ _ h) ?_
          clear hQB hQX QB
          refine wbb [false,false,false,false,false,false,false,true] (fuel:=2) (fun QB hQB hQX=>?_)
          simp only [Z00]
          have p4:=h.blk.some_ (i:=4) rfl
          have z4:=h.blk.frozen 4
          have H9:=hid (h.Zm7 4 (.slice A3 ers.length c3))
          clear h
          go_wp2_with fail
          refine hQB.out _ _ ?_
          clear hQB hQX QB p4 z4
          have h10:Hold w0 _ (blkA 87 g7 #[.int .i64 eat,.int .i64 eth,.int .i64 ekd,.int .i64 ewd,.slice A3 ers.length c3,.slice A2 n2 c2]*_):=H9.out
          generalize hW:World.setCell _ _ _=W4 at h10 ⊢
          clear hW H9
          refine Z07 (by kernel_rfl) ?_
          refine' wbk [false,false,false,false,false,false,false,false,true] 71 trivial (fun wq hq=>?_) ?_;rotate_left
          · simp only [Z00]
            repeat (go_big_quiet_step (fail))
            exact wpQuiet_nil rfl
          refine wbr [false,false,false,false,false,false,false,false,false,true] (fuel:=0) (fun QB hQB hQX=>?_)
          simp only [Z00]
          have p5:=h10.blk.some_ (i:=5) rfl
          have z5:=h10.blk.frozen 5
          have H9:=hid (h10.Zm7 5 (.slice A4 ews.length c4))
          clear h10
          go_wp2_with fail
          refine hQB.out _ _ trivial ?_
          clear hQB hQX QB p5 z5
          refine Z02 (by kernel_rfl) ?_ _
          go_upto_region 14 with fail
          have h11:Hold w0 _ (blkA 87 g7 #[.int .i64 eat,.int .i64 eth,.int .i64 ekd,.int .i64 ewd,.slice A3 ers.length c3,.slice A4 ews.length c4]*(queA 3 (.slice A1 n1 c1) (ers.map (Value.int .i64))*(queA 3 (.slice A2 n2 c2) (ews.map (Value.int .i64))*(B*(rowT 87 6 ev2 k2 xs*(blkA 42 g3 (resC M.C y (.slice A7 n7 c7) (.slice A nl k) ev2 (.slice A8 n8 c8))*(rowT 87 6 (.slice (some ⟨ge,0,none⟩) ne ce) ne (es.flatMap EvR.cells)*(blkA 42 gr #[.slice none 0 0,.slice none 0 0,.int .u64 0,.int .u64 0,.int .u64 0,.slice none 0 0,.slice none 0 0,.slice none 0 0,.slice none 0 0,.slice none 0 0,.slice none 0 0,.slice none 0 0]*RQ)))))))):=H9.out
          generalize hW:World.setCell _ _ _=W5 at h11 ⊢
          clear hW H9
          obtain ⟨iE,hiE,zo0,zo1,zo2⟩:∃ i,Tryz.prog.info? 87=some i∧i.zero=some (.agg #[.int .i64 0,.int .i64 0,.int .i64 0,.int .i64 0,.slice none 0 0,.slice none 0 0])∧i.size=6∧i.bytes=80:=by
            have hi:=Z7i
            revert hi
            cases Tryz.prog.info? 87 with
            | none=>intro hi;cases hi
            | some i =>
              intro hi
              simp only [Option.map_some,Option.some.injEq,Prod.mk.injEq] at hi
              exact ⟨i,rfl,hi.1,hi.2.1,hi.2.2⟩
          have p10:=(h11.pk6 [5]).blk.some_ (i:=10) rfl
          have hbl:=h11.blk
          go_wp2_with (first | (refine Z04 rfl 87 _ rfl g7 _ _ rfl Tryz.isAgg87 _ Tryz.sizeOf87 hbl rfl ?_) | (at_builtin;refine Z1o rfl _ _ 39 rfl 87 iE (.agg #[.int .i64 0,.int .i64 0,.int .i64 0,.int .i64 0,.slice none 0 0,.slice none 0 0]) 6 80 Tryz.underlying39 hiE zo0 zo1 zo2 rfl (by decide) ev2 k2 xs [.int .i64 eat,.int .i64 eth,.int .i64 ekd,.int .i64 ewd,.slice A3 ers.length c3,.slice A4 ews.length c4] _ rfl (h11.pk5 [4,0,1,2,3]) _ rfl rfl rfl rfl (by omega) (by decide) ?_;intro A9 c9 y9 h12;clear hbl p10;have p10:=(h12.pk6 [5]).blk.some_ (i:=10) rfl;have z10:=(h12.pk6 [5]).blk.frozen 10;have H13:=hid ((h12.pk6 [5,0,1,2,3,4]).Zm7 10 (.slice A9 (k2 + 1) c9));clear h11 h12))
          go_roundw
          case rel =>
            have h13:Hold w0 _ (blkA 42 g3 (resC M.C y (.slice A7 n7 c7) (.slice A nl k) (.slice A9 (k2 + 1) c9) (.slice A8 n8 c8))*(rowT 87 6 (.slice A9 (k2 + 1) c9) (k2 + 1) (xs++[.int .i64 eat,.int .i64 eth,.int .i64 ekd,.int .i64 ewd,.slice A3 ers.length c3,.slice A4 ews.length c4])*(blkA 87 g7 #[.int .i64 eat,.int .i64 eth,.int .i64 ekd,.int .i64 ewd,.slice A3 ers.length c3,.slice A4 ews.length c4]*(queA 3 (.slice A1 n1 c1) (ers.map (Value.int .i64))*(queA 3 (.slice A2 n2 c2) (ews.map (Value.int .i64))*(B*(rowT 87 6 (.slice (some ⟨ge,0,none⟩) ne ce) ne (es.flatMap EvR.cells)*(blkA 42 gr #[.slice none 0 0,.slice none 0 0,.int .u64 0,.int .u64 0,.int .u64 0,.slice none 0 0,.slice none 0 0,.slice none 0 0,.slice none 0 0,.slice none 0 0,.slice none 0 0,.slice none 0 0]*RQ)))))))):=H13.out
            refine ⟨k2 + 1,.slice A9 (k2 + 1) c9,xs++[.int .i64 eat,.int .i64 eth,.int .i64 ekd,.int .i64 ewd,.slice A3 ers.length c3,.slice A4 ews.length c4],hlt2,by go_num,?_⟩
            exact (HB.out _ _ ((h13.pk7 [2,3,4,5,1,0,6]).drop)).pk4 [1,2,3,0]
          case measure=>simp [intOf];omega
        · obtain rfl:k2=ne:=by omega
          have e3:decide ((k2:Int) < (k2:Int))=false:=decide_eq_false (by omega)
          have e3':decide (k2 < k2)=false:=decide_eq_false (by omega)
          obtain ⟨n9,c9,A9,rfl⟩:∃ n c A,ev2 = .slice A n c:=by obtain ⟨A,c,h⟩:=h.Zmb;exact ⟨_,c,A,h⟩
          have hb:=h.drop.blk
          have hg:=h.pk5 [4,0,1,2,3]
          have HH:=hid hg
          clear h
          go_wp2_with (first | (refine Z04 rfl 42 _ rfl g3 _ _ rfl Tryz.isAgg42 _ Tryz.sizeOf42 hb rfl ?_) | (refine Z03 rfl 42 _ _ rfl gr _ _ (resC M.C y (.slice A7 n7 c7) (.slice A nl k) (.slice A9 n9 c9) (.slice A8 n8 c8)) rfl rfl _ Tryz.sizeOf42 hg rfl rfl rfl ?_;intro w7 h11))
          have h12:=h11.drop.drop.drop.drop.drop
          rw [HRQ.out] at h12
          exact bodyPost_ret (Z1h Tryz.results13 _ rfl Tryz.isAgg42 _ Tryz.sizeOf42 h11.blk rfl) rfl ⟨y,_,A,k,_,_,_,_,os,rfl,HOS.out,h12⟩
end
end Go.Proofs.YtmlfangeanmmeaaGreatDoor
