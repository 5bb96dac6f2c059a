/-
  What the proof of TopDoomed leans on, part 43 of 44: Xs. No statement of its own.
-/
import Derived.Test.YtmlfangeanmmeaaGreatDoorDm42
namespace Go.Proofs.YtmlfangeanmmeaaGreatDoor
set_option maxRecDepth 8000
open Go.RowKit
set_option linter.unusedVariables false
set_option maxHeartbeats 8000000 in
theorem topDoomed_any (a0 a1:Int) (A:Option Addr) (len cap:Nat) (w:World) (hk:∀ j,j < len→∃ ad z,A=some ad∧w.cell? (ad.add j)=some (.int .i64 z)) (hF:FormsAt w) :
    Calls Tryz.prog 4 #[.int .i64 a0,.int .i64 a1,.slice A len cap] w fun e w'=>e = .returned (.bool true)∧Below w.heap.size w w':=by
  have h0:=Hold.start w
  by_cases hl:len≤300
  · have hd : decide ((300:Int) < (len:Int))=false:=decide_eq_false (by omega)
    have hd':decide (300 < len)=false:=decide_eq_false (by omega)
    have HF:=hid hF
    have HK:=hid hk
    clear hF hk
    go_enter Tryz.func4,Tryz.ntmps4
    go_wp2_with fail
    refine (place_ex _ a1 2 (by decide) (by decide)).mono ?_
    rintro e w' ⟨kn,hkn,rfl,rfl⟩
    obtain ⟨n,hn⟩:∃ n:Nat,(n:Int)=2 + (kn:Int):=⟨2 + kn,by omega⟩
    have hn3:2≤n∧n≤3:=by omega
    have HN:=hid hn
    clear hn
    go_upto_region 4 with fail
    rw [← HN.out]
    clear hkn
    have h1:=h0.newBlk (t:=28) (cs:=#[.int .i64 1,.int .i64 2,.int .i64 0,.int .i64 0,.int .i64 1,.int .i64 7,.int .i64 0,.int .i64 0,.int .i64 0,.int .i64 8,.int .i64 10,.int .i64 1,.int .i64 0,.int .i64 0,.int .i64 0,.int .i64 10,.int .i64 3,.int .i64 0,.int .i64 0,.int .i64 1,.int .i64 3,.int .i64 1,.int .i64 1,.int .i64 2,.int .i64 0,.int .i64 11,.int .i64 0,.int .i64 1,.int .i64 0,.int .i64 0,.int .i64 11,.int .i64 0,.int .i64 1,.int .i64 0,.int .i64 1,.int .i64 8,.int .i64 0,.int .i64 0,.int .i64 0,.int .i64 0])
    clear h0
    go_upto_region 5 with fail
    generalize hW:World.alloc _ _=W at h1 ⊢
    generalize w.heap.size=gp at h1 ⊢
    clear hW
    have H:=hid (h1.nilQue 29)
    clear h1
    go_wp2_with fail
    go_loopw [9,10] (fun pv i wr=>∃ j:Nat,j≤n∧i = .int .i64 (j:Int)∧Hold w wr (queA 29 pv (List.replicate j (.slice (some ⟨gp,0,none⟩) 8 8))*(blkA 28 gp #[.int .i64 1,.int .i64 2,.int .i64 0,.int .i64 0,.int .i64 1,.int .i64 7,.int .i64 0,.int .i64 0,.int .i64 0,.int .i64 8,.int .i64 10,.int .i64 1,.int .i64 0,.int .i64 0,.int .i64 0,.int .i64 10,.int .i64 3,.int .i64 0,.int .i64 0,.int .i64 1,.int .i64 3,.int .i64 1,.int .i64 1,.int .i64 2,.int .i64 0,.int .i64 11,.int .i64 0,.int .i64 1,.int .i64 0,.int .i64 0,.int .i64 11,.int .i64 0,.int .i64 1,.int .i64 0,.int .i64 1,.int .i64 8,.int .i64 0,.int .i64 0,.int .i64 0,.int .i64 0]*Asr.emp))) (fun _ i _=>n - (intOf i).toNat)
    case atStart=>exact ⟨0,Nat.zero_le _,rfl,H.out⟩
    case round =>
      clear H
      obtain ⟨j,hj,rfl,h⟩:=hrel
      obtain ⟨A7,c7,rfl⟩:=h.queForm
      rw [List.length_replicate] at h ⊢
      by_cases hlt:j < n
      · have e1:decide ((j:Int) < (n:Int))=true:=decide_eq_true (by omega)
        have e1':decide (j < n)=true:=decide_eq_true hlt
        obtain ⟨iP,hiP,zp0,zp1,zp2⟩:∃ i,Tryz.prog.info? 29=some i∧i.zero=some (.slice none 0 0)∧i.size=1∧i.bytes=24:=by
          have hi:=info_sins
          revert hi
          cases Tryz.prog.info? 29 with
          | none=>intro hi;cases hi
          | some i =>
            intro hi
            simp only [Option.map_some,Option.some.injEq,Prod.mk.injEq] at hi
            exact ⟨i,rfl,hi.1,hi.2.1,hi.2.2⟩
        have HLT:Hid ((List.replicate j (Value.slice (some ⟨gp,0,none⟩) 8 8)).length≤1000000):=hid (by rw [List.length_replicate];omega)
        go_wp2_with (at_builtin;refine wpList_que rfl _ _ 25 rfl iP (.slice none 0 0) 24 Tryz.underlying25 hiP zp0 zp1 zp2 rfl (.slice (some ⟨gp,0,none⟩) 8 8) _ rfl h rfl rfl HLT.out (by decide) ?_;intro v8 w8 h8;have H8:=hid h8;clear h h8)
        go_roundw
        case rel=>exact ⟨j + 1,hlt,by go_num,by rw [List.replicate_succ'];exact H8.out⟩
        case measure=>simp [intOf];omega
      · obtain rfl:n=j:=by omega
        have e1:decide ((n:Int) < (n:Int))=false:=decide_eq_false (by omega)
        have e1':decide (n < n)=false:=decide_eq_false (by omega)
        go_wp2_with fail
        refine (place_ex _ a0 3 (by decide) (by decide)).mono ?_
        rintro e w' ⟨o,ho,rfl,rfl⟩
        have h2:=h.newBlk (t:=32) (cs:=(dCfg o).cells)
        clear h
        go_upto_region 11 with fail
        generalize hW:World.alloc _ _=W2 at h2 ⊢
        generalize wr.heap.size=gc at h2 ⊢
        clear hW
        have hb:=h2.blk
        have h3:=h2.newQue 34 #[.int .u64 9,.int .u64 9] 2 rfl (by decide)
        have HO:=hid ho
        clear h2
        go_wp2_with (refine wpList_load rfl 32 _ rfl gc _ _ rfl Tryz.isAgg32 _ Tryz.sizeOf32 hb rfl ?_)
        generalize hW:World.alloc _ _=W3 at h3 ⊢
        generalize W2.heap.size=gi at h3 ⊢
        clear hW hb
        have h4:Hold w W3 (queA 29 (.slice A7 n c7) (List.replicate n (.slice (some ⟨gp,0,none⟩) 8 8))*(blkA 28 gp #[.int .i64 1,.int .i64 2,.int .i64 0,.int .i64 0,.int .i64 1,.int .i64 7,.int .i64 0,.int .i64 0,.int .i64 0,.int .i64 8,.int .i64 10,.int .i64 1,.int .i64 0,.int .i64 0,.int .i64 0,.int .i64 10,.int .i64 3,.int .i64 0,.int .i64 0,.int .i64 1,.int .i64 3,.int .i64 1,.int .i64 1,.int .i64 2,.int .i64 0,.int .i64 11,.int .i64 0,.int .i64 1,.int .i64 0,.int .i64 0,.int .i64 11,.int .i64 0,.int .i64 1,.int .i64 0,.int .i64 1,.int .i64 8,.int .i64 0,.int .i64 0,.int .i64 0,.int .i64 0]*(queA 34 (.slice (some ⟨gi,0,none⟩) 2 2) [.int .u64 9,.int .u64 9]*(blkA 32 gc (dCfg o).cells*Asr.emp)))):=h3.pk4 [2,3,0,1]
        clear h3
        refine (rep_any (n:=n) (rr:=4) (m:=len) (c:=dCfg o) (q:=fun _=>dPart) (Ai:=some ⟨gi,0,none⟩) (wn:=2) (ci:=2) h4 ⟨by omega,by omega⟩ List.length_replicate (fun t ht=>⟨by decide,(.slice (some ⟨gp,0,none⟩) 8 8),by rw [List.getElem?_replicate,if_pos ht],some ⟨gp,0,none⟩,8,rfl,fun F w' hh _=>⟨⟨gp,0,none⟩,rfl,fun jj u hu=>?_⟩⟩) (by decide) hl HK.out).mono ?_
        · rw [Addr.add_lit,Nat.zero_add]
          refine hh.drop.blk.some_ ?_
          rw [← hu]
          show _=(#[.int .i64 1,.int .i64 2,.int .i64 0,.int .i64 0,.int .i64 1,.int .i64 7,.int .i64 0,.int .i64 0,.int .i64 0,.int .i64 8,.int .i64 10,.int .i64 1,.int .i64 0,.int .i64 0,.int .i64 0,.int .i64 10,.int .i64 3,.int .i64 0,.int .i64 0,.int .i64 1,.int .i64 3,.int .i64 1,.int .i64 1,.int .i64 2,.int .i64 0,.int .i64 11,.int .i64 0,.int .i64 1,.int .i64 0,.int .i64 0,.int .i64 11,.int .i64 0,.int .i64 1,.int .i64 0,.int .i64 1,.int .i64 8,.int .i64 0,.int .i64 0,.int .i64 0,.int .i64 0]:Array Value).toList[jj]?
          simp
        rintro e w5 ⟨pv',vs,kv,ks,rfl,hvs,hks,hkr,h5⟩
        clear h4
        have hn16:1≤n∧n≤16:=by omega
        have E:=dEnv (n:=n) (o:=o) (by have:=HO.out;omega) hn16.2
        have HR:=hid (mc_run (I:=RD (dCfg o) n) (c:=dCfg o) (ps:=fun _=>dProg) (n:=n) (ks:=ks) (Ai:=some ⟨gi,0,none⟩) (ci:=2) (init:=[9,9]) (bA:=gi) (vs:=vs) (pv:=pv') (kv:=kv) h5 HF.out (fun i hi=>PgOk.of HF.out (E.prog i hi)) (dCfg_err (by have:=HO.out;omega)) hn16 hvs rfl (by omega) hkr (fun F w' hh=>hh.drop.drop.drop.queReads) (RD.new (dCfg_err (by have:=HO.out;omega)) hn16.2 rfl (dCfg_blocks o)) (fun gm B M i hB hI hi=>hI.pick E rfl (by show 4≤clampM (4:Int);decide) HF.out hi (by omega)) (fun M hI=>by
          obtain ⟨⟨H,m,hID⟩,_,hB⟩:=hI
          exact ⟨hID.gen.shp.ok,by omega,fun i hi=>by have:=(hID.gen.wf i hi).seenl.2.1;omega⟩))
        have HKS:=hid hks
        clear h5 hvs hkr hks E
        go_wp2_with fail
        refine HR.out.mono ?_
        rintro e w6 ⟨M,y,thv,stv,Ae,ne,ce,obv,os,hI,hos,rfl,h6⟩
        clear HR
        obtain ⟨⟨H,mE,hID⟩,_,hB⟩:=hI
        have hrun:=hID.run
        clear hID
        unfold resA at h6
        have h7:=h6.part
        obtain ⟨nl,hnl⟩:∃ nl,nl=M.steps.length:=⟨_,rfl⟩
        obtain ⟨As,cs,rfl⟩:∃ A c,stv = .slice A nl c:=by rw [hnl];exact h7.rowSForm
        obtain ⟨At,ct,rfl⟩:∃ A c,thv = .slice A n c:=h7.drop.part.rowSForm
        obtain ⟨Ao,co,rfl⟩:∃ A c,obv = .slice A os.length c:=h7.drop.part.drop.part.queForm
        have h8:Hold w w6 (rowT 52 9 (.slice As nl cs) nl (stL M.steps)*Asr.emp):=by rw [hnl] at h7 ⊢;exact h7.imp (Imp.under _ (Imp.toEmp _))
        have h9:=h8.newBlk (t:=42) (cs:=#[.slice none 0 0,.slice none 0 0,.int .u64 0,.int .u64 0,.int .u64 0,.slice none 0 0,.slice none 0 0,.slice none 0 0,.slice none 0 0,.slice none 0 0,.slice none 0 0,.slice none 0 0])
        have HM:=hid (And.intro hrun hnl)
        have hnl2:nl≤300:=by have:=HKS.out;omega
        clear h6 h7 h8 hrun hnl hB hos
        obtain ⟨iU,hiU,hzU0,hzU1,hzU2⟩:=info_parts info_u64
        obtain ⟨iI,hiI,hzI0,hzI1,hzI2⟩:=info_parts info_int
        go_upto_region 14 with (refine wpList_store rfl 42 _ _ rfl _ _ _ (resC M.C y (.slice At n ct) (.slice As nl cs) (.slice Ae ne ce) (.slice Ao os.length co)) rfl rfl _ Tryz.sizeOf42 h9 rfl rfl rfl ?_;intro w7 h11;clear h9)
        generalize w6.heap.size=g12 at h11 ⊢
        go_upto_region 15 with (at_make;refine wpList_make_full _ rfl _ _ 33 rfl _ 34 iU (.int .u64 0) 1 Tryz.underlying33 hiU hzU0 hzU1 .i64 .i64 (n:Int) (n:Int) n rfl rfl rfl rfl (by rw [hzU2];omega) (by unfold maxLen;omega) (Nat.le_refl _) ?_;intro w8 hown hgrow)
        rw [Nat.mul_one] at hown
        have h12:=h11.make (k:=.u64) hown hgrow (Nat.le_refl _)
        rw [fnL_zero] at h12
        generalize w7.heap.size=gf at h12 ⊢
        clear hown hgrow h11
        go_upto_region 16 with (at_make;refine wpList_make_full _ rfl _ _ 23 rfl _ 3 iI (.int .i64 0) 1 Tryz.underlying23 hiI hzI0 hzI1 .i64 .i64 (n:Int) (n:Int) n rfl rfl rfl rfl (by rw [hzI2];omega) (by unfold maxLen;omega) (Nat.le_refl _) ?_;intro w9 hown hgrow)
        rw [Nat.mul_one] at hown
        have h13:=h12.make (k:=.i64) hown hgrow (Nat.le_refl _)
        rw [fnL_zero] at h13
        generalize w8.heap.size=gn at h13 ⊢
        clear hown hgrow h12
        go_upto_region 17 with (at_make;refine wpList_make_full _ rfl _ _ 33 rfl _ 34 iU (.int .u64 0) 1 Tryz.underlying33 hiU hzU0 hzU1 .i64 .i64 (n:Int) (n:Int) n rfl rfl rfl rfl (by rw [hzU2];omega) (by unfold maxLen;omega) (Nat.le_refl _) ?_;intro wa hown hgrow)
        rw [Nat.mul_one] at hown
        have h14:=h13.make (k:=.u64) hown hgrow (Nat.le_refl _)
        rw [fnL_zero] at h14
        generalize w9.heap.size=gl at h14 ⊢
        clear hown hgrow h13
        go_upto_region 18 with (at_make;refine wpList_make_full _ rfl _ _ 33 rfl _ 34 iU (.int .u64 0) 1 Tryz.underlying33 hiU hzU0 hzU1 .i64 .i64 (n:Int) (n:Int) n rfl rfl rfl rfl (by rw [hzU2];omega) (by unfold maxLen;omega) (Nat.le_refl _) ?_;intro wb hown hgrow)
        rw [Nat.mul_one] at hown
        have h15:=h14.make (k:=.u64) hown hgrow (Nat.le_refl _)
        rw [fnL_zero] at h15
        generalize wa.heap.size=go at h15 ⊢
        clear hown hgrow h14
        have H:=hid (h15.pk5 [3,2,1,0,4])
        clear h15
        go_wp2_with fail
        go_loopw [20] (fun i wr=>∃ (j:Nat) (m:MonD),j≤nl∧i = .int .i64 (j:Int)∧monsD n mon0 (M.steps.take j)=some m∧Hold w wr (rowA 34 (.slice (some ⟨gf,0,none⟩) n n) n (fnL .u64 n m.first)*(rowA 3 (.slice (some ⟨gn,0,none⟩) n n) n (fnL .i64 n m.number)*(rowA 34 (.slice (some ⟨gl,0,none⟩) n n) n (fnL .u64 n m.loaded)*(rowA 34 (.slice (some ⟨go,0,none⟩) n n) n (fnL .u64 n m.orec)*(blkA 42 g12 (resC M.C y (.slice At n ct) (.slice As nl cs) (.slice Ae ne ce) (.slice Ao os.length co))*(rowT 52 9 (.slice As nl cs) nl (stL M.steps)*Asr.emp))))))) (fun i _=>nl - (intOf i).toNat)
        case atStart=>exact ⟨0,mon0,Nat.zero_le _,rfl,rfl,H.out⟩
        case round =>
          clear H
          obtain ⟨j,m,hj,rfl,hm,h⟩:=hrel
          by_cases hlt2:j < nl
          · have e3:decide ((j:Int) < (nl:Int))=true:=decide_eq_true (by omega)
            have e3':decide (j < nl)=true:=decide_eq_true hlt2
            have j0:(0:Int)≤(j:Int):=by omega
            have j1:(j:Int) < (nl:Int):=by omega
            obtain ⟨x,hx⟩:∃ x,M.steps[j]?=some x:=⟨_,List.getElem?_eq_getElem (by have:=HM.out.2;omega)⟩
            obtain ⟨m',hm',ht'⟩:=monsD_take HM.out.1 hx hm
            obtain ⟨t,ht,hth,hcase⟩:=monD_inv hm'
            obtain ⟨gst,rfl,hcv,-⟩:=(h.pk6 [5]).rowSBlk (by decide) (by omega)
            obtain ⟨th,ph,att,ac⟩:=x
            have HCV:Hid (∀ (jj:Nat) (u:Value),(stC th ph att ac).toList[jj]?=some u→wr.cell? ⟨gst,j*9 + jj,none⟩=some u):=hid (fun jj u hu=>hcv _ _ (stL_at M.steps j _ jj u hx hu))
            dsimp only at hth hcase
            subst hth
            have p9:=(h.pk5 [4]).blk.some_ (i:=9) rfl
            have H1:=hid (h.newBlk (t:=52) (cs:=stC (t:Int) ph att ac))
            have HC:=hid (And.intro hcase ht')
            clear h hx hm hm' ht' hcase hcv
            have t0:(0:Int)≤(t:Int):=by omega
            have t1:(t:Int) < (n:Int):=by omega
            have f1:decide ((t:Int) < 0)=false:=decide_eq_false (by omega)
            have f2:decide ((n:Int)≤(t:Int))=false:=decide_eq_false (by omega)
            have f2':decide (n≤t)=false:=decide_eq_false (by omega)
            go_upto_region 22 with (refine wpList_loadAny rfl 52 _ rfl ⟨gst,j*9,none⟩ (stC (t:Int) ph att ac) rfl Tryz.isAgg52 9 Tryz.sizeOf52 ?_ rfl ?_)
            · exact HCV.out
            have h1:=H1.out
            generalize hW:World.alloc _ _=W5 at h1 ⊢
            generalize wr.heap.size=gx at h1 ⊢
            clear hW H1 HCV p9
            have x0:=h1.blk.some_ (i:=0) rfl
            have x1:=h1.blk.some_ (i:=1) rfl
            have H1:=hid h1
            clear h1
            go_upto_region 26 with fail
            clear x0 x1
            have h1:=H1.out
            clear H1
            rcases HC.out.1 with ⟨rfl,rfl⟩ | ⟨rfl,hix,rfl⟩ | ⟨rfl,hgo,rfl⟩ | ⟨rfl,hgo,hnu,rfl⟩ | ⟨rfl,hgo,hnu,hlo,rfl⟩ | ⟨n5,n6,n7,rfl⟩
            · have x6:=h1.blk.some_ (i:=6) rfl
              have h2:=h1.pk5 [4,0,1,2,3]
              have p:=h2.rowAt (fnL_at ht)
              obtain ⟨fz,h3⟩:=h2.rowSet ht (.int .u64 ac.got)
              rw [fnL_set] at h3
              have H3:=hid h3
              clear h1 h2 h3
              go_wp2_with fail
              clear x6 p fz
              go_roundw
              case rel=>exact ⟨j + 1,_,hlt2,by go_num,HC.out.2,(H3.out.pk5 [2,3,4,0,1]).imp (Imp.under _ (Imp.under _ (Imp.under _ (Imp.under _ (Imp.drop _ _)))))⟩
              case measure=>simp [intOf];omega
            · have x6:=h1.blk.some_ (i:=6) rfl
              have h2:=h1.pk4 [3,0,1,2]
              have p:=h2.rowAt (fnL_at ht)
              obtain ⟨fz,h3⟩:=h2.rowSet ht (.int .u64 ac.got)
              rw [fnL_set] at h3
              have H3:=hid h3
              clear h1 h2 h3
              go_upto_region 30 with fail
              clear x6 p fz
              have h:=H3.out.drew
              clear H3
              have HIX:=hid hix
              clear hix
              have hin:∃ b:Bool,(ac.index == 1)=b∧(b=true→(m.number t == att)=true∧(m.number t != att)=false):=⟨_,rfl,fun hb=>by have:=HIX.out (by simpa using hb);rw [this];simp⟩
              obtain ⟨b,hb,hb2⟩:=hin
              cases b with
              | true =>
                obtain ⟨e5,e6⟩:=hb2 rfl
                clear hb2
                refine wp_region_brk [] (by kernel_rfl) ?_
                generalize hW:World.drew _=W7 at h ⊢
                clear hW
                refine wpAnyB_now (fun w'=>w'.cell? ⟨gx,5,none⟩=some (.int .i64 ac.index)∧w'.cell? ⟨gx,2,none⟩=some (.int .i64 att)∧w'.cell? ⟨gn,t,none⟩=some (.int .i64 (m.number t))) (fun _ _=>trivial) _ _ _ _ ?_
                refine' wbk [true,true,true,true,true,true,true,true,true,true,true,true,true] 164 ⟨h.drop.blk.some_ (i:=5) rfl,h.drop.blk.some_ (i:=2) rfl,(h.pk4 [3]).rowAt (fnL_at ht)⟩ (fun wq hq=>?_) ?_;rotate_left 1
                · simp only [maskL]
                  obtain ⟨s0,s1,s2⟩:=hq
                  repeat (go_big_quiet_step (fail))
                  exact wpQuiet_nil rfl
                refine wpAnyB_done (by kernel_rfl) ?_ _
                have H3:=hid h
                clear h
                go_wp2_with fail
                go_roundw
                case rel=>exact ⟨j + 1,_,hlt2,by go_num,HC.out.2,H3.out.pk5 [2,3,0,4]⟩
                case measure=>simp [intOf];omega
              | false =>
                clear hb2
                refine wp_region_brk [] (by kernel_rfl) ?_
                generalize hW:World.drew _=W7 at h ⊢
                clear hW
                refine wpAnyB_now (fun w'=>w'.cell? ⟨gx,5,none⟩=some (.int .i64 ac.index)∧w'.cell? ⟨gx,2,none⟩=some (.int .i64 att)∧w'.cell? ⟨gn,t,none⟩=some (.int .i64 (m.number t))) (fun _ _=>trivial) _ _ _ _ ?_
                refine' wbk [true,true,true,true,true,true,true,true,true,true,true,true,true] 164 ⟨h.drop.blk.some_ (i:=5) rfl,h.drop.blk.some_ (i:=2) rfl,(h.pk4 [3]).rowAt (fnL_at ht)⟩ (fun wq hq=>?_) ?_;rotate_left 1
                · simp only [maskL]
                  obtain ⟨s0,s1,s2⟩:=hq
                  repeat (go_big_quiet_step (fail))
                  exact wpQuiet_nil rfl
                refine wpAnyB_done (by kernel_rfl) ?_ _
                have H3:=hid h
                clear h
                go_wp2_with fail
                go_roundw
                case rel=>exact ⟨j + 1,_,hlt2,by go_num,HC.out.2,H3.out.pk5 [2,3,0,4]⟩
                case measure=>simp [intOf];omega
            · have g1:(ac.got == m.orec t)=false:=beq_eq_false_iff_ne.2 hgo
              have g2:(ac.got != m.orec t)=true:=bne_iff_ne.2 hgo
              clear hgo
              have H3:=hid h1
              clear h1
              go_upto_region 33 with fail
              have h:=H3.out.drew
              clear H3
              refine wp_region_brk [] (by kernel_rfl) ?_
              generalize hW:World.drew _=W7 at h ⊢
              clear hW
              refine wpAnyB_now (fun w'=>w'.cell? ⟨gx,6,none⟩=some (.int .u64 ac.got)∧w'.cell? ⟨go,t,none⟩=some (.int .u64 (m.orec t))) (fun _ _=>trivial) _ _ _ _ ?_
              refine' wbk [true,true,true,true,true,true,true,true] 164 ⟨h.blk.some_ (i:=6) rfl,(h.pk5 [4]).rowAt (fnL_at ht)⟩ (fun wq hq=>?_) ?_;rotate_left 1
              · simp only [maskL]
                obtain ⟨s0,s1⟩:=hq
                repeat (go_big_quiet_step (fail))
                exact wpQuiet_nil rfl
              refine wpAnyB_done (by kernel_rfl) ?_ _
              have H3:=hid h
              clear h
              go_wp2_with fail
              go_roundw
              case rel=>exact ⟨j + 1,_,hlt2,by go_num,HC.out.2,H3.out.drop.pk4 [0,1,2,3]⟩
              case measure=>simp [intOf];omega
            · have g1:(ac.got == m.orec t)=true:=by rw [hgo];simp
              have g2:(ac.got != m.orec t)=false:=by rw [hgo];simp
              clear hgo
              have g3:(m.number t == att)=false:=beq_eq_false_iff_ne.2 hnu
              have g4:(m.number t != att)=true:=bne_iff_ne.2 hnu
              clear hnu
              have H3:=hid h1
              clear h1
              go_upto_region 33 with fail
              have h:=H3.out.drew
              clear H3
              refine wp_region_brk [] (by kernel_rfl) ?_
              generalize hW:World.drew _=W7 at h ⊢
              clear hW
              refine wpAnyB_now (fun w'=>w'.cell? ⟨gx,6,none⟩=some (.int .u64 ac.got)∧w'.cell? ⟨go,t,none⟩=some (.int .u64 (m.orec t))) (fun _ _=>trivial) _ _ _ _ ?_
              refine' wbk [true,true,true,true,true,true,true,true] 164 ⟨h.blk.some_ (i:=6) rfl,(h.pk5 [4]).rowAt (fnL_at ht)⟩ (fun wq hq=>?_) ?_;rotate_left 1
              · simp only [maskL]
                obtain ⟨s0,s1⟩:=hq
                repeat (go_big_quiet_step (fail))
                exact wpQuiet_nil rfl
              refine wpAnyB_done (by kernel_rfl) ?_ _
              have H3:=hid h
              clear h
              go_upto_region 34 with fail
              have h:=H3.out.drew
              clear H3 g1 g2
              refine wp_region_brk [] (by kernel_rfl) ?_
              generalize hW:World.drew _=W7 at h ⊢
              clear hW
              refine wpAnyB_now (fun w'=>w'.cell? ⟨gn,t,none⟩=some (.int .i64 (m.number t))∧w'.cell? ⟨gx,2,none⟩=some (.int .i64 att)) (fun _ _=>trivial) _ _ _ _ ?_
              refine' wbk [true,true,true,true,true,true,true] 164 ⟨(h.pk3 [2]).rowAt (fnL_at ht),h.blk.some_ (i:=2) rfl⟩ (fun wq hq=>?_) ?_;rotate_left 1
              · simp only [maskL]
                obtain ⟨s0,s1⟩:=hq
                repeat (go_big_quiet_step (fail))
                exact wpQuiet_nil rfl
              refine wpAnyB_done (by kernel_rfl) ?_ _
              have H3:=hid h
              clear h
              go_upto_region 35 with fail
              have h:=H3.out.drew
              clear H3 g3 g4
              have hS:∀ w',Hold w w' (blkA 52 gx (stC (t:Int) 7 att ac)*(rowA 34 (.slice (some ⟨gf,0,none⟩) n n) n (fnL .u64 n m.first)*(rowA 3 (.slice (some ⟨gn,0,none⟩) n n) n (fnL .i64 n m.number)*(rowA 34 (.slice (some ⟨gl,0,none⟩) n n) n (fnL .u64 n m.loaded)*(rowA 34 (.slice (some ⟨go,0,none⟩) n n) n (fnL .u64 n m.orec)*(blkA 42 g12 (resC M.C y (.slice At n ct) (.slice (some ⟨gst,0,none⟩) nl cs) (.slice Ae ne ce) (.slice Ao os.length co))*(rowT 52 9 (.slice (some ⟨gst,0,none⟩) nl cs) nl (stL M.steps)*Asr.emp)))))))→w'.cell? ⟨gx,2,none⟩=some (.int .i64 att)∧w'.cell? ⟨gl,t,none⟩=some (.int .u64 (m.loaded t)):=fun w' h=>⟨h.blk.some_ (i:=2) rfl,(h.pk4 [3]).rowAt (fnL_at ht)⟩
              have HS:=hid hS
              clear hS
              refine wp_region_brk [11,13] (by kernel_rfl) ?_
              generalize hW:World.drew _=W7 at h ⊢
              clear hW
              refine wpAnyB_now (fun w'=>w'.cell? ⟨gx,2,none⟩=some (.int .i64 att)∧w'.cell? ⟨gl,t,none⟩=some (.int .u64 (m.loaded t))) (fun _ _=>trivial) _ _ _ _ ?_
              refine' wbt [true,true,true,true,true,false,true,true,true] 164 (HS.out _ h) (fun wq _=>?_) ?_;rotate_left 1
              · simp only [maskL]
                repeat (go_big_quiet_step (fail))
                exact wpQuiet_nil rfl
              refine' wbk [false,false,false,false,false,true,false,false,false,true,true] 164 (HS.out _ h) (fun wq hq=>?_) ?_;rotate_left 1
              · simp only [maskL]
                obtain ⟨s0,s1⟩:=hq
                repeat (go_big_quiet_step (fail))
                exact wpQuiet_nil rfl
              refine wbb [false,false,false,false,false,false,false,false,false,false,false,true] (fuel:=2) (fun QB hQB hQX=>?_)
              simp only [maskL]
              have h2:=h.pk3 [2,0,1]
              have p:=h2.rowAt (fnL_at ht)
              obtain ⟨fz,h3⟩:=h2.rowSet ht (.int .i64 att)
              rw [fnL_set] at h3
              have H3:=hid h3
              clear h h2 h3
              go_wp2_with fail
              refine hQB.out _ _ ?_
              clear hQB hQX QB p fz
              refine wpAnyB_forget (by kernel_rfl) ?_
              refine' wbk [false,false,false,false,false,false,false,false,false,false,false,false,true] 164 trivial (fun wq hq=>?_) ?_;rotate_left 1
              · simp only [maskL]
                repeat (go_big_quiet_step (fail))
                exact wpQuiet_nil rfl
              refine wbr [false,false,false,false,false,false,false,false,false,false,false,false,false,true] (fuel:=0) (fun QB hQB hQX=>?_)
              simp only [maskL]
              have h4:=H3.out.pk3 [2,0,1]
              have p:=h4.rowAt (fnL_at ht)
              obtain ⟨fz,h5⟩:=h4.rowSet ht (.int .u64 (m.loaded t))
              rw [fnL_set] at h5
              have H4:=hid h5
              clear h4 h5
              go_wp2_with fail
              refine hQB.out _ _ trivial ?_
              clear hQB hQX QB p fz
              refine wpAnyB_done (by kernel_rfl) ?_ _
              go_wp2_with fail
              go_roundw
              case rel=>exact ⟨j + 1,_,hlt2,by go_num,HC.out.2,H4.out.pk5 [0,1,3,4]⟩
              case measure=>simp [intOf];omega
            · have g1:(ac.got == m.orec t)=true:=by rw [hgo];simp
              have g2:(ac.got != m.orec t)=false:=by rw [hgo];simp
              clear hgo
              have g3:(m.number t == att)=true:=by rw [hnu];simp
              have g4:(m.number t != att)=false:=by rw [hnu];simp
              have g5:(m.loaded t == m.first t)=true:=by rw [hlo];simp
              have g6:(m.loaded t != m.first t)=false:=by rw [hlo];simp
              clear hnu hlo
              have H3:=hid h1
              clear h1
              go_upto_region 33 with fail
              have h:=H3.out.drew
              clear H3
              refine wp_region_brk [] (by kernel_rfl) ?_
              generalize hW:World.drew _=W7 at h ⊢
              clear hW
              refine wpAnyB_now (fun w'=>w'.cell? ⟨gx,6,none⟩=some (.int .u64 ac.got)∧w'.cell? ⟨go,t,none⟩=some (.int .u64 (m.orec t))) (fun _ _=>trivial) _ _ _ _ ?_
              refine' wbk [true,true,true,true,true,true,true,true] 164 ⟨h.blk.some_ (i:=6) rfl,(h.pk5 [4]).rowAt (fnL_at ht)⟩ (fun wq hq=>?_) ?_;rotate_left 1
              · simp only [maskL]
                obtain ⟨s0,s1⟩:=hq
                repeat (go_big_quiet_step (fail))
                exact wpQuiet_nil rfl
              refine wpAnyB_done (by kernel_rfl) ?_ _
              have H3:=hid h
              clear h
              go_upto_region 34 with fail
              have h:=H3.out.drew
              clear H3 g1 g2
              refine wp_region_brk [] (by kernel_rfl) ?_
              generalize hW:World.drew _=W7 at h ⊢
              clear hW
              refine wpAnyB_now (fun w'=>w'.cell? ⟨gn,t,none⟩=some (.int .i64 (m.number t))∧w'.cell? ⟨gx,2,none⟩=some (.int .i64 att)) (fun _ _=>trivial) _ _ _ _ ?_
              refine' wbk [true,true,true,true,true,true,true] 164 ⟨(h.pk3 [2]).rowAt (fnL_at ht),h.blk.some_ (i:=2) rfl⟩ (fun wq hq=>?_) ?_;rotate_left 1
              · simp only [maskL]
                obtain ⟨s0,s1⟩:=hq
                repeat (go_big_quiet_step (fail))
                exact wpQuiet_nil rfl
              refine wpAnyB_done (by kernel_rfl) ?_ _
              have H3:=hid h
              clear h
              go_upto_region 36 with fail
              have h:=H3.out.drew
              clear H3 g3 g4
              refine wp_region_brk [] (by kernel_rfl) ?_
              generalize hW:World.drew _=W7 at h ⊢
              clear hW
              refine wpAnyB_now (fun w'=>w'.cell? ⟨gl,t,none⟩=some (.int .u64 (m.loaded t))∧w'.cell? ⟨gf,t,none⟩=some (.int .u64 (m.first t))) (fun _ _=>trivial) _ _ _ _ ?_
              refine' wbk [true,true,true,true,true,true,true,true,true] 164 ⟨(h.pk4 [3]).rowAt (fnL_at ht),(h.pk2 [1]).rowAt (fnL_at ht)⟩ (fun wq hq=>?_) ?_;rotate_left 1
              · simp only [maskL]
                obtain ⟨s0,s1⟩:=hq
                repeat (go_big_quiet_step (fail))
                exact wpQuiet_nil rfl
              refine wpAnyB_done (by kernel_rfl) ?_ _
              have H3:=hid h
              clear h
              go_wp2_with fail
              go_roundw
              case rel=>exact ⟨j + 1,_,hlt2,by go_num,HC.out.2,H3.out.drop.pk4 [0,1,2,3]⟩
              case measure=>simp [intOf];omega
            · have g5:(ph == 5)=false:=beq_eq_false_iff_ne.2 n5
              have g6:(ph == 6)=false:=beq_eq_false_iff_ne.2 n6
              have g7:(ph == 7)=false:=beq_eq_false_iff_ne.2 n7
              clear n5 n6 n7
              have H3:=hid h1
              clear h1
              go_wp2_with fail
              go_roundw
              case rel=>exact ⟨j + 1,_,hlt2,by go_num,HC.out.2,H3.out.drop.pk4 [0,1,2,3]⟩
              case measure=>simp [intOf];omega
          · obtain rfl:nl=j:=by omega
            have e3:decide ((nl:Int) < (nl:Int))=false:=decide_eq_false (by omega)
            have e3':decide (nl < nl)=false:=decide_eq_false (by omega)
            have p9:=(h.pk5 [4]).blk.some_ (i:=9) rfl
            have HH:=hid h
            clear h
            go_wp2_with fail
            refine (awake21_any HF.out HH.out).mono ?_
            rintro e w' ⟨rfl,h⟩
            clear p9
            go_wp2_with fail
            go_ret
            exact ⟨rfl,h.below⟩
  · have hd:decide ((300:Int) < (len:Int))=true:=decide_eq_true (by omega)
    have hd':decide (300 < len)=true:=decide_eq_true (by omega)
    have HF:=hid hF
    clear hF hk
    go_enter Tryz.func4,Tryz.ntmps4
    go_wp2_with fail
    refine (awake21_any HF.out h0).mono ?_
    rintro e w' ⟨rfl,h⟩
    go_wp2_with fail
    go_ret
    exact ⟨rfl,h.below⟩
end Go.Proofs.YtmlfangeanmmeaaGreatDoor
