/-
  What the proof of TopTransfers leans on, part 44 of 48: Xn, Xo, Xp, Xq, Xr, Ya, Yb. No statement of its own.
-/
import Derived.Test.YtmlfangeanmmeaaGreatDoorTm37
import Derived.Test.YtmlfangeanmmeaaGreatDoorTm40
import Derived.Test.YtmlfangeanmmeaaGreatDoorTm41
import Derived.Test.YtmlfangeanmmeaaGreatDoorTm43
namespace Go.Proofs.YtmlfangeanmmeaaGreatDoor
set_option maxRecDepth 8000
open Go.RowKit
set_option linter.unusedVariables false
theorem Z7y {P:Program} {w:World} {fn:Func} {x u v y:Tmp} {T:TypeId} (h:fn.results=#[.cell x T,.tmp u,.tmp v,.tmp y]) (tmps:Array Value) {g:Nat} {t:TypeId} {cs:Array Value} (hx:tmps.getD x undef = .pointer (some ⟨g,0,none⟩))
    (hA:∀ w,(isAgg T).run P w = .ok true w) (n:Nat) (hs:∀ w,(sizeOf T).run P w = .ok n w) (hb:Blk w g t cs) (hn:cs.size=n):(results fn tmps).run P w = .ok (.tuple #[.agg cs,tmps.getD u undef,tmps.getD v undef,tmps.getD y undef]) w:=by
  subst hn
  have hl:(loadCells ⟨g,0,none⟩ cs.toList.length).run P w = .ok cs.toList.toArray w:=by
    refine run_loadCells_list w _ _ fun j v hj=>?_
    rw [Z2a]
    refine hb.some_ ?_
    rw [← hj];simp
  have hl2:(loadCells ⟨g,0,none⟩ cs.size).run P w = .ok cs w:=by simpa using hl
  unfold results
  rw [h]
  rw [Array.getD_eq_getD_getElem?] at hx
  simp [hx,asAddr,loadVar,hA,hs,hl2,Result.andThen,Sem.run_bind]
section
variable {w0 w:World} {R:Asr} {n:Nat} {c:Cfg} {ps:Nat→List InsR} {pv kv:Value} {vs:List Value} {ks:List Int} {Ai:Option Addr} {ci bA:Nat} {init:List Int}
def resA (c:Cfg) (ps:Nat→List InsR) (n:Nat) (M:MS) (stv thv obv:Value) (os:List Value):Asr:=rowT 52 9 stv M.steps.length (stL M.steps)*(rowT 63 11 thv n (tsF ps M.th n)*(queA 53 obv os*sepR (obF os M.th n) Asr.emp))
def Zim (w0:World) (I:Nat→MS→Prop) (c:Cfg) (ps:Nat→List InsR) (n m:Nat):Prop:=∀ gm B M i,B < m→I B M→i < n→∃ M',I (B + 1) M'∧∀ R w,Hold w0 w (mcS gm c ps n M*R)→Calls Tryz.prog 12 #[ptrV gm,.int .i64 (i:Int)] w fun e w'=>∃ b,e = .returned (.bool b)∧Hold w0 w' (mcS gm c ps n M'*R)
set_option maxHeartbeats 4000000 in
theorem Zid {I:Nat→MS→Prop} (h:Hold w0 w (queA 29 pv vs*(sepR (pgL vs ps n) Asr.emp*(queA 3 kv (iL ks)*R)))) (hF:FormsAt w0) (hps:∀ i,i < n→PgOk w0 (ps i)) (hc:Z0p c=0) (hn:1≤n∧n≤16) (hvs:vs.length=n) (hwn:(init.length:Int)=c.words) (hks:ks.length≤1000) (hkr:∀ k ∈ ks,0≤k∧k < (n:Int))
    (hA:∀ F w',Hold w0 w' (F*R)→Reads w' bA Ai init.length (init.map (Value.int .u64)))
    (hI:I 0 ⟨newC c n init,fun _=>startT,[]⟩) (hP:Zim w0 I c ps n ks.length) (hE:∀ M,I ks.length M→COk M.C∧M.steps.length≤1000∧∀ i,i < n→(M.th i).obs.length≤1000) :
    Calls Tryz.prog 8 #[.agg (scC c (.slice Ai init.length ci) pv kv)] w fun e w'=>∃ M y thv stv Ae ne ce obv os,I ks.length M∧os.length=n∧e = .returned (.tuple #[.agg (resC M.C y thv stv (.slice Ae ne ce) obv),.int .i64 0,.int .i64 0,.int .i64 0])∧Hold w0 w' (resA c ps n M stv thv obv os*R):=by
  obtain ⟨Ap,cp,rfl⟩:=h.Zmc
  obtain ⟨Ak,ck,rfl⟩:∃ A c,kv = .slice A (iL ks).length c:=(h.pk3 [2]).Zmc
  rw [hvs] at h ⊢
  obtain ⟨nk,hnk⟩:∃ nk,nk=ks.length:=⟨_,rfl⟩
  rw [show (iL ks).length=ks.length from List.length_map _,← hnk] at h ⊢
  rw [← hnk] at hks hP hE
  have HX:=hid (And.intro hF (And.intro hps (And.intro hc (And.intro hwn (And.intro hvs (And.intro hnk (And.intro hkr hA)))))))
  have HY:=hid (And.intro hI (And.intro hP hE))
  have H1:=hid ((h.newBlk (t:=47) (cs:=scC c (.slice Ai init.length ci) (.slice Ap n cp) (.slice Ak nk ck))).newBlk (t:=42) (cs:=#[.slice none 0 0,.slice none 0 0,.int .u64 0,.int .u64 0,.int .u64 0,.slice none 0 0,.slice none 0 0,.slice none 0 0,.slice none 0 0,.slice none 0 0,.slice none 0 0,.slice none 0 0]))
  clear h hF hps hc hwn hvs hkr hA hI hP hE hnk
  obtain ⟨wn,hwn⟩:∃ wn,wn=init.length:=⟨_,rfl⟩
  rw [← hwn] at H1 ⊢
  have HWN:=hid hwn
  clear hwn
  go_enter Tryz.func8,Tryz.ntmps8
  go_upto_region 1 with fail
  have h1:=H1.out
  have hsz:(w.alloc (.cells (scC c (.slice Ai wn ci) (.slice Ap n cp) (.slice Ak nk ck)) 47)).heap.size=w.heap.size + 1:=by simp
  rw [hsz] at h1
  generalize hW:World.alloc (World.alloc _ _) _=W at h1 ⊢
  generalize w.heap.size + 1=gr at h1 ⊢
  generalize w.heap.size=gs at h1 ⊢
  clear hW H1 hsz
  have hN:Hid (Calls Tryz.prog 11 #[.agg (scC c (.slice Ai wn ci) (.slice Ap n cp) (.slice Ak nk ck))] W fun e w'=>∃ gm,e = .returned (.tuple #[ptrV gm,.int .i64 0,.int .i64 0,.int .i64 0])∧Hold w0 w' (mcS gm c ps n ⟨newC c n init,fun _=>startT,[]⟩*(queA 29 (.slice Ap n cp) vs*(sepR (pgL vs ps n) Asr.emp*(queA 3 (.slice Ak nk ck) (iL ks)*(blkA 42 gr #[.slice none 0 0,.slice none 0 0,.int .u64 0,.int .u64 0,.int .u64 0,.slice none 0 0,.slice none 0 0,.slice none 0 0,.slice none 0 0,.slice none 0 0,.slice none 0 0,.slice none 0 0]*(blkA 47 gs (scC c (.slice Ai wn ci) (.slice Ap n cp) (.slice Ak nk ck))*R))))))):=hid (by
    have hx:=HX.out
    rw [HWN.out] at h1 ⊢
    exact Zlf (h1.pk5 [2,3,4,0,1]) hx.1 hx.2.1 hx.2.2.1 hn hx.2.2.2.2.1 hx.2.2.2.1 (by have:=hx.2.2.2.2.2.1;omega) hx.2.2.2.2.2.2.1 fun F w' hh=>hx.2.2.2.2.2.2.2 _ w' hh.join.join)
  have hb:=h1.drop.blk
  clear h1
  go_wp2_with (refine Z04 rfl 47 _ rfl gs _ _ rfl Tryz.isAgg47 _ Tryz.sizeOf47 hb rfl ?_)
  refine hN.out.mono ?_
  rintro e w2 ⟨gm,rfl,h2⟩
  clear hN hb
  have q15:=(h2.pk6 [5]).blk.some_ (i:=15) rfl
  have H2:=hid (h2.pk6 [0,3,4,1,2,5])
  clear h2
  go_wp2_with fail
  clear q15
  obtain ⟨RR,hRR⟩:∃ RR:Asr,RR=queA 29 (.slice Ap n cp) vs*(sepR (pgL vs ps n) Asr.emp*(blkA 47 gs (scC c (.slice Ai wn ci) (.slice Ap n cp) (.slice Ak nk ck))*R)):=⟨_,rfl⟩
  have H:=hid (show Hold w0 _ (mcS gm c ps n ⟨newC c n init,fun _=>startT,[]⟩*(queA 3 (.slice Ak nk ck) (iL ks)*(blkA 42 gr #[.slice none 0 0,.slice none 0 0,.int .u64 0,.int .u64 0,.int .u64 0,.slice none 0 0,.slice none 0 0,.slice none 0 0,.slice none 0 0,.slice none 0 0,.slice none 0 0,.slice none 0 0]*RR))) by rw [hRR];exact H2.out)
  have HRR:=hid hRR
  clear H2 hRR
  go_loopw [25] (fun i wr=>∃ (j:Nat) (M:MS),j≤nk∧i = .int .i64 (j:Int)∧I j M∧Hold w0 wr (mcS gm c ps n M*(queA 3 (.slice Ak nk ck) (iL ks)*(blkA 42 gr #[.slice none 0 0,.slice none 0 0,.int .u64 0,.int .u64 0,.int .u64 0,.slice none 0 0,.slice none 0 0,.slice none 0 0,.slice none 0 0,.slice none 0 0,.slice none 0 0,.slice none 0 0]*RR)))) (fun i _=>nk - (intOf i).toNat)
  case atStart=>exact ⟨0,_,Nat.zero_le _,rfl,HY.out.1,H.out⟩
  case round =>
    clear H
    obtain ⟨j,M,hj,rfl,hIj,h⟩:=hrel
    by_cases hlt:j < nk
    · have e1:decide ((j:Int) < (nk:Int))=true:=decide_eq_true (by omega)
      have e1':decide (j < nk)=true:=decide_eq_true hlt
      have k0:(0:Int)≤(j:Int):=by omega
      have k1:(j:Int) < (nk:Int):=by omega
      have hkl:j < ks.length:=by have:=HX.out.2.2.2.2.2.1;omega
      obtain ⟨i,hi,hki⟩:∃ i:Nat,i < n∧ks[j]=(i:Int):=by
        have:=HX.out.2.2.2.2.2.2.1 _ (List.getElem_mem hkl)
        exact ⟨ks[j].toNat,by omega,by omega⟩
      have hk:(iL ks)[j]?=some (.int .i64 (i:Int)):=by
        show (ks.map _)[j]?=_
        rw [List.getElem?_map,List.getElem?_eq_getElem hkl,hki];rfl
      obtain ⟨ad,rfl⟩:∃ ad,Ak=some ad:=by
        obtain ⟨fp,hp⟩:=h.drop.get
        obtain ⟨_,_,_,b,hr,_⟩:=queReads hp
        obtain ⟨ad2,hA,_⟩:=hr.cellAt (k:=j) hlt
        exact ⟨ad2,hA⟩
      have qk:=h.drop.queAt hk
      obtain ⟨M',hI',hPk⟩:=HY.out.2.1 gm j M i hlt hIj hi
      have HPk:=hid (hPk _ _ h)
      have HI':=hid hI'
      clear h hk hki hkl hIj hI' hPk
      go_wp2_with fail
      refine HPk.out.mono ?_
      rintro e w5 ⟨b,rfl,h5⟩
      have H5:=hid h5
      clear h5 HPk qk
      go_wp2_with fail
      go_roundw
      case rel=>exact ⟨j + 1,M',hlt,by go_num,HI'.out,H5.out⟩
      case measure=>simp [intOf];omega
    · obtain rfl:j=nk:=by omega
      have e1:decide ((j:Int) < (j:Int))=false:=decide_eq_false (by omega)
      have e1':decide (j < j)=false:=decide_eq_false (by omega)
      obtain ⟨hC,hl,hob⟩:=HY.out.2.2 M hIj
      have HR:=hid (Zle h hC hl hn.1 hn.2 hob)
      have HIj:=hid hIj
      clear h hC hl hob hIj
      go_wp2_with fail
      refine HR.out.mono ?_
      rintro e w5 ⟨y,thv,A,k,Ae,ne,ce,obv,os,rfl,hos,h5⟩
      obtain ⟨n7,c7,A7,rfl⟩:∃ n c A,thv = .slice A n c:=by obtain ⟨A,c,h⟩:=(h5.pk2 [1]).Zmb;exact ⟨_,c,A,h⟩
      obtain ⟨n8,c8,A8,rfl⟩:∃ n c A,obv = .slice A n c:=by obtain ⟨A,c,h⟩:=(h5.pk3 [2]).Zmc;exact ⟨_,c,A,h⟩
      have h6:=h5.pk6 [5,0,1,2,3,4]
      have HOS:=hid hos
      clear h5 hos HR
      obtain ⟨nl,hnl⟩:∃ nl,nl=M.steps.length:=⟨_,rfl⟩
      rw [← hnl] at h6 ⊢
      have HNL:=hid hnl
      clear hnl
      go_wp2_with (refine Z03 rfl 42 _ _ rfl gr _ _ (resC M.C y (.slice A7 n7 c7) (.slice A nl k) (.slice Ae ne ce) (.slice A8 n8 c8)) rfl rfl _ Tryz.sizeOf42 h6 rfl rfl rfl ?_;intro w7 h11)
      refine bodyPost_ret (Z7y Tryz.results8 _ rfl Tryz.isAgg42 _ Tryz.sizeOf42 h11.blk rfl) rfl ⟨M,y,_,_,_,_,_,_,os,HIj.out,HOS.out,rfl,?_⟩
      have h12:Hold w0 w7 (rowT 52 9 (.slice A nl k) nl (stL M.steps)*(rowT 63 11 (.slice A7 n7 c7) n (tsF ps M.th n)*(queA 53 (.slice A8 n8 c8) os*(sepR (obF os M.th n) Asr.emp*(queA 3 (.slice Ak j ck) (iL ks)*RR))))):=h11.drop
      have h13:=((((h12.pk4 [2,3,0,1]).join).pk3 [2,0,1]).join.pk2 [1,0]).join
      rw [HRR.out] at h13
      have h14:=h13.imp (Imp.under _ ((Imp.drop _ _).trans ((Imp.drop _ _).trans ((Imp.drop _ _).trans (Imp.drop _ _)))))
      unfold resA
      rw [← HNL.out]
      exact h14
end
theorem Z9f (l:List InsR):∀ m,reps m l++l=reps (m + 1) l
  | 0=>by simp [reps]
  | m + 1=>by rw [Z4n,List.append_assoc,Z9f l m,← Z4n]
theorem Zbf (p q:List InsR):insL (p++q)=insL p++insL q:=by unfold insL;rw [List.flatMap_append]
theorem Zgv {vs:List Value} {ps:Nat→List InsR} {v:Value}:pgL (vs++[v]) ps (vs.length + 1)=pgL vs ps vs.length++[Z0a v (ps vs.length)]:=by
  unfold pgL
  rw [List.range_succ,List.map_append]
  congr 1
  · apply List.map_congr_left
    intro i hi
    have:i < vs.length:=by simpa using hi
    rw [List.getD_eq_getElem?_getD,List.getD_eq_getElem?_getD,List.getElem?_append_left this]
  · show [Z0a ((vs++[v]).getD vs.length undef) (ps vs.length)]=_
    rw [List.getD_eq_getElem?_getD]
    simp
theorem Z6q:(Tryz.prog.info? 29).map (fun i=>(i.zero,i.size,i.bytes))=some (some (.slice none 0 0),1,24):=by kernel_rfl
def SrcI (w0:World) (R:Asr) (v:Value) (q:List InsR):Prop:=∃ A c,v = .slice A q.length c∧∀ F w',Hold w0 w' (F*R)→0 < q.length→∃ ad,A=some ad∧∀ j u,(insL q)[j]?=some u→w'.cell? (ad.add j)=some u
section
variable {w0 w:World} {R:Asr} {n rr m:Nat} {c:Cfg} {q:Nat→List InsR} {iv pv:Value} {us:List Value} {Ai Ak:Option Addr} {wn ci ck:Nat}
set_option maxHeartbeats 4000000 in
theorem rep_any (h:Hold w0 w (queA 29 pv us*R)) (hn:1≤n∧n≤16) (hus:us.length=n) (hq:∀ t,t < n→(q t).length≤100∧∃ v,us[t]?=some v∧SrcI w0 R v (q t)) (hr:rr≤10) (hm:m≤300)
    (hk:∀ j,j < m→∃ ad z,Ak=some ad∧w0.cell? (ad.add j)=some (.int .i64 z)) :
    Calls Tryz.prog 9 #[.agg c.cells,.slice Ai wn ci,pv,.int .i64 (rr:Int),.slice Ak m ck] w fun e w'=>∃ pv' vs kv ks,e = .returned (.agg (scC c (.slice Ai wn ci) pv' kv))∧vs.length=n∧ks.length=m∧(∀ k ∈ ks,0≤k∧k < (n:Int)) ∧
      Hold w0 w' (queA 29 pv' vs*(sepR (pgL vs (fun t=>reps rr (q t)) n) Asr.emp*(queA 3 kv (iL ks)*(queA 29 pv us*R)))):=by
  obtain ⟨Ap,cp,rfl⟩:=h.Zmc
  rw [hus] at h ⊢
  obtain ⟨ad,rfl⟩:∃ ad,Ap=some ad:=by
    obtain ⟨fp,hp⟩:=h.get
    obtain ⟨_,_,_,b,hr,_⟩:=queReads hp
    obtain ⟨ad2,hA,_⟩:=hr.cellAt (k:=0) (by omega)
    exact ⟨ad2,hA⟩
  have HX:=hid (And.intro hus (And.intro hq hk))
  have H1:=hid ((h.newBlk (t:=32) (cs:=c.cells)).newBlk (t:=47) (cs:=scC ⟨0,0,0,0,0,0,0,0,0,0,0,0,false⟩ (.slice none 0 0) (.slice none 0 0) (.slice none 0 0)))
  clear h hus hq hk
  go_enter Tryz.func9,Tryz.ntmps9
  go_upto_region 1 with fail
  have h1:=H1.out
  have hsz:(w.alloc (.cells c.cells 32)).heap.size=w.heap.size + 1:=by simp
  rw [hsz] at h1
  generalize hW:World.alloc (World.alloc _ _) _=W at h1 ⊢
  generalize w.heap.size + 1=gr at h1 ⊢
  generalize w.heap.size=gc at h1 ⊢
  clear hW H1 hsz
  have hb:=h1.drop.blk
  have H2:=hid (h1.newBlk (t:=47) (cs:=scC c (.slice Ai wn ci) (.slice none 0 0) (.slice none 0 0)))
  clear h1
  go_upto_region 2 with (refine Z04 rfl 32 _ rfl gc _ _ rfl Tryz.isAgg32 _ Tryz.sizeOf32 hb rfl ?_)
  have h2:=H2.out
  generalize hW:World.alloc _ _=W2 at h2 ⊢
  generalize W.heap.size=gs at h2 ⊢
  clear hW H2 hb
  have H:=hid (((h2.pk4 [0,3,1]).imp (Imp.Zmd _)).nilQue 29 |>.pk5 [0,2,1,3,4])
  clear h2
  go_wp2_with fail
  go_loopw [12] (fun i wr=>∃ (t:Nat) (vs:List Value) (pv':Value),t≤n∧i = .int .i64 (t:Int)∧vs.length=t∧Hold w0 wr (queA 29 pv' vs*(blkA 47 gs (scC c (.slice Ai wn ci) pv' (.slice none 0 0))*(sepR (pgL vs (fun t=>reps rr (q t)) t) Asr.emp*(queA 29 (.slice (some ad) n cp) us*(blkA 47 gr (scC ⟨0,0,0,0,0,0,0,0,0,0,0,0,false⟩ (.slice none 0 0) (.slice none 0 0) (.slice none 0 0))*R)))))) (fun i _=>n - (intOf i).toNat)
  case atStart=>exact ⟨0,[],_,Nat.zero_le _,rfl,rfl,H.out⟩
  case round =>
    clear H
    obtain ⟨t,vs,pv',ht,rfl,hvs,h⟩:=hrel
    by_cases hlt:t < n
    · have e1 : decide ((t:Int) < (n:Int))=true:=decide_eq_true (by omega)
      have e1':decide (t < n)=true:=decide_eq_true hlt
      have k0:(0:Int)≤(t:Int):=by omega
      have k1:(t:Int) < (n:Int):=by omega
      obtain ⟨hql,v,hv,A,cq,rfl,hsrc⟩:=HX.out.2.1 t hlt
      have HV:=hid (And.intro hv (And.intro hsrc hql))
      have HVS:=hid hvs
      have H:=hid (h.nilRowS 28 5)
      clear h hv hsrc hvs hql
      go_wp2_with fail
      go_loopw [13,14] (fun p i wr=>∃ k:Nat,k≤rr∧i = .int .i64 (k:Int)∧Hold w0 wr (Z0a p (reps k (q t))*(queA 29 pv' vs*(blkA 47 gs (scC c (.slice Ai wn ci) pv' (.slice none 0 0))*(sepR (pgL vs (fun t=>reps rr (q t)) t) Asr.emp*(queA 29 (.slice (some ad) n cp) us*(blkA 47 gr (scC ⟨0,0,0,0,0,0,0,0,0,0,0,0,false⟩ (.slice none 0 0) (.slice none 0 0) (.slice none 0 0))*R))))))) (fun _ i _=>rr - (intOf i).toNat)
      case atStart=>exact ⟨0,Nat.zero_le _,rfl,H.out⟩
      case round =>
        clear H
        obtain ⟨k,hk,rfl,h⟩:=hrel
        obtain ⟨A7,c7,hp⟩:=h.Zmb
        by_cases hkr:k < rr
        · have e2:decide ((k:Int) < (rr:Int))=true:=decide_eq_true (by omega)
          have e2':decide (k < rr)=true:=decide_eq_true hkr
          subst hp
          have qv:=(h.pk5 [4]).queAt HV.out.1
          obtain ⟨iO,hiO,zo0,zo1,zo2⟩:∃ i,Tryz.prog.info? 28=some i∧i.zero=some (.agg #[.int .i64 0,.int .i64 0,.int .i64 0,.int .i64 0,.int .i64 0])∧i.size=5∧i.bytes=40:=by
            have hi:=Z8e
            revert hi
            cases Tryz.prog.info? 28 with
            | none=>intro hi;cases hi
            | some i =>
              intro hi
              simp only [Option.map_some,Option.some.injEq,Prod.mk.injEq] at hi
              exact ⟨i,rfl,hi.1,hi.2.1,hi.2.2⟩
          have hlk:(reps k (q t)).length≤10000:=by
            rw [Zgn]
            have h3:=HV.out.2.2
            have h4:k*(q t).length≤10*100:=Nat.mul_le_mul (by omega) h3
            omega
          have HS:=hid (fun hpos=>HV.out.2.1 _ _ (h.join.join.join.join.join) hpos)
          have hlen:(insL (q t)).length=(q t).length*5:=Zh9 _
          have hbd:(reps k (q t)).length + (q t).length≤1000000000:=by have:=HV.out.2.2;omega
          have HB:=hid (And.intro hlen hbd)
          have HH:=hid (show Hold w0 wr (rowT 28 5 (.slice A7 (reps k (q t)).length c7) (reps k (q t)).length (insL (reps k (q t)))*_) from h)
          clear h hlk hlen hbd
          generalize hlq:(q t).length=lq at qv HB HS ⊢
          generalize hlp:(reps k (q t)).length=lp at HB HH ⊢
          have HL:=hid (And.intro hlq hlp)
          clear hlq hlp
          go_wp2_with (at_builtin;refine Z1f rfl _ _ 29 rfl 28 iO (.agg #[.int .i64 0,.int .i64 0,.int .i64 0,.int .i64 0,.int .i64 0]) 5 40 Tryz.underlying29 hiO zo0 zo1 zo2 rfl (by decide) (.slice A7 lp c7) lp (insL (reps k (q t))) (insL (q t)) rfl HH.out A lq cq rfl HB.out.1 HS.out (Z8c _) HB.out.2 (by decide) ?_)
          intro A3 c3 y4 h5
          have H5:=hid h5
          clear h5
          go_wp2_with fail
          go_roundw
          case rel =>
            obtain ⟨h1,h2⟩:=HL.out
            refine ⟨k + 1,hkr,by go_num,?_⟩
            have h6:=H5.out
            rw [← h1,← h2] at h6
            show Hold w0 _ (rowS _ _ _ (reps (k + 1) (q t)).length (insL (reps (k + 1) (q t)))*_)
            rw [← Z9f,Zbf,List.length_append,h1,h2]
            rw [h1,h2] at h6
            exact h6
          case measure=>simp [intOf];omega
        · obtain rfl:rr=k:=by omega
          have e2:decide ((rr:Int) < (rr:Int))=false:=decide_eq_false (by omega)
          have e2':decide (rr < rr)=false:=decide_eq_false (by omega)
          subst hp
          replace h:Hold w0 wr (rowT 28 5 (.slice A7 (reps rr (q t)).length c7) (reps rr (q t)).length (insL (reps rr (q t)))*_):=h
          generalize hlp:(reps rr (q t)).length=lp at h ⊢
          have HL:=hid hlp
          clear hlp
          have q14:=(h.pk3 [2]).blk.some_ (i:=14) rfl
          obtain ⟨iP,hiP,zp0,zp1,zp2⟩:∃ i,Tryz.prog.info? 29=some i∧i.zero=some (.slice none 0 0)∧i.size=1∧i.bytes=24:=by
            have hi:=Z6q
            revert hi
            cases Tryz.prog.info? 29 with
            | none=>intro hi;cases hi
            | some i =>
              intro hi
              simp only [Option.map_some,Option.some.injEq,Prod.mk.injEq] at hi
              exact ⟨i,rfl,hi.1,hi.2.1,hi.2.2⟩
          have HLT:Hid (vs.length≤1000000):=hid (by rw [HVS.out];omega)
          go_wp2_with (at_builtin;refine Z16 rfl _ _ 25 rfl iP (.slice none 0 0) 24 Tryz.underlying25 hiP zp0 zp1 zp2 rfl (.slice A7 lp c7) _ rfl (h.pk2 [1,0]) rfl rfl HLT.out (by decide) ?_;intro v8 w8 h8;obtain ⟨A8,n8,c8,rfl⟩:∃ A n c,v8 = .slice A n c:=(by obtain ⟨A,c,h⟩:=h8.Zmc;exact ⟨A,_,c,h⟩);have p2:=(h8.pk3 [2]).blk.some_ (i:=14) rfl;have z2:=(h8.pk3 [2]).blk.frozen 14;have H9:=hid ((h8.pk3 [2,0,1]).Zm7 14 (.slice A8 n8 c8));clear h8 h q14)
          go_roundw
          case rel =>
            have h9:Hold w0 _ (blkA 47 gs (scC c (.slice Ai wn ci) (.slice A8 n8 c8) (.slice none 0 0))*(queA 29 (.slice A8 n8 c8) (vs++[.slice A7 lp c7])*(rowT 28 5 (.slice A7 lp c7) lp (insL (reps rr (q t)))*(sepR (pgL vs (fun t=>reps rr (q t)) t) Asr.emp*(queA 29 (.slice (some ad) n cp) us*(blkA 47 gr (scC ⟨0,0,0,0,0,0,0,0,0,0,0,0,false⟩ (.slice none 0 0) (.slice none 0 0) (.slice none 0 0))*R)))))):=H9.out
            have h10:=((h9.pk4 [3,2,0,1]).join).imp (Imp.on _ (Z2p _ _))
            have hvs:=HVS.out
            have hlp:=HL.out
            refine ⟨t + 1,vs++[.slice A7 lp c7],.slice A8 n8 c8,hlt,by go_num,by rw [List.length_append,hvs];rfl,?_⟩
            have e3:pgL (vs++[.slice A7 lp c7]) (fun t=>reps rr (q t)) (t + 1)=pgL vs (fun t=>reps rr (q t)) t++[rowT 28 5 (.slice A7 lp c7) lp (insL (reps rr (q t)))]:=by
              rw [← hvs,Zgv,hvs,← hlp]
            rw [e3]
            exact h10.pk3 [2,1,0]
          case measure=>simp [intOf];omega
    · obtain rfl:n=t:=by omega
      have e1:decide ((n:Int) < (n:Int))=false:=decide_eq_false (by omega)
      have e1':decide (n < n)=false:=decide_eq_false (by omega)
      obtain ⟨A7,c7,rfl⟩:=h.Zmc
      have hvs2:=hvs
      rw [hvs] at h
      obtain ⟨RR,hRR⟩:∃ RR:Asr,RR=queA 29 (.slice A7 n c7) vs*(sepR (pgL vs (fun t=>reps rr (q t)) n) Asr.emp*(queA 29 (.slice (some ad) n cp) us*(blkA 47 gr (scC ⟨0,0,0,0,0,0,0,0,0,0,0,0,false⟩ (.slice none 0 0) (.slice none 0 0) (.slice none 0 0))*R))):=⟨_,rfl⟩
      have h2:Hold w0 wr (queA 3 (.slice none 0 0) (iL [])*(blkA 47 gs (scC c (.slice Ai wn ci) (.slice A7 n c7) (.slice none 0 0))*RR)):=by rw [hRR];exact (h.pk2 [1,0]).nilQue 3
      have HRR:=hid hRR
      have HVS:=hid hvs
      have H:=hid h2
      clear h h2 hRR hvs hvs2
      go_wp2_with fail
      go_loopw [15] (fun i wr=>∃ (j:Nat) (kv:Value) (ks:List Int),j≤m∧i = .int .i64 (j:Int)∧ks.length=j∧(∀ k ∈ ks,0≤k∧k < (n:Int))∧Hold w0 wr (queA 3 kv (iL ks)*(blkA 47 gs (scC c (.slice Ai wn ci) (.slice A7 n c7) kv)*RR))) (fun i _=>m - (intOf i).toNat)
      case atStart=>exact ⟨0,_,[],Nat.zero_le _,rfl,rfl,fun k h=>(by cases h),H.out⟩
      case round =>
        clear H
        obtain ⟨j,kv,ks,hj,rfl,hks,hkr,h⟩:=hrel
        by_cases hlt2:j < m
        · have e2:decide ((j:Int) < (m:Int))=true:=decide_eq_true (by omega)
          have e2':decide (j < m)=true:=decide_eq_true hlt2
          have k0:(0:Int)≤(j:Int):=by omega
          have k1:(j:Int) < (m:Int):=by omega
          obtain ⟨ak,z,rfl,hz⟩:=HX.out.2.2 j hlt2
          have HKS:=hid (And.intro hks hkr)
          have HLT:=hid (show (iL ks).length≤1000000 by show (ks.map _).length≤_;rw [List.length_map];omega)
          have H:=hid h
          clear h hks hkr
          go_upto_region 14 with fail
          have h:=H.out.drew
          clear H
          obtain ⟨iI,hiI,zi0,zi1,zi2⟩:=info_parts Z2f
          have hS:∀ w' X Y,Hold w0 w' (X*(blkA 47 gs (scC c (.slice Ai wn ci) (.slice A7 n c7) kv)*Y))→w'.cell? ⟨gs,15,none⟩=some kv∧w'.cell? (ak.add j)=some (.int .i64 z):=fun w' X Y h=>⟨h.drop.blk.some_ (i:=15) rfl,h.old hz⟩
          have HS:=hid hS
          clear hS
          refine Z01 [12] (by kernel_rfl) ?_
          generalize hW:wr.drew=W3 at h ⊢
          clear hW
          refine Z05 (fun w'=>w'.cell? ⟨gs,15,none⟩=some kv∧w'.cell? (ak.add j)=some (.int .i64 z)) (fun _ _=>trivial) _ _ _ _ ?_
          refine' wbk [true,true,true,true,true,true,true,true] 61 (HS.out _ _ _ h) (fun wq hq=>?_) ?_;rotate_left
          · simp only [Z00]
            obtain ⟨q2,q3⟩:=hq
            repeat (go_big_quiet_step (fail))
            exact wpQuiet_nil rfl
          refine wbr [false,false,false,false,false,false,false,false,true] (fuel:=4) (fun QB hQB hQX=>?_)
          simp only [Z00]
          go_wp2_with fail
          refine (Z4o _ z n (by omega) (by omega)).mono ?_
          rintro e Wc ⟨k,hk,rfl,rfl⟩
          go_wp2_with fail
          refine hQB.out _ _ (HS.out _ _ _ h) ?_
          clear hQB hQX QB
          refine wbr [false,false,false,false,false,false,false,false,false,true] (fuel:=3) (fun QB hQB hQX=>?_)
          simp only [Z00]
          go_wp2_with fail
          refine hQB.out _ _ (HS.out _ _ _ (h.alloc _)) ?_
          clear hQB hQX QB
          refine wbr [false,false,false,false,false,false,false,false,false,false,true] (fuel:=2) (fun QB hQB hQX=>?_)
          simp only [Z00]
          go_wp2_with (at_builtin;refine Z16 rfl _ _ 23 rfl iI (.int .i64 0) 8 Tryz.underlying23 hiI zi0 zi1 zi2 rfl (.int .i64 (k:Int)) _ rfl h rfl rfl HLT.out (by decide) ?_)
          intro v8 w8 h8
          obtain ⟨A8,n8,c8,rfl⟩:∃ A n c,v8 = .slice A n c:=by obtain ⟨A,c,h⟩:=h8.Zmc;exact ⟨A,_,c,h⟩
          clear h
          go_wp2_with fail
          refine hQB.out _ _ (HS.out _ _ _ h8) ?_
          clear hQB hQX QB
          refine' wbk [false,false,false,false,false,false,false,false,false,false,false,true] 61 (HS.out _ _ _ h8) (fun wq hq=>?_) ?_;rotate_left
          · simp only [Z00]
            repeat (go_big_quiet_step (fail))
            exact wpQuiet_nil rfl
          refine wbb [false,false,false,false,false,false,false,false,false,false,false,false,true] (fuel:=0) (fun QB hQB hQX=>?_)
          simp only [Z00]
          have p1:=(HS.out _ _ _ h8).1
          have z1:=h8.drop.blk.frozen 15
          have H9:=hid (h8.swap.Zm7 15 (.slice A8 n8 c8))
          clear h8
          go_wp2_with fail
          refine hQB.out _ _ ?_
          clear hQB hQX QB p1 z1 HS
          refine Z07 (by kernel_rfl) ?_
          refine Z02 (by kernel_rfl) ?_ _
          go_wp2_with fail
          go_roundw
          case rel =>
            obtain ⟨hks,hkr⟩:=HKS.out
            refine ⟨j + 1,.slice A8 n8 c8,ks++[(k:Int)],hlt2,by go_num,by rw [List.length_append,hks];rfl,fun x hx=>?_,?_⟩
            · rcases List.mem_append.1 hx with hx | hx
              · exact hkr x hx
              · rw [List.mem_singleton.1 hx];exact ⟨Int.natCast_nonneg k,hk⟩
            · have h9:Hold w0 _ (blkA 47 gs (scC c (.slice Ai wn ci) (.slice A7 n c7) (.slice A8 n8 c8))*(queA 3 (.slice A8 n8 c8) (iL ks++[.int .i64 (k:Int)])*RR)):=H9.out
              have e3:iL (ks++[(k:Int)])=iL ks++[.int .i64 (k:Int)]:=List.map_append
              rw [e3]
              exact h9.pk2 [1,0]
          case measure=>simp [intOf];omega
        · obtain rfl:m=j:=by omega
          have e2:decide ((m:Int) < (m:Int))=false:=decide_eq_false (by omega)
          have e2':decide (m < m)=false:=decide_eq_false (by omega)
          obtain ⟨A8,c8,rfl⟩:=h.Zmc
          rw [HRR.out] at h
          have hb:=h.drop.blk
          have hg:=h.pk6 [5,0,1,2,3,4]
          have HKS:=hid (And.intro hks hkr)
          clear h hks hkr
          go_wp2_with (first | (refine Z04 rfl 47 _ rfl gs _ _ rfl Tryz.isAgg47 _ Tryz.sizeOf47 hb rfl ?_) | (refine Z03 rfl 47 _ _ rfl gr _ _ (scC c (.slice Ai wn ci) (.slice A7 n c7) (.slice A8 (iL ks).length c8)) rfl rfl _ Tryz.sizeOf47 hg rfl rfl rfl ?_;intro w7 h11))
          exact bodyPost_ret (Z1h Tryz.results9 _ rfl Tryz.isAgg47 _ Tryz.sizeOf47 h11.blk rfl) rfl ⟨_,vs,_,ks,rfl,HVS.out,HKS.out.1,HKS.out.2,(h11.drop.pk5 [2,3,0,4])⟩
end
abbrev nopI:InsR:=⟨0,0,0,0,0⟩
def nopP:List InsR:=[nopI]
section
variable {w0 w:World} {R R':Asr} {t g n cp k:Nat} {c:Cfg} {x:ThR} {p:List InsR} {i:InsR} {A:Option Addr}
set_option maxHeartbeats 4000000 in
theorem Zjo {gc:Nat} (hF:FormsAt w0) (h:Hold w0 w (Z0a (.slice (some ⟨gc,0,none⟩) p.length cp) p*R)) (hk:p[k]?=some nopI) :
    Calls Tryz.prog 45 #[.slice (some ⟨gc,0,none⟩) p.length cp,.int .i64 (k:Int),.int .i64 (-1)] w fun e w'=>e = .returned (.int .i64 0)∧Hold w0 w' (Z0a (.slice (some ⟨gc,0,none⟩) p.length cp) p*R):=by
  obtain ⟨gc2,hA,hcap,-⟩:=h.codeAt hk
  have hkl:k < p.length:=(List.getElem?_eq_some_iff.1 hk).1
  obtain ⟨q3,q4,q5,q6,q7⟩:=h.code hk
  have HK:=hid hk
  have HS:=hid (Z2w hF h)
  have HP:∀ w',Hold w0 w' (Z0a (.slice (some ⟨gc,0,none⟩) p.length cp) p*R)→Hid (Calls Tryz.prog 77 #[nopI.val] w' fun e w'=>e = .returned (.int .i64 0)∧Hold w0 w' (Z0a (.slice (some ⟨gc,0,none⟩) p.length cp) p*R)):=fun w' h=>hid (Zdj hF h)
  have HT:∀ w',Hold w0 w' (Z0a (.slice (some ⟨gc,0,none⟩) p.length cp) p*R)→Hid (Calls Tryz.prog 78 #[.slice (some ⟨gc,0,none⟩) p.length cp,.int .i64 (k:Int),.int .i64 (-1)] w' fun e w'=>e = .returned (.int .i64 0)∧Hold w0 w' (Z0a (.slice (some ⟨gc,0,none⟩) p.length cp) p*R)):=fun w' h=>hid (Z7e h hk (Zde hF h))
  have HCP:=hid hcap
  clear h hk hA
  go_enter Tryz.func45,Tryz.ntmps45
  go_wp2_with fail
  refine HS.out.mono ?_
  rintro e w2 ⟨rfl,h2⟩
  clear HS q3 q4 q5 q6 q7
  have HPP:=HP _ h2
  obtain ⟨q3,q4,q5,q6,q7⟩:=h2.code HK.out
  go_wp2_with fail
  refine HPP.out.mono ?_
  rintro e w3 ⟨rfl,h3⟩
  clear h2 HPP q3 q4 q5 q6 q7 HP
  have HTT:=HT _ h3
  obtain ⟨q3,q4,q5,q6,q7⟩:=h3.code HK.out
  clear h3 HT
  go_wp2_with fail
  refine HTT.out.mono ?_
  rintro e w4 ⟨rfl,h4⟩
  have H4:=hid h4
  clear h4 HTT q3 q4 q5 q6 q7
  go_wp2_with fail
  go_ret
  exact ⟨rfl,H4.out⟩
theorem PgOk.nop (hF:FormsAt w0):PgOk w0 nopP:=⟨by decide,fun h=>Z9i h (by decide) rfl (fun w R k i gc cp h hk=>by
  have hk0:k=0:=by have:=(List.getElem?_eq_some_iff.1 hk).1;have h1:nopP.length=1:=rfl;omega
  subst hk0
  have hi:nopI=i:=Option.some.inj hk
  exact Zjo hF h (by rw [hi];exact hk))⟩
set_option maxHeartbeats 4000000 in
theorem Z92 (h:Hold w0 w (thA t c x*R)) (h1:i.op=0) (hc:x.code = .slice A n cp) (h0:0≤x.pc∧x.pc≤1000000) :
    Calls Tryz.prog 70 #[ptrV t,i.val] w fun e w'=>e = .returned (.tuple #[])∧Hold w0 w' (thA t c { x with pc:=x.pc + 1,done:=x.pc + 1 == (n:Int) }*R):=by
  have H1:=hid (h.newBlk (t:=28) (cs:=i.cells))
  have HX:=hid (And.intro h1 hc)
  obtain ⟨pc,hpc⟩:∃ pc,pc=x.pc:=⟨_,rfl⟩
  rw [← hpc] at h0 ⊢
  have HP:=hid hpc
  clear h h1 hc hpc
  go_enter Tryz.func70,Tryz.ntmps70
  go_upto_region 1 with fail
  have h1:=H1.out
  generalize hW:w.alloc _=W at h1 ⊢
  generalize w.heap.size=gi at h1 ⊢
  clear hW H1
  have q0:W.cell? ⟨gi,0,none⟩=some (.int .i64 0):=by have:=h1.blk.some_ (i:=0) (u:=.int .i64 i.op) rfl;rw [HX.out.1] at this;exact this
  have q1:W.cell? ⟨t,32,none⟩=some (.int .i64 pc):=by have:=h1.drop.th_pc;rw [← HP.out] at this;exact this
  have HT:=hid (Z7p (n:=n) (cp:=cp) (A:=A) (p:=pc + 1) h1.drop HX.out.2)
  clear h1
  go_upto_region 20 with fail
  clear q0 q1
  go_wp2_with fail
  refine HT.out.mono ?_
  rintro e w5 ⟨rfl,h5⟩
  have H5:=hid h5
  clear h5 HT
  go_wp2_with fail
  go_end0
  exact ⟨rfl,H5.out⟩
set_option maxHeartbeats 4000000 in
theorem Zaf {X:ThR} {m:Value} (h:Hold w0 w (thA t c x*R)) (h1:i.op=0) (ha:X.attempt = .pointer none)
    (hl:∀ F w',Hold w0 w' (F*(thA t c x*R))→Calls Tryz.prog 70 #[ptrV t,i.val] w' fun e w''=>e = .returned (.tuple #[])∧Hold w0 w'' (F*(thA t c X*R))) :
    Calls Tryz.prog 39 #[ptrV t,m,i.val] w (AdPost w0 (fun _:Unit=>thA t c X*R) 0 0 acc0):=by
  have H1:=hid ((h.newBlk (t:=28) (cs:=i.cells)).newBlk (t:=52) (cs:=#[.int .i64 0,.int .i64 0,.int .i64 0,.int .i64 0,.int .i64 0,.int .i64 0,.int .u64 0,.int .u64 0,.bool false]))
  have HR:=hid hl
  have HA:=hid ha
  have HOP:=hid h1
  clear h hl ha h1
  go_enter Tryz.func39,Tryz.ntmps39
  go_upto_region 1 with fail
  have h2:=H1.out
  rw [show (w.alloc (.cells i.cells 28)).heap.size=w.heap.size + 1 by simp] at h2
  generalize hW:World.alloc _ _=W at h2 ⊢
  generalize w.heap.size=gi at h2 ⊢
  clear hW H1
  obtain ⟨gs,hgs⟩:∃ gs,gs=gi + 1:=⟨_,rfl⟩
  rw [← hgs] at h2 ⊢
  clear hgs
  have q0:W.cell? ⟨gi,0,none⟩=some (.int .i64 0):=by have:=h2.drop.blk.some_ (i:=0) (u:=.int .i64 i.op) rfl;rw [HOP.out] at this;exact this
  have hb:=h2.drop.blk
  have HRR:=hid (HR.out _ _ h2.join)
  clear h2 HR
  go_wp2_with (refine Z04 rfl 28 _ rfl gi _ _ rfl Tryz.isAgg28 _ Tryz.sizeOf28 hb rfl ?_)
  refine HRR.out.mono ?_
  rintro e w4 ⟨rfl,h4⟩
  have h5:=h4.part.imp (Imp.under _ (Imp.drop _ _))
  have q1:=h5.drop.Zme
  rw [HA.out] at q1
  clear HRR h4 hb q0
  go_wp2_with (refine Z03 rfl 52 _ _ rfl gs _ _ (stC 0 0 0 acc0) rfl rfl _ Tryz.sizeOf52 h5 rfl rfl rfl ?_;intro w7 h11)
  have HF:Hid (AdPost w0 (fun _:Unit=>thA t c X*R) 0 0 acc0 (.returned (.tuple #[stV 0 0 0 acc0,.slice none 0 0])) w7):=hid ⟨(),_,[],rfl,by decide,h11.drop.nilEv⟩
  exact bodyPost_ret (Z06 Tryz.results39 _ rfl Tryz.isAgg52 _ Tryz.sizeOf52 h11.blk rfl) rfl HF.out
def TS.nop (T:TS):TS:={ T with pc:=T.pc + 1 }
theorem Zkn {m:Nat} {T:TS} {C:Cells} {id n:Int} (h:Hold w0 w (thS t c p n id T*(memA m C*R))) (h0:0≤T.pc∧T.pc≤1000000) (hi:p[T.pc.toNat]?=some i) (hq:T.ph = .none) (h1:i.op=0) :
    Z49 w0 t m c p n id R C T.nop 0 0 acc0 w:=by
  obtain ⟨q,h⟩:=Z4m h hq
  refine (Z2z (X:=fun _:Unit=>thR p n id T.nop q (.pointer none)) (Q:=fun _=>Z0a (.slice q.A p.length q.cp) p*(obsA q.sv T.seen*(obsA q.ov T.obs*(memA m C*R)))) h rfl (Z4p h0.1) hi (Z3w h0.1 hi) rfl rfl ?_ (fun _=>rfl)).mono fun e w' he=>he.mono fun E q' w' h=>⟨(),?_⟩
  · intro F w' h
    refine (Zaf (X:=thR p n id T.nop q (.pointer none)) (R:=F*(Z0a (.slice q.A p.length q.cp) p*(obsA q.sv T.seen*(obsA q.ov T.obs*(memA m C*R))))) (h.pk2 [1,0]) h1 rfl ?_).mono fun e w' he=>he.mono fun E _ w' h=>⟨(),h.pk3 [0,2,1]⟩
    intro F' w' h
    exact (Z92 (n:=p.length) (h.pk2 [1,0]) h1 rfl h0).mono fun e w' he=>⟨he.1,he.2.pk2 [1,0]⟩
  · have h3:Hold w0 w' (thS t c p n id T.nop*(E*(memA m C*R))):=Z3u q hq (h.pk5 [1,2,3,4,0])
    exact h3.pk2 [1,0]
end
abbrev awC:Cfg:=⟨1,1,0,0,0,0,0,1,1,0,0,0,false⟩
def awM0:MS:=⟨newC awC 1 [5],fun _=>startT,[]⟩
def awM1:MS:=awM0.next 0 (newC awC 1 [5]) startT.nop ⟨0,0,0,acc0⟩
def AwI (B:Nat) (M:MS):Prop:=(B=0∧M=awM0)∨(B=1∧M=awM1)
theorem Zke (w0:World):Zim w0 AwI awC (fun _=>nopP) 1 1:=by
  intro gm B M i hB hI hi
  rcases hI with ⟨rfl,rfl⟩ | ⟨rfl,rfl⟩
  · obtain rfl:i=0:=by omega
    refine ⟨awM1,.inr ⟨rfl,rfl⟩,fun R w h=>?_⟩
    have hg:=Zcg (w0:=w0) (gm:=gm) (c:=awC) (ps:=fun _=>nopP) (n:=1) (M:=awM0) (i:=0) (C':=newC awC 1 [5]) (T':=startT.nop) (s:=⟨0,0,0,acc0⟩) (fun t m R w h=>Zkn (i:=nopI) h ⟨Int.le_refl 0,by decide⟩ rfl rfl rfl) rfl (by decide) (by decide) (by decide)
    exact (hg R w h).mono fun e w' he=>⟨true,he⟩
  · omega
section
variable {w0 w:World} {R:Asr}
theorem Hold.newQue (h:Hold w0 w R) (e:TypeId) (cs:Array Value) (n:Nat) (hn:cs.size=n) (hm:n≤1000):Hold w0 (w.alloc (.cells cs e)) (queA e (.slice (some ⟨w.heap.size,0,none⟩) n n) cs.toList*R):=by
  subst hn
  refine h.new ((Chg.refl _ _).alloc _) (fp:=[w.heap.size]) (.inr ⟨w.heap.size,0,cs.size,cs,by simp,Blk.new _ _ _,by omega,by simp,by unfold maxLen;omega,fun j hj=>by simp,rfl⟩) (by simp)
theorem Hold.queReads {e:TypeId} {g o n c:Nat} {xs:List Value} (h:Hold w0 w (queA e (.slice (some ⟨g,o,none⟩) n c) xs*R)):Reads w g (some ⟨g,o,none⟩) n xs:=by
  obtain ⟨fp,hp⟩:=h.get
  rcases hp with ⟨h1,_⟩ | ⟨g',off,c',cs,h1,h2,h3,h4,h5,h6,rfl⟩
  · injection h1 with h1;cases h1
  · injection h1 with h1 h7 h8
    injection h1 with h1
    injection h1 with h1 h9 _
    subst h1 h7 h8 h9
    refine ⟨rfl,fun k hk=>⟨_,xs[k],rfl,rfl,h2.lt,List.getElem?_eq_getElem hk,?_⟩⟩
    rw [Addr.add_lit,h2.cell,h6 k hk,List.getElem?_eq_getElem hk]
set_option maxHeartbeats 4000000 in
theorem awake21_any (hF:FormsAt w0) (h:Hold w0 w R):Calls Tryz.prog 6 #[] w fun e w'=>e = .returned (.bool true)∧Hold w0 w' R:=by
  have HF:=hid hF
  have hz:∀ (w:World) o,(w.alloc o).heap.size=w.heap.size + 1:=fun _ _=>by simp
  have h1:=h.newQue 34 #[.int .u64 5] 1 rfl (by decide)
  have h2:=h1.newRowS (e:=28) (size:=5) (cs:=nopI.cells) rfl
  have h3:=h2.newQue 29 #[.slice (some ⟨w.heap.size + 1,0,none⟩) 1 1] 1 rfl (by decide)
  have h4:=h3.newQue 3 #[.int .i64 0] 1 rfl (by decide)
  have h5:=h4.newBlk (t:=47) (cs:=scC awC (.slice (some ⟨w.heap.size,0,none⟩) 1 1) (.slice (some ⟨w.heap.size + 1 + 1,0,none⟩) 1 1) (.slice (some ⟨w.heap.size + 1 + 1 + 1,0,none⟩) 1 1))
  simp only [hz] at h5
  have H5:=hid h5
  clear h1 h2 h3 h4 h5 h hF hz
  go_enter Tryz.func6,Tryz.ntmps6
  go_upto_region 2 with fail
  have h5:=H5.out
  clear H5
  generalize hW:World.alloc _ _=W at h5 ⊢
  clear hW
  generalize w.heap.size + 1 + 1 + 1 + 1=g5 at h5 ⊢
  generalize w.heap.size + 1 + 1 + 1=g4 at h5 ⊢
  generalize w.heap.size + 1 + 1=g3 at h5 ⊢
  generalize w.heap.size + 1=g2 at h5 ⊢
  generalize w.heap.size=g1 at h5 ⊢
  have hb:=h5.blk
  have h6:Hold w0 W (queA 29 (.slice (some ⟨g3,0,none⟩) 1 1) [.slice (some ⟨g2,0,none⟩) 1 1]*(sepR (pgL [.slice (some ⟨g2,0,none⟩) 1 1] (fun _=>nopP) 1) Asr.emp*(queA 3 (.slice (some ⟨g4,0,none⟩) 1 1) (iL [0])*(queA 34 (.slice (some ⟨g1,0,none⟩) 1 1) [.int .u64 5]*(blkA 47 g5 (scC awC (.slice (some ⟨g1,0,none⟩) 1 1) (.slice (some ⟨g3,0,none⟩) 1 1) (.slice (some ⟨g4,0,none⟩) 1 1))*R))))) :=
    (((h5.pk5 [3,2,1,4,0]).imp (Imp.under _ (Imp.Zmd _))).join.pk2 [1,0])
  have HN:=hid (Zid (I:=AwI) (w:=W) (c:=awC) (ps:=fun _=>nopP) (n:=1) (ks:=[0]) (Ai:=some ⟨g1,0,none⟩) (ci:=1) (init:=[5]) (bA:=g1) h6 HF.out (fun i _=>PgOk.nop HF.out) (by decide) ⟨Nat.le_refl 1,by decide⟩ rfl rfl (by decide) (by decide) (fun F w' hh=>hh.drop.queReads) (.inl ⟨rfl,rfl⟩) (Zke w0) (fun M hM=>by
    rcases hM with ⟨h,_⟩ | ⟨_,rfl⟩
    · cases h
    · exact ⟨COk.newC (by decide) (by decide) rfl,by decide,fun i hi=>by obtain rfl:i=0:=(by omega);decide⟩))
  clear h5 h6
  go_wp2_with (refine Z04 rfl 47 _ rfl g5 _ _ rfl Tryz.isAgg47 _ Tryz.sizeOf47 hb rfl ?_)
  refine HN.out.mono ?_
  rintro e w4 ⟨M,y,thv,stv,Ae,ne,ce,obv,os,hM,hos,rfl,hr⟩
  clear HN hb
  obtain rfl:M=awM1:=by
    rcases hM with ⟨h,_⟩ | ⟨_,h⟩
    · cases h
    · exact h
  unfold resA at hr
  have h7:=hr.part.imp (Imp.under _ (Imp.assoc _ _ _)) |>.imp (Imp.under _ (Imp.under _ (Imp.assoc _ _ _)))
  obtain ⟨As,cs,rfl⟩:∃ A c,stv = .slice A 1 c:=h7.Zmb
  obtain ⟨At,ct,rfl⟩:∃ A c,thv = .slice A 1 c:=h7.drop.Zmb
  obtain ⟨Ao,co,rfl⟩:∃ A c,obv = .slice A os.length c:=h7.drop.drop.Zmc
  obtain ⟨gT,rfl,-,hct⟩:=h7.drop.rowSBlk (by decide) (by decide)
  have e10:(tsF (fun _=>nopP) awM1.th 1)[10]?=some (.bool true):=rfl
  have h8:=h7.newBlk (t:=42) (cs:=#[.slice none 0 0,.slice none 0 0,.int .u64 0,.int .u64 0,.int .u64 0,.slice none 0 0,.slice none 0 0,.slice none 0 0,.slice none 0 0,.slice none 0 0,.slice none 0 0,.slice none 0 0])
  have H8:=hid h8
  have HE:=hid e10
  clear h7 h8 hr hM hos e10
  go_wp2_with (refine Z03 rfl 42 _ _ rfl _ _ _ (resC awM1.C y (.slice (some ⟨gT,0,none⟩) 1 ct) (.slice As 1 cs) (.slice Ae ne ce) (.slice Ao os.length co)) rfl rfl _ Tryz.sizeOf42 H8.out rfl rfl rfl ?_;intro w7 h11;have p8:=h11.blk.some_ (i:=8) rfl;have p9:=h11.blk.some_ (i:=9) rfl;have pd:w7.cell? ⟨gT,10,none⟩=some (.bool true):=(by obtain ⟨g9,hA9,hc9,_⟩:=h11.drop.drop.rowSBlk (by decide) (by decide);obtain rfl:gT=g9:=(by injection hA9 with h;injection h);exact hc9 10 _ HE.out);have HF2:=hid h11.drop.drop.drop.drop.drop.drop.drop;clear h11)
  go_ret
  exact ⟨rfl,HF2.out⟩
end
def fnL (k:IntKind) (n:Nat) (f:Nat→Int):List Value:=(List.range n).map fun t=>.int k (f t)
theorem Zco {k:IntKind} {n i:Nat} {f:Nat→Int} (hi:i < n):(fnL k n f)[i]?=some (.int k (f i)):=by
  unfold fnL
  rw [List.getElem?_map,List.getElem?_range hi];rfl
theorem Zkb {k:IntKind} {n i:Nat} {f:Nat→Int} {v:Int}:(fnL k n f).set i (.int k v)=fnL k n (upI f i v):=by
  apply List.ext_getElem?
  intro j
  rw [List.getElem?_set]
  by_cases hij:i=j
  · subst hij
    by_cases hi:i < n
    · rw [if_pos rfl,if_pos (by unfold fnL;simpa using hi),Zco hi,Zg3]
    · rw [if_pos rfl,if_neg (by unfold fnL;simpa using hi),List.getElem?_eq_none (by unfold fnL;simp;omega)]
  · rw [if_neg hij]
    by_cases hj:j < n
    · rw [Zco hj,Zco hj,Zkm (fun h=>hij h.symm)]
    · rw [List.getElem?_eq_none (by unfold fnL;simp;omega),List.getElem?_eq_none (by unfold fnL;simp;omega)]
theorem Zi6:∀ (l:List StR) (k:Nat) (x:StR) (j:Nat) (u:Value),l[k]?=some x→(stC x.th x.phase x.att x.acc).toList[j]?=some u→(stL l)[k*9 + j]?=some u
  | [],k,x,j,u,h,_=>by cases h
  | x0 :: l,0,x,j,u,h,h2=>by
    have:x0=x:=by simpa using h
    subst this
    have hj:j < 9:=(List.getElem?_eq_some_iff.1 h2).1
    show ((stC x0.th x0.phase x0.att x0.acc).toList++stL l)[0*9 + j]?=_
    rw [Nat.zero_mul,Nat.zero_add,List.getElem?_append_left hj]
    exact h2
  | x0 :: l,k + 1,x,j,u,h,h2=>by
    show ((stC x0.th x0.phase x0.att x0.acc).toList++stL l)[(k + 1)*9 + j]?=_
    rw [List.getElem?_append_right (by show 9≤_;omega)]
    rw [show (k + 1)*9 + j - (stC x0.th x0.phase x0.att x0.acc).toList.length=k*9 + j by show _ - 9=_;omega]
    exact Zi6 l k x j u (by simpa using h) h2
theorem Imp.toEmp (p:Asr):Imp p Asr.emp:=fun w fp h=>⟨[],rfl,fun b hb=>by cases hb⟩
section
variable {w0 w:World} {R:Asr}
end
abbrev tCfg (o:Nat):Cfg:=⟨4,1 + (o:Int),0,0,0,0,0,8,4,0,0,1000,false⟩
theorem Z7t {o:Nat} (h:o < 5):Z0p (tCfg o)=0:=by
  match o,h with
  | 0,_=>decide
  | 1,_=>decide
  | 2,_=>decide
  | 3,_=>decide
  | 4,_=>decide
theorem Zak (o:Nat):Z0y (tCfg o)=0:=rfl
theorem tEnv {o:Nat} {P:TPar} (h:o < 5) (hP:TParOk P):Env (tCfg o) 3 (Z42 P) where
  n16:=by decide
  cfg:=⟨Z7t h,by show (1:Int)≤4∧(4:Int)≤64;decide,by show 1≤1 + (o:Int)∧1 + (o:Int)≤64;omega⟩
  clk:=rfl
  prog:=fun i hi=>by
    unfold Z42
    by_cases h2:i < 2
    · rw [if_pos h2];exact Zh8 rfl (hP.m i h2) (hP.a i h2) (hP.b i h2)
    · rw [if_neg h2];exact Zi4 rfl
  cap:=fun i hi=>by
    unfold Z42
    by_cases h2:i < 2
    · rw [if_pos h2];exact Zep rfl rfl
    · rw [if_neg h2];exact Zfv rfl rfl
theorem IT.start {c:Cfg} {P:TPar} {C:Cells} (hC:Shp c 3 C) (h1:∀ a,0≤a→a < 4→mon0T.data a=valC C 1 a) (h2:∀ o,valC C 2 o=0) (h3:valC C 3 0=0) (h4:valC C 4 0=0) (h5:valC C 5 0=0):IT c P ⟨C,fun _=>startT,[]⟩ (fun _ a=>valC C 1 a) mon0T where
  gen:=Gen.start hC h2 h3 h4 h5
  pm i hi:=PM.start
  pa:=PA.start
  sum u _ _:=by rw [show sum4 (valC C 1)=sum4 mon0T.data from (Zal h1).symm];decide
  nxt i hi h:=by cases h
  dat:=h1
  wri:=⟨fun h=>(by cases h),fun ⟨i,hi,h⟩=>(by cases h)⟩
  run:=rfl
theorem IT.new {c:Cfg} {P:TPar} (hc:Z0p c=0) (hw:c.words=4) (hb:Z0y c=0):IT c P ⟨newC c 3 [10,20,30,40],fun _=>startT,[]⟩ (fun _ a=>valC (newC c 3 [10,20,30,40]) 1 a) mon0T:=by
  refine IT.start (Zh2 hc (by decide) (by rw [hw];rfl) hb) (fun a h0 h1=>?_) Zjx Zjw Zjv Zju
  obtain rfl | rfl | rfl | rfl:a=0∨a=1∨a=2∨a=3:=by omega
  · exact (Z86 (k:=0) rfl).symm
  · exact (Z86 (k:=1) rfl).symm
  · exact (Z86 (k:=2) rfl).symm
  · exact (Z86 (k:=3) rfl).symm
def RT (c:Cfg) (P:TPar) (B:Nat) (M:MS):Prop:=(∃ H m,IT c P M H m)∧(∀ i,i < 3→SnT (M.th i))∧M.steps.length≤B
section
variable {w0 w:World} {R:Asr} {B:Nat} {c:Cfg} {P:TPar} {M M':MS} {i:Nat}
theorem RT.new (hc:Z0p c=0) (hw:c.words=4) (hb:Z0y c=0):RT c P 0 ⟨newC c 3 [10,20,30,40],fun _=>startT,[]⟩ :=
  ⟨⟨_,_,IT.new hc hw hb⟩,fun _ _=>SnT.start,Nat.le_refl _⟩
theorem RT.step (h:RT c P B M) (E:Env c 3 (Z42 P)) (hP:TParOk P) (hcw:c.words=4) (hwr:4≤Z1s c.writes) (hi:i < 3) (hB:B≤900) (hp:Zil c (Z42 P) M i M'):RT c P (B + 1) M':=by
  obtain ⟨⟨H,m,hI⟩,hs,hl⟩:=h
  rcases hp with rfl | ⟨C',T',s,hst,hth,rfl⟩
  · exact ⟨⟨H,m,hI⟩,hs,by omega⟩
  · refine ⟨hI.step E hP hcw hwr hi (by omega) hst,fun j hj=>?_,?_⟩
    · show SnT (updT M.th i T' j)
      by_cases hji:j=i
      · subst hji
        rw [Z0b]
        exact (hs j hj).step (B:=0) hst E.cfg hI.gen.shp (hI.gen.word (by omega))
      · rw [Z0f hji]
        exact hs j hj
    · show (M.steps++[s]).length≤B + 1
      rw [List.length_append]
      show M.steps.length + 1≤B + 1
      omega
theorem RT.pick {gm:Nat} (h:RT c P B M) (E:Env c 3 (Z42 P)) (hP:TParOk P) (hcw:c.words=4) (hwr:4≤Z1s c.writes) (hF:FormsAt w0) (hi:i < 3) (hB:B≤900) :
    ∃ M',RT c P (B + 1) M'∧∀ R w,Hold w0 w (mcS gm c (Z42 P) 3 M*R)→Calls Tryz.prog 12 #[ptrV gm,.int .i64 (i:Int)] w fun e w'=>∃ b,e = .returned (.bool b)∧Hold w0 w' (mcS gm c (Z42 P) 3 M'*R):=by
  obtain ⟨⟨H,m,hI⟩,hs,hl⟩:=h
  obtain ⟨M',hp,hg⟩:=Zgm (gm:=gm) hI.gen E hF hi (by omega) (hs i hi)
  exact ⟨M',RT.step ⟨⟨H,m,hI⟩,hs,hl⟩ E hP hcw hwr hi hB hp,hg⟩
end
theorem Zh4 {m m':MonT} {x:StR} (h:monT m x=some m'):(x.phase=17∧0≤x.acc.index∧x.acc.index < 4∧m'=⟨upD m.data x.acc.index x.acc.put,true⟩)∨(x.phase=19∧m'=⟨m.data,false⟩∧sum4 m.data=100)∨(x.phase ≠ 17∧x.phase ≠ 19∧m=m'∧(m.writing=true∨sum4 m.data=100)):=by
  unfold monT at h
  by_cases h1:x.phase=17∧(x.acc.index < 0∨4≤x.acc.index)
  · rw [if_pos h1] at h;cases h
  rw [if_neg h1] at h
  by_cases h2:(movT m x).writing=false∧sum4 (movT m x).data ≠ 100
  · rw [if_pos h2] at h;cases h
  rw [if_neg h2] at h
  have h3:movT m x=m':=Option.some.inj h
  unfold movT at h2 h3
  by_cases h17:x.phase=17
  · rw [if_pos h17] at h3
    exact .inl ⟨h17,by omega,by omega,h3.symm⟩
  · rw [if_neg h17] at h2 h3
    by_cases h19:x.phase=19
    · rw [if_pos h19] at h2 h3
      refine .inr (.inl ⟨h19,h3.symm,?_⟩)
      by_cases h4:sum4 m.data=100
      · exact h4
      · exact absurd ⟨rfl,h4⟩ h2
    · rw [if_neg h19] at h2 h3
      refine .inr (.inr ⟨h17,h19,h3,?_⟩)
      cases hw:m.writing with
      | true=>exact .inl rfl
      | false =>
        right
        by_cases h4:sum4 m.data=100
        · exact h4
        · exact absurd ⟨hw,h4⟩ h2
theorem Zd7 {l:List StR} {m0 mE:MonT} (h:Z43 m0 l=some mE) {k:Nat} {x:StR} (hk:l[k]?=some x) {m:MonT} (hm:Z43 m0 (l.take k)=some m):∃ m',monT m x=some m'∧Z43 m0 (l.take (k + 1))=some m':=by
  have e:l.take (k + 1)=l.take k++[x]:=by rw [List.take_add_one,hk];rfl
  have h2:Z43 m0 (l.take (k + 1))=monT m x:=by rw [e];exact Z58 hm
  have key:∀ (xs ys:List StR) (m0 mE:MonT),Z43 m0 (xs++ys)=some mE→∃ m',Z43 m0 xs=some m':=by
    intro xs
    induction xs with
    | nil=>intro ys m0 mE _;exact ⟨m0,rfl⟩
    | cons y xs ih =>
      intro ys m0 mE h
      have h:(match monT m0 y with | none=>none | some m'=>Z43 m' (xs++ys))=some mE:=h
      show ∃ m',(match monT m0 y with | none=>none | some m'=>Z43 m' xs)=some m'
      cases hy:monT m0 y with
      | none=>rw [hy] at h;cases h
      | some m2=>rw [hy] at h;exact ih ys m2 mE h
  obtain ⟨m',hm'⟩:=key (l.take (k + 1)) (l.drop (k + 1)) m0 mE (by rw [List.take_append_drop];exact h)
  exact ⟨m',by rw [← h2];exact hm',hm'⟩
theorem Zei {o:ObR} {l:List ObR} {st st':Int × Int} (h:obsO st l=some st'):obsO st (l++[o])=obO st' o:=by
  rw [Z39 h]
  show (match obO st' o with | none=>none | some s=>some s)=_
  cases obO st' o <;> rfl
theorem Zeh {l:List ObR} {s0 sE:Int × Int} (h:obsO s0 l=some sE) {k:Nat} {o:ObR} (hk:l[k]?=some o) {st:Int × Int} (hm:obsO s0 (l.take k)=some st):∃ st',obO st o=some st'∧obsO s0 (l.take (k + 1))=some st':=by
  have e:l.take (k + 1)=l.take k++[o]:=by rw [List.take_add_one,hk];rfl
  have h2:obsO s0 (l.take (k + 1))=obO st o:=by rw [e];exact Zei hm
  have key:∀ (xs ys:List ObR) (m0 mE:Int × Int),obsO m0 (xs++ys)=some mE→∃ m',obsO m0 xs=some m':=by
    intro xs
    induction xs with
    | nil=>intro ys m0 mE _;exact ⟨m0,rfl⟩
    | cons y xs ih =>
      intro ys m0 mE h
      have h:(match obO m0 y with | none=>none | some m'=>obsO m' (xs++ys))=some mE:=h
      show ∃ m',(match obO m0 y with | none=>none | some m'=>obsO m' xs)=some m'
      cases hy:obO m0 y with
      | none=>rw [hy] at h;cases h
      | some m2=>rw [hy] at h;exact ih ys m2 mE h
  obtain ⟨m',hm'⟩:=key (l.take (k + 1)) (l.drop (k + 1)) s0 sE (by rw [List.take_append_drop];exact h)
  exact ⟨m',by rw [← h2];exact hm',hm'⟩
theorem Zjr {st st':Int × Int} {o:ObR} (h:obO st o=some st'):(o.kind=1∧st'=(u64 (st.1 + o.val),st.2 + 1))∨(o.kind=3∧(o.val=1→st.2=4∧st.1=100)∧st'=(0,0))∨(o.kind ≠ 1∧o.kind ≠ 3∧st=st'):=by
  unfold obO at h
  by_cases h1:o.kind=1
  · rw [if_pos h1] at h
    exact .inl ⟨h1,(Option.some.inj h).symm⟩
  rw [if_neg h1] at h
  by_cases h3:o.kind=3
  · rw [if_pos h3] at h
    by_cases h4:o.val=1∧(st.2 ≠ 4∨st.1 ≠ 100)
    · rw [if_pos h4] at h;cases h
    · rw [if_neg h4] at h
      exact .inr (.inl ⟨h3,fun hv=>by omega,(Option.some.inj h).symm⟩)
  · rw [if_neg h3] at h
    exact .inr (.inr ⟨h1,h3,Option.some.inj h⟩)
theorem Zek:∀ (l:List ObR) (k:Nat) (x:ObR) (j:Nat) (u:Value),l[k]?=some x→([.int .i64 x.pc,.int .i64 x.kind,.int .u64 x.val]:List Value)[j]?=some u→(obL l)[k*3 + j]?=some u
  | [],k,x,j,u,h,_=>by cases h
  | x0 :: l,0,x,j,u,h,h2=>by
    have:x0=x:=by simpa using h
    subst this
    have hj:j < 3:=(List.getElem?_eq_some_iff.1 h2).1
    show (([.int .i64 x0.pc,.int .i64 x0.kind,.int .u64 x0.val]:List Value)++obL l)[0*3 + j]?=_
    rw [Nat.zero_mul,Nat.zero_add,List.getElem?_append_left hj]
    exact h2
  | x0 :: l,k + 1,x,j,u,h,h2=>by
    show (([.int .i64 x0.pc,.int .i64 x0.kind,.int .u64 x0.val]:List Value)++obL l)[(k + 1)*3 + j]?=_
    rw [List.getElem?_append_right (by show 3≤_;omega)]
    rw [show (k + 1)*3 + j - ([.int .i64 x0.pc,.int .i64 x0.kind,.int .u64 x0.val]:List Value).length=k*3 + j by show _ - 3=_;omega]
    exact Zek l k x j u (by simpa using h) h2
theorem Za8 {w0:World} {R:Asr} {e:TypeId} {v:Value} {xs:List Value} {P:Program} {W:World} {ops:Array Oper} {rest:List Oper} {o:Oper} {a:Act} {Q:Exit→Act→World→Prop} (hgd:o.guard=none) (s x:Operand) (t:TypeId)
    (ho:o.op = .call { callee:=.builtin .append,args:=#[s,x],argTypes:=#[t,t] })
    (i:TypeInfo) (z:Value) (bytes:Nat) (ht:P.underlying t=some (.slice e)) (hi:P.info? e=some i) (hz:i.zero=some z)
    (hsize:i.size=1) (hby:i.bytes=bytes) (hzs:z.cells.size=1)
    (u:Value) (te:TypeId) (hs:a.eval s=v) (h:Hold w0 W (queA e v xs*R)) (k:Nat)
    (hx:a.eval x = .slice (some ⟨k,0,none⟩) 1 1) (hk:W.heap.size=k) (h1:u.oneCell'=true) (hn:xs.length≤1000000) (hb:bytes≤4096)
    (K:∀ v' w',Hold w0 w' (queA e v' (xs++[u])*R)→wpList P ops Q rest (a.put o.dst v') w') :
    wpList P ops Q (o :: rest) a (W.alloc (.cells #[u] te)):=by
  subst hk
  exact Z16 hgd s x t ho i z bytes ht hi hz hsize hby hzs u te hs h hx h1 hn hb K
def upN {α:Type} (f:Nat→α) (t:Nat) (v:α):Nat→α:=fun i=>if i=t then v else f i
theorem Z7o {α:Type} {f:Nat→α} {t:Nat} {v:α}:upN f t v t=v:=if_pos rfl
theorem Zdu {α:Type} {f:Nat→α} {t i:Nat} {v:α} (h:i ≠ t):upN f t v i=f i:=if_neg h
def TPar.up (P:TPar) (t:Nat) (m a b:Int):TPar:=⟨upN P.m t m,upN P.a t a,upN P.b t b⟩
def mvB (gs:Nat→Nat) (P:TPar) (i:Nat):Asr:=blkA 28 (gs i) (insL (Z88 (P.m i) (P.a i) (P.b i))).toArray
def mvL (gs:Nat→Nat) (P:TPar) (t:Nat):List Asr:=(List.range t).map (mvB gs P)
def mvU (gs:Nat→Nat) (t:Nat):List Value:=(List.range t).map fun i=>.slice (some ⟨gs i,0,none⟩) 9 9
theorem Zlc {gs:Nat→Nat} {P:TPar} {t g:Nat} {m a b:Int}:mvL (upN gs t g) (P.up t m a b) (t + 1)=mvL gs P t++[blkA 28 g (insL (Z88 m a b)).toArray]:=by
  unfold mvL
  rw [List.range_succ,List.map_append]
  congr 1
  · apply List.map_congr_left
    intro i hi
    have : i ≠ t := by have:i < t:=by simpa using hi
                       omega
    unfold mvB TPar.up
    simp only [Zdu this]
  · show [mvB _ _ t]=_
    unfold mvB TPar.up
    simp only [Z7o]
theorem Zlb {gs:Nat→Nat} {t g:Nat}:mvU (upN gs t g) (t + 1)=mvU gs t++[.slice (some ⟨g,0,none⟩) 9 9]:=by
  unfold mvU
  rw [List.range_succ,List.map_append]
  congr 1
  · apply List.map_congr_left
    intro i hi
    have : i ≠ t := by have:i < t:=by simpa using hi
                       omega
    simp only [Zdu this]
  · show [Value.slice (some ⟨upN gs t g t,0,none⟩) 9 9]=_
    rw [Z7o]
def Z99 (P:TPar) (t:Nat):List InsR:=if t < 2 then Z88 (P.m t) (P.a t) (P.b t) else aPart
theorem Zg8 (P:TPar):(fun t=>reps 3 (Z99 P t))=Z42 P:=by
  funext t
  unfold Z99 Z42
  split <;> rfl
theorem Zht {k:Nat} (hk:k < 4):insL (aPart.take (1 + 2*(k + 1)))=insL (aPart.take (1 + 2*k))++[.int .i64 10,.int .i64 1,.int .i64 0,.int .i64 0,.int .i64 (k:Int),.int .i64 3,.int .i64 3,.int .i64 3,.int .i64 1,.int .i64 0]:=by
  match k,hk with
  | 0,_=>rfl
  | 1,_=>rfl
  | 2,_=>rfl
  | 3,_=>rfl
theorem TParOk.up {P:TPar} {m a b:Int} {t:Nat} (h:∀ i,i < t→(0≤P.m i∧P.m i≤1000)∧(0≤P.a i∧P.a i < 4)∧(0≤P.b i∧P.b i < 4)) (hm:0≤m∧m≤1000) (ha:0≤a∧a < 4) (hb:0≤b∧b < 4) :
    ∀ i,i < t + 1→(0≤(P.up t m a b).m i∧(P.up t m a b).m i≤1000)∧(0≤(P.up t m a b).a i∧(P.up t m a b).a i < 4)∧(0≤(P.up t m a b).b i∧(P.up t m a b).b i < 4):=by
  intro i hi
  unfold TPar.up
  by_cases hit:i=t
  · subst hit
    simp only [Z7o]
    exact ⟨hm,ha,hb⟩
  · simp only [Zdu hit]
    exact h i (by omega)
theorem Zld {gs:Nat→Nat} {P:TPar} {n t:Nat} (h:t < n):(mvL gs P n)[t]?=some (mvB gs P t):=by
  unfold mvL
  rw [List.getElem?_map,List.getElem?_range h];rfl
theorem tSrc {w0:World} {X:Asr} {P:TPar} {gs:Nat→Nat} {A3:Option Addr} {c3:Nat} (t:Nat) (ht:t < 3):(Z99 P t).length≤100∧∃ v,(mvU gs 2++[.slice A3 11 c3])[t]?=some v∧SrcI w0 (rowT 28 5 (.slice A3 11 c3) 11 (insL aPart)*(sepR (mvL gs P 2) Asr.emp*X)) v (Z99 P t):=by
  have hm:∀ t,t < 2→(Z99 P t).length≤100∧∃ v,(mvU gs 2++[.slice A3 11 c3])[t]?=some v∧SrcI w0 (rowT 28 5 (.slice A3 11 c3) 11 (insL aPart)*(sepR (mvL gs P 2) Asr.emp*X)) v (Z99 P t):=by
    intro t h2
    have e:Z99 P t=Z88 (P.m t) (P.a t) (P.b t):=if_pos h2
    rw [e]
    refine ⟨by show 9≤100;decide,.slice (some ⟨gs t,0,none⟩) 9 9,?_,some ⟨gs t,0,none⟩,9,rfl,fun F w' hh _=>⟨_,rfl,fun j u hj=>?_⟩⟩
    · rw [List.getElem?_append_left (by unfold mvU;simpa using h2)]
      unfold mvU
      rw [List.getElem?_map,List.getElem?_range h2];rfl
    · rw [Addr.add_lit,Nat.zero_add]
      have h3:=(hh.drop.drop.imp (Imp.on X (Imp.nth _ Asr.emp _ t (Zld h2)))).part
      exact h3.blk.some_ (by rw [← hj];simp)
  by_cases h2:t < 2
  · exact hm t h2
  · obtain rfl:t=2:=by omega
    refine ⟨by show 11≤100;decide,.slice A3 11 c3,rfl,A3,c3,rfl,fun F w' hh _=>?_⟩
    obtain ⟨g,hA,hc,_⟩:=hh.drop.rowSBlk (by decide) (by decide)
    exact ⟨_,hA,fun j u hj=>by rw [Addr.add_lit,Nat.zero_add];exact hc j u hj⟩
theorem Hold.queAd {w0 w:World} {R:Asr} {e:TypeId} {v:Value} {xs:List Value} (h:Hold w0 w (queA e v xs*R)) (hx:0 < xs.length):∃ g o c,v = .slice (some ⟨g,o,none⟩) xs.length c:=by
  obtain ⟨fp,hp⟩:=h.get
  rcases hp with ⟨_,h2,_⟩ | ⟨g,off,c,cs,h1,_⟩
  · rw [h2] at hx;cases hx
  · exact ⟨g,off,c,h1⟩
theorem Hold.queCell {w0 w:World} {R:Asr} {e:TypeId} {g o n c k:Nat} {xs:List Value} {u:Value} (h:Hold w0 w (queA e (.slice (some ⟨g,o,none⟩) n c) xs*R)) (hk:xs[k]?=some u):w.cell? ⟨g,o + k,none⟩=some u:=by
  have:=h.queAt hk
  rwa [Addr.add_lit] at this
theorem Zl9 {os:List Value} {th:Nat→TS} {n k:Nat} (h:k < n):(obF os th n)[k]?=some (obsA (os.getD k undef) (th k).obs):=by
  unfold obF
  rw [List.getElem?_map,List.getElem?_range h];rfl
def datL (m:MonT):Array Value:=(fnL .u64 4 fun t=>m.data (t:Int)).toArray
theorem Z18 {m:MonT} {i:Nat} (hi:i < 4):(datL m)[i]?=some (.int .u64 (m.data (i:Int))):=by
  unfold datL
  rw [List.getElem?_toArray]
  exact Zco hi
theorem Zho {m:MonT} {i:Nat} {v:Int} {b:Bool}:(datL m).setIfInBounds i (.int .u64 v)=datL ⟨upD m.data (i:Int) v,b⟩:=by
  unfold datL
  rw [List.setIfInBounds_toArray,Zkb]
  congr 2
  funext t
  show (if t=i then v else m.data (t:Int))=(if (t:Int)=(i:Int) then v else m.data (t:Int))
  by_cases h:t=i
  · subst h;rw [if_pos rfl,if_pos rfl]
  · rw [if_neg h,if_neg (by omega)]
theorem Zg9 {V:Int→Int} (h:sum4 V=100):IntKind.u64.wrap (IntKind.u64.wrap (IntKind.u64.wrap (V 0 + V 1) + V 2) + V 3)=100:=by
  show (((V 0 + V 1) % 18446744073709551616 + V 2) % 18446744073709551616 + V 3) % 18446744073709551616=100
  unfold sum4 u64 at h
  omega
end Go.Proofs.YtmlfangeanmmeaaGreatDoor
