/-
 What the proof of TopAlone leans on, part 47 of 49: Zl, Zm, Zn, Zp. No statement of its own.
-/
import Derived.Test.YtmlfangeanmmeaaGreatDoorAm40
import Derived.Test.YtmlfangeanmmeaaGreatDoorAm46
set_option maxHeartbeats 16000000
set_option maxRecDepth 8000
set_option linter.unusedVariables false
namespace Go.Proofs.YtmlfangeanmmeaaGreatDoor
open Go.RowKit
theorem Zl1 {c:Cfg} (hc:CfS c) {init:List Int} (hl:(init.length:Int)=c.words):MI c 0 0 0 0 [] (newC c 1 init):=by
 have hn:=hc.nbl;have h0:=hc.c0;have h1:=hc.c1;have hz:∀m k,(Z0w m).getD k 0=0:=fun m k=>by
  unfold Z0w;rw[List.getD_eq_getElem?_getD,List.getElem?_replicate]
  split <;> rfl
 have hcl:∀b:Nat,b<nbl c->(cls c b:Int)=clsS c b:=fun b hb=>by
  unfold clsS
  by_cases hb0:(b:Int)<c.c0
  ·rw[if_pos hb0,Z9b (k:=0) (by decide) (Nat.zero_le _) (by show b<0+c.c0.toNat;omega)];rfl
  ·rw[if_neg hb0,Z9b (k:=1) (by decide) (by show 0+c.c0.toNat<=b;omega) (by show b<0+c.c0.toNat+c.c1.toNat;omega)];rfl
 refine⟨COk.newC hc.ok (by decide) hl,?_,?_,?_,?_,?_,⟨rfl,by decide,by decide⟩,⟨rfl,by decide,by decide⟩,rfl,fun o _ _=>?_,fun k hk=>?_,fun b hb0 hb1=>?_⟩
 ·show (init++Z0w (nbl c)).length=_
  rw[List.length_append];unfold Z0w;rw[List.length_replicate];omega
 ·show (Z0w c.orecs.toNat).length=_
  unfold Z0w;rw[List.length_replicate]
 ·rfl
 ·show (Z5h c).length=4
  unfold Z5h;rw[List.length_map,List.length_range]
 ·show (Z45 c).length=nbl c
  unfold Z45;rw[List.length_map,List.length_range]
 ·have:valC (newC c 1 init) 2 o=0:=hz _ _
  rw[this];exact⟨by decide,by decide,.inl rfl⟩
 ·rcases hk with rfl|rfl
  ·have:valC (newC c 1 init) 7 0=Z38 c 0:=rfl
   rw[this];unfold Z38
   by_cases hp:0<cnt c 0
   ·have hp0:0<c.c0.toNat:=hp
    rw[if_pos hp];show HdOk c 0 (((0:Nat):Int)+1);refine⟨by decide,.inr ⟨by show (0:Int)<=0/\(0:Int)<_;omega,?_⟩⟩;show clsS c 0=0;unfold clsS;rw[if_pos (by omega)]
   ·rw[if_neg hp];exact⟨by decide,.inl rfl⟩
  ·have:valC (newC c 1 init) 7 1=Z38 c 1:=rfl
   rw[this];unfold Z38
   by_cases hp:0<cnt c 1
   ·have hp0:0<c.c1.toNat:=hp
    rw[if_pos hp];have hps:((psum c 1:Nat):Int)=c.c0:=by show ((0+c.c0.toNat:Nat):Int)=_;omega
    rw[hps];have he:(c.c0+1)%65536=c.c0+1:=by omega
    refine⟨by omega,.inr ?_⟩;rw[he,Int.add_sub_cancel];refine⟨by omega,?_⟩;unfold clsS;rw[if_neg (by omega)]
   ·rw[if_neg hp];exact⟨by decide,.inl rfl⟩
 ·obtain⟨n,rfl⟩:∃n:Nat,b=(n:Int):=⟨b.toNat,by omega⟩
  have hnl:n<nbl c:=by omega
  have:valC (newC c 1 init) 8 (n:Int)=nx c n:=by
   show (Z45 c).getD ((n:Int).toNat) 0=_;unfold Z45;rw[Int.toNat_natCast,List.getD_eq_getElem?_getD,List.getElem?_map,List.getElem?_range hnl];rfl
  rw[this];unfold nx
  by_cases hx:n+1<nbl c/\cls c (n+1)=cls c n
  ·rw[if_pos hx]
   refine .inr ?_;rw[show (n:Int)+2 - 1=((n+1:Nat):Int) by omega];refine⟨by omega,?_⟩;rw[<- hcl _ hx.1,<- hcl _ hnl,hx.2]
  ·rw[if_neg hx];exact .inl rfl
theorem ThR.rest {x:ThR} {v l:Value} {d:Bool} (h1:x.attempt = .pointer none) (h2:x.fence = .pointer none) (h3:x.drain = .pointer none) (h4:x.strong=false) (h5:x.id=0) (h6:x.threads=1) (h7:x.code=v) (h8:x.done=d) (h9:x.limbo=l) :
  x={x with attempt:=.pointer none,fence:=.pointer none,drain:=.pointer none,strong:=false,id:=0,threads:=1,code:=v,done:=d,limbo:=l}:=by
 cases x
 simp only at h1 h2 h3 h4 h5 h6 h7 h8 h9;subst h1 h2 h3 h4 h5 h6 h7 h8 h9
 rfl
def enN (l:List StR):Nat:=(l.filter fun x=>x.phase==2).length
theorem Zc3 (l:List StR) (th ph att:Int) (a:Acc):enN (l++[⟨th,ph,att,a⟩])=enN l+(if ph=2 then 1 else 0):=by
 unfold enN;rw[List.filter_append,List.length_append]
 congr 1
 by_cases h:ph=2
 ·rw[if_pos h];simp[h]
 ·rw[if_neg h];simp[h]
structure MA where
 m:Nat
 t:Nat
 thv:Value
 stv:Value
 evv:Value
 es:List EvR
def mcA (gm:Nat) (c:Cfg) (p:List InsR) (st:List StR) (u:Nat) (d:Bool):Asr :=
 Asr.exs (fun q:MA=>q.es.length<=st.length) (fun q=>[blkA 78 gm #[ptrV q.m,q.thv,q.stv,q.evv],queA 81 q.thv [ptrV q.t],rowT 52 9 q.stv st.length (stL st),evA q.evv q.es,tA q.t q.m c p st.length (enN st) u d])
section
variable {w0 w:World} {R:Asr} {gm u:Nat} {c:Cfg} {p:List InsR} {st:List StR} {d:Bool}
theorem Zbu (h:Hold w0 w (mcA gm c p st u d*R)):∃q:MA,q.es.length<=st.length/\Hold w0 w (blkA 78 gm #[ptrV q.m,q.thv,q.stv,q.evv]*(queA 81 q.thv [ptrV q.t]*(rowT 52 9 q.stv st.length (stL st)*(evA q.evv q.es*(tA q.t q.m c p st.length (enN st) u d*R))))):=h.Zlq
theorem Ze2 (q:MA) (hq:q.es.length<=st.length) (h:Hold w0 w (blkA 78 gm #[ptrV q.m,q.thv,q.stv,q.evv]*(queA 81 q.thv [ptrV q.t]*(rowT 52 9 q.stv st.length (stL st)*(evA q.evv q.es*(tA q.t q.m c p st.length (enN st) u d*R)))))):Hold w0 w (mcA gm c p st u d*R):=Hold.Zlr q hq h
theorem Zix (hc:CfA c) (hp:PgA p) (hF:Z17 w0) (hl:st.length<=899) (h:Hold w0 w (mcA gm c p st u false*R)) :
  Calls Tryz.prog 12 #[ptrV gm,.int .i64 0] w fun e w'=>e = .returned (.bool true)/\∃ph att a d,Hold w0 w' (mcA gm c p (st++[⟨0,ph,att,a⟩]) (u - 1) d*R):=by
 obtain⟨q,hq,h⟩:=Zbu h;refine(Ziu (k:=0) (id:=0) (Q:=fun j:Int × Int × Acc × Bool=>tA q.t q.m c p (st.length+1) (enN st+(if j.1=2 then 1 else 0)) (u - 1) j.2.2.2*R) (ph:=fun j=>j.1) (att:=fun j=>j.2.1) (a:=fun j=>j.2.2.1) h rfl (by decide) (by omega) (by omega) ?_).mono ?_
 ·intro F w' h
  refine(Zi8 hc hp hF hl h).mono ?_;rintro e w'' ⟨ph,att,a,v,l,d,rfl,hl,h2⟩;exact⟨(ph,att,a,d),v,l,rfl,hl,h2⟩
 ·rintro e w' ⟨⟨ph,att,a,d⟩,stv,evv,es,rfl,hes,h2⟩
  refine⟨rfl,ph,att,a,d,Ze2 ⟨q.m,q.t,q.thv,stv,evv,es⟩ ?_ ?_⟩
  ·rw[List.length_append];show es.length<=st.length+1;omega
  ·rw[List.length_append,Zfp,Zc3]
   exact h2
theorem Ziy (h:Hold w0 w (mcA gm c p st u true*R)) :
  Calls Tryz.prog 12 #[ptrV gm,.int .i64 0] w fun e w'=>e = .returned (.bool false)/\Hold w0 w' (mcA gm c p st u true*R):=by
 obtain⟨q,hq,h⟩:=Zbu h;obtain⟨q2,T,⟨hq2,hE,hu,hd⟩,h1⟩:=Zfn (h.pk5 [4,0,1,2,3]);have e:∀R',sepR (tps q.t q.m c p st.length q2 T) R'=thA q.t c q2.x*sepR (tps q.t q.m c p st.length q2 T).tail R':=fun R'=>by cases T <;> rfl
 have h2:Hold w0 w (sepR [blkA 78 gm #[ptrV q.m,q.thv,q.stv,q.evv],queA 81 q.thv [ptrV q.t],rowT 52 9 q.stv st.length (stL st),evA q.evv q.es] (sepR (tps q.t q.m c p st.length q2 T) R)):=by
  have h3:=h1.imp (Imp.fold _ _);exact(h3.pk5 [1,2,3,4,0]).imp (Imp.under _ (Imp.under _ (Imp.under _ (Imp.under _ (Imp.flat R _)))))
 refine(Zgb (k:=0) h2 rfl (by decide) ?_).mono ?_
 ·intro F w' h
  rw[e] at h;refine(Z8k (h.pk2 [1,0]) hd.symm).mono ?_;rintro e2 w'' ⟨rfl,h4⟩;refine⟨rfl,?_⟩;rw[e];exact h4.pk2 [1,0]
 ·rintro e2 w' ⟨rfl,h3⟩
  refine⟨rfl,Ze2 q hq ?_⟩;have h4:Hold w0 w' (sepR (tps q.t q.m c p st.length q2 T) (sepR [blkA 78 gm #[ptrV q.m,q.thv,q.stv,q.evv],queA 81 q.thv [ptrV q.t],rowT 52 9 q.stv st.length (stL st),evA q.evv q.es] R)):=by
   have h5:=h3.imp (Imp.under _ (Imp.under _ (Imp.under _ (Imp.under _ (Imp.fold R _)))));exact(h5.pk5 [4,0,1,2,3]).imp (Imp.flat _ _)
  have h6:Hold w0 w' (tA q.t q.m c p st.length (enN st) u true*sepR [blkA 78 gm #[ptrV q.m,q.thv,q.stv,q.evv],queA 81 q.thv [ptrV q.t],rowT 52 9 q.stv st.length (stL st),evA q.evv q.es] R):=Hold.Zlr (q2,T) ⟨hq2,hE,hu,hd⟩ h4;exact Hold.pk5 h6 [1,2,3,4,0]
theorem Zke (hc:CfS c) {init:List Int} (hl:(init.length:Int)=c.words) (h:Hold w0 w (mcS gm c (fun _=>p) 1 ⟨newC c 1 init,fun _=>startZ,[]⟩*R)):Hold w0 w (mcA gm c p [] (wsum p 0) ((0:Int)==(p.length:Int))*R):=by
 obtain⟨q,⟨hq1,hq2⟩,h⟩:=Hold.Zlq (show Hold w0 w (Asr.exs _ _*R) from h);obtain⟨t,ht⟩:∃t,q.ts=[t]:=by
  match hts:q.ts with
  | []=>rw[hts] at hq1;cases hq1
  | [t]=>exact⟨t,rfl⟩
  | _::_::_=>rw[hts] at hq1;simp at hq1
 rw[ht] at h;have h1:Hold w0 w (blkA 78 gm #[ptrV q.m,q.thv,q.stv,q.evv]*(queA 81 q.thv [ptrV t]*(rowT 52 9 q.stv 0 []*(evA q.evv q.es*((thS t c p 1 0 startZ*Asr.emp)*(memA q.m (newC c 1 init)*R)))))):=h;obtain⟨q2,⟨hq3,hq4⟩,h2⟩:=Hold.Zlq (show Hold w0 w (Asr.exs _ _*_) from((h1.pk5 [4,0,1,2,3]).part));have h3:Hold w0 w (sepR [thA t c (thR p 1 0 startZ q2),Z0a (.slice q2.A p.length q2.cp) p,obsA q2.ov [],limA q2.gl c [],Asr.emp,blkA 78 gm #[ptrV q.m,q.thv,q.stv,q.evv],queA 81 q.thv [ptrV t],rowT 52 9 q.stv 0 [],evA q.evv q.es,memA q.m (newC c 1 init)] R):=h2;have h4:=Z2t (m:=q.m) (c:=c) (s:=0) (t:=0) (ck:=0) ⟨Int.le_refl 0,Int.le_refl 0⟩ (Zl1 hc hl) (Hold.pk10 h3 [9,0,1,2,3,5,6,7,8]);have h5:=Hold.pk9 h4 [1,2,3,4,0,5,6,7,8];have hz:startZ.B=0:=rfl;have hq3:0<=q2.count/\q2.count<=0:=hq3;have hq4:0<=q2.tries/\q2.tries<=0:=hq4;have h6:Hold w0 w (tA t q.m c p 0 0 (wsum p 0) ((0:Int)==(p.length:Int))*sepR [blkA 78 gm #[ptrV q.m,q.thv,q.stv,q.evv],queA 81 q.thv [ptrV t],rowT 52 9 q.stv 0 [],evA q.evv q.es] R) :=
  Hold.Zlr ((⟨thR p 1 0 startZ q2,q2.A,q2.cp,[],[],[],q2.gl,0,0,0,0,0,[],fun _=>[],0,0⟩:TD),TP.out 0) ⟨⟨⟨rfl,rfl,rfl,rfl,fun e he=>(by cases he),Nat.le_refl _,hq3,hq4,rfl,Nat.zero_le _,rfl,ObsI.nil _,Nat.le_refl _⟩,rfl,rfl,rfl,rfl,rfl⟩,rfl,Nat.le_refl _,rfl⟩ h5
 exact Ze2 ⟨q.m,t,q.thv,q.stv,q.evv,q.es⟩ hq2 (Hold.pk5 h6 [1,2,3,4,0])
theorem Ziz (hp:PgA p) (h:Hold w0 w (mcA gm c p st u true*R)):∃(C:Nat->List Int) (T:TZ),COk C/\T.pc=(p.length:Int)/\ObsI c.strong T.obs (enN st)/\T.obs.length<=2*st.length/\Hold w0 w (mcS gm c (fun _=>p) 1 ⟨C,fun _=>T,st⟩*R):=by
 obtain⟨q,hq,h⟩:=Zbu h;obtain⟨q2,T,⟨hq2,hE,hu,hd⟩,h1⟩:=Zfn (h.pk5 [4,0,1,2,3]);have hT:=Zfj hp hq2 hd.symm;subst hT;obtain⟨K,ha,hfe,hdr,hst,hin⟩:=hq2;have h2:Hold w0 w (sepR [thA q.t c q2.x,Z0a (.slice q2.A p.length q2.cp) p,obsA q2.x.obs q2.obs,limA q2.gl c q2.es,mS q.m c st.length,blkA 78 gm #[ptrV q.m,q.thv,q.stv,q.evv],queA 81 q.thv [ptrV q.t],rowT 52 9 q.stv st.length (stL st),evA q.evv q.es] R):=h1;obtain⟨C,ck,tk,htk,M,h3⟩:=Ziv (Hold.pk9 h2 [4,0,1,2,3,5,6,7,8]);have hE:enN st=q2.b:=hE;have hdn:q2.x.done=((q2.x.pc:Int)==(p.length:Int)):=by rw[K.dn,K.pc]
 have hx:=ThR.rest ha hfe hdr hst K.id0 K.th1 K.code hdn K.lim;have hx2:q2.x=thR p 1 0 ⟨q2.x.pc,q2.x.regs,q2.x.outcome,q2.obs,q2.es,st.length⟩ ⟨q2.A,q2.cp,q2.x.obs,q2.gl,q2.x.saved,q2.x.begin_,q2.x.tries,q2.x.asked,q2.x.seen,q2.x.count⟩:=hx;refine⟨C,⟨q2.x.pc,q2.x.regs,q2.x.outcome,q2.obs,q2.es,st.length⟩,M.ok,K.pc,by rw[hE];exact K.ob,K.obl,?_⟩;have h4:=Hold.pk9 h3 [1,2,3,4,0,5,6,7,8];have h5:Hold w0 w (sepR [thA q.t c q2.x,Z0a (.slice q2.A p.length q2.cp) p,obsA q2.x.obs q2.obs,limA q2.gl c q2.es] (sepR [memA q.m C,blkA 78 gm #[ptrV q.m,q.thv,q.stv,q.evv],queA 81 q.thv [ptrV q.t],rowT 52 9 q.stv st.length (stL st),evA q.evv q.es] R)):=h4;rw[hx2] at h5;have h6:Hold w0 w (thS q.t c p 1 0 ⟨q2.x.pc,q2.x.regs,q2.x.outcome,q2.obs,q2.es,st.length⟩*sepR [memA q.m C,blkA 78 gm #[ptrV q.m,q.thv,q.stv,q.evv],queA 81 q.thv [ptrV q.t],rowT 52 9 q.stv st.length (stL st),evA q.evv q.es] R):=Hold.Zlr ⟨q2.A,q2.cp,q2.x.obs,q2.gl,q2.x.saved,q2.x.begin_,q2.x.tries,q2.x.asked,q2.x.seen,q2.x.count⟩ ⟨K.cnt,K.tri⟩ h5;have h7:=Hold.pk6 h6 [2,3,4,5,0,1];have h8:=h7.imp (Imp.under _ (Imp.under _ (Imp.under _ (Imp.under _ (Imp.on _ ((Imp.Zlv _).trans (Imp.comm _ _)))))));exact Hold.Zlr ⟨q.m,q.thv,q.stv,q.evv,[q.t],q.es⟩ ⟨rfl,hq⟩ h8
end
theorem Z7a {P:Program} {w:World} {fn:Func} {x u v y:Tmp} {T:TypeId} (h:fn.results=#[.cell x T,.tmp u,.tmp v,.tmp y]) (tmps:Array Value) {g:Nat} {t:TypeId} {cs:Array Value} (hx:tmps.getD x undef = .pointer (some ⟨g,0,none⟩))
  (hA:∀w,(isAgg T).run P w = .ok true w) (n:Nat) (hs:∀w,(sizeOf T).run P w = .ok n w) (hb:Blk w g t cs) (hn:cs.size=n):(results fn tmps).run P w = .ok (.tuple #[.agg cs,tmps.getD u undef,tmps.getD v undef,tmps.getD y undef]) w:=by
 subst hn;have hl:(loadCells ⟨g,0,none⟩ cs.toList.length).run P w = .ok cs.toList.toArray w:=by
  refine run_loadCells_list w _ _ fun j v hj=>?_;rw[Z23];refine hb.some_ ?_;rw[<- hj];simp
 have hl2:(loadCells ⟨g,0,none⟩ cs.size).run P w = .ok cs w:=by simpa using hl
 unfold results;rw[h];rw[Array.getD_eq_getD_getElem?] at hx;simp[hx,asAddr,loadVar,hA,hs,hl2,Result.andThen,Sem.run_bind]
section
variable {w0 w:World} {R:Asr} {c:Cfg} {p:List InsR} {pv kv:Value} {vs:List Value} {ks:List Int} {Ai:Option Addr} {ci bA:Nat} {init:List Int}
def resA (c:Cfg) (p:List InsR) (T:TZ) (st:List StR) (stv thv obv:Value) (os:List Value):Asr:=rowT 52 9 stv st.length (stL st)*(rowT 63 11 thv 1 (tsF (fun _=>p) (fun _=>T) 1)*(queA 53 obv os*sepR (obF os (fun _=>T) 1) Asr.emp))
theorem Ziw (hp:PgA p) {gm:Nat} {st:List StR} {d:Bool} (h:Hold w0 w (mcA gm c p st 0 d*R)):d=true:=by
 obtain⟨q,hq,h⟩:=Zbu h;obtain⟨q2,T,⟨hq2,hE,hu,hd⟩,h1⟩:=Zfn (h.pk5 [4,0,1,2,3]);rw[hd];exact Zfk hp hq2 (by omega)
theorem Zhn {nk:Nat} (h:Hold w0 w (queA 29 pv vs*(sepR (pgL vs (fun _=>p) 1) Asr.emp*(queA 3 kv (iL ks)*R)))) (hF:Z17 w0) (hp:PgA p) (hc:CfA c) (hvs:vs.length=1) (hwn:(init.length:Int)=c.words) (hnk:ks.length=nk) (hks:nk<=900) (hkr:∀k∈ks,k=0) (hws:wsum p 0<=nk)
  (hA:∀F w',Hold w0 w' (F*R)->Reads w' bA Ai init.length (init.map (Value.int .u64))) :
  Calls Tryz.prog 8 #[.agg (scC c (.slice Ai init.length ci) pv kv)] w fun e w'=>∃C T st y thv stv Ae ne ce obv os,(T.pc=(p.length:Int)/\ObsI c.strong T.obs (enN st)/\T.obs.length<=2*st.length/\st.length<=nk/\(p ≠ []->0<nk->0<st.length))/\os.length=1/\e = .returned (.tuple #[.agg (resC C y thv stv (.slice Ae ne ce) obv),.int .i64 0,.int .i64 0,.int .i64 0])/\Hold w0 w' (resA c p T st stv thv obv os*R):=by
 obtain⟨Ap,cp,rfl⟩:=h.Zlu;obtain⟨Ak,ck,rfl⟩:∃A c,kv = .slice A (iL ks).length c:=(h.pk3 [2]).Zlu;rw[hvs] at h |-;rw[show (iL ks).length=ks.length from List.length_map _,hnk] at h |-;have HX:=hid (And.intro hF (And.intro hp (And.intro hc (And.intro hwn (And.intro hvs (And.intro hnk (And.intro hkr hA)))))));have HY:=hid (And.intro hws hks);have H1:=hid ((h.newBlk (t:=47) (cs:=scC c (.slice Ai init.length ci) (.slice Ap 1 cp) (.slice Ak nk ck))).newBlk (t:=42) (cs:=#[.slice none 0 0,.slice none 0 0,.int .u64 0,.int .u64 0,.int .u64 0,.slice none 0 0,.slice none 0 0,.slice none 0 0,.slice none 0 0,.slice none 0 0,.slice none 0 0,.slice none 0 0]));clear h hF hp hc hwn hvs hkr hA hnk hws;obtain⟨wn,hwn⟩:∃wn,wn=init.length:=⟨_,rfl⟩;rw[<- hwn] at H1 |-;have HWN:=hid hwn;clear hwn;go_enter Tryz.func8,Tryz.ntmps8;go_upto_region 1 with fail
 have h1:=H1.out;have hsz:(w.alloc (.cells (scC c (.slice Ai wn ci) (.slice Ap 1 cp) (.slice Ak nk ck)) 47)).heap.size=w.heap.size+1:=by simp
 rw[hsz] at h1;generalize hW:World.alloc (World.alloc _ _) _=W at h1 |-;generalize w.heap.size+1=gr at h1 |-;generalize w.heap.size=gs at h1 |-;clear hW H1 hsz;have hN:Hid (Calls Tryz.prog 11 #[.agg (scC c (.slice Ai wn ci) (.slice Ap 1 cp) (.slice Ak nk ck))] W fun e w'=>∃gm,e = .returned (.tuple #[ptrV gm,.int .i64 0,.int .i64 0,.int .i64 0])/\Hold w0 w' (mcA gm c p [] (wsum p 0) ((0:Int)==(p.length:Int))*(queA 29 (.slice Ap 1 cp) vs*(sepR (pgL vs (fun _=>p) 1) Asr.emp*(queA 3 (.slice Ak nk ck) (iL ks)*(blkA 42 gr #[.slice none 0 0,.slice none 0 0,.int .u64 0,.int .u64 0,.int .u64 0,.slice none 0 0,.slice none 0 0,.slice none 0 0,.slice none 0 0,.slice none 0 0,.slice none 0 0,.slice none 0 0]*(blkA 47 gs (scC c (.slice Ai wn ci) (.slice Ap 1 cp) (.slice Ak nk ck))*R))))))):=hid (by
  have hx:=HX.out;rw[HWN.out] at h1 |-;refine(Zkc (ps:=fun _=>p) (h1.pk5 [2,3,4,0,1]) hx.1 (fun _ _=>PgOk.of hx.1 hx.2.1.v hx.2.1.f hx.2.1.j) hx.2.2.1.s.ok ⟨Nat.le_refl 1,by decide⟩ hx.2.2.2.2.1 hx.2.2.2.1 (by have:=hx.2.2.2.2.2.1;have:=HY.out.2;omega) (fun k hk=>by have:=hx.2.2.2.2.2.2.1 k hk;omega) fun F w' hh=>hx.2.2.2.2.2.2.2 _ w' hh.join.join).mono ?_;rintro e w' ⟨gm,rfl,h5⟩;exact⟨gm,rfl,Zke hx.2.2.1.s hx.2.2.2.1 h5⟩)
 have hb:=h1.drop.blk;clear h1;go_wp2_with (refine Z03 rfl 47 _ rfl gs _ _ rfl Tryz.isAgg47 _ Tryz.sizeOf47 hb rfl ?_);refine hN.out.mono ?_;rintro e w2 ⟨gm,rfl,h2⟩;clear hN hb;have q15:=(h2.pk6 [5]).blk.some_ (i:=15) rfl;have H2:=hid (h2.pk6 [0,3,4,1,2,5]);clear h2;go_wp2_with fail;clear q15;obtain⟨RR,hRR⟩:∃RR:Asr,RR=queA 29 (.slice Ap 1 cp) vs*(sepR (pgL vs (fun _=>p) 1) Asr.emp*(blkA 47 gs (scC c (.slice Ai wn ci) (.slice Ap 1 cp) (.slice Ak nk ck))*R)):=⟨_,rfl⟩;have H:=hid (show Hold w0 _ (mcA gm c p [] (wsum p 0) ((0:Int)==(p.length:Int))*(queA 3 (.slice Ak nk ck) (iL ks)*(blkA 42 gr #[.slice none 0 0,.slice none 0 0,.int .u64 0,.int .u64 0,.int .u64 0,.slice none 0 0,.slice none 0 0,.slice none 0 0,.slice none 0 0,.slice none 0 0,.slice none 0 0,.slice none 0 0]*RR))) by rw[hRR];exact H2.out);have HRR:=hid hRR;clear H2 hRR;go_loopw [25] (fun i wr=>∃(j:Nat) (st:List StR) (d:Bool),j<=nk/\i = .int .i64 (j:Int)/\(st.length<=j/\(d=false->st.length=j)/\(p ≠ []->0<j->0<st.length)/\(p ≠ []->j=0->d=false))/\Hold w0 wr (mcA gm c p st (wsum p 0 - st.length) d*(queA 3 (.slice Ak nk ck) (iL ks)*(blkA 42 gr #[.slice none 0 0,.slice none 0 0,.int .u64 0,.int .u64 0,.int .u64 0,.slice none 0 0,.slice none 0 0,.slice none 0 0,.slice none 0 0,.slice none 0 0,.slice none 0 0,.slice none 0 0]*RR)))) (fun i _=>nk - (intOf i).toNat)
 case atStart=>exact⟨0,[],_,Nat.zero_le _,rfl,⟨Nat.le_refl _,fun _=>rfl,fun _ h=>h,fun h _=>(by cases p with|nil=>exact absurd rfl h|cons x l=>exact beq_eq_false_iff_ne.2 (by simp only[List.length_cons];omega))⟩,H.out⟩
 case round =>
  clear H;obtain⟨j,st,d,hj,rfl,hIj,h⟩:=hrel
  by_cases hlt:j<nk
  ·have e1:decide ((j:Int)<(nk:Int))=true:=decide_eq_true (by omega)
   have e1':decide (j<nk)=true:=decide_eq_true hlt;have k0:(0:Int)<=(j:Int):=by omega
   have k1:(j:Int)<(nk:Int):=by omega
   have hkl:j<ks.length:=by have:=HX.out.2.2.2.2.2.1;omega
   have hk:(iL ks)[j]?=some (.int .i64 0):=by
    show (ks.map _)[j]?=_;rw[List.getElem?_map,List.getElem?_eq_getElem hkl,HX.out.2.2.2.2.2.2.1 _ (List.getElem_mem hkl)];rfl
   obtain⟨ad,rfl⟩:∃ad,Ak=some ad:=by
    obtain⟨fp,hp⟩:=h.drop.get;obtain⟨_,_,_,b,hr,_⟩:=queReads hp;obtain⟨ad2,hA,_⟩:=hr.cellAt (k:=j) hlt;exact⟨ad2,hA⟩
   have qk:=h.drop.queAt hk;have HPk:Hid (Calls Tryz.prog 12 #[ptrV gm,.int .i64 0] wr fun e w'=>∃b st' d',e = .returned (.bool b)/\(st'.length<=j+1/\(d'=false->st'.length=j+1)/\(p ≠ []->0<j+1->0<st'.length)/\(p ≠ []->j+1=0->d'=false))/\Hold w0 w' (mcA gm c p st' (wsum p 0 - st'.length) d'*(queA 3 (.slice (some ad) nk ck) (iL ks)*(blkA 42 gr #[.slice none 0 0,.slice none 0 0,.int .u64 0,.int .u64 0,.int .u64 0,.slice none 0 0,.slice none 0 0,.slice none 0 0,.slice none 0 0,.slice none 0 0,.slice none 0 0,.slice none 0 0]*RR)))):=hid (by
    obtain⟨hl,hd,hn,hn0⟩:=hIj
    cases d with
    | true =>
     refine(Ziy h).mono ?_;rintro e w5 ⟨rfl,h5⟩;refine⟨false,st,true,rfl,⟨by omega,fun h=>(by cases h),fun hp _=>?_,fun _ h=>(by omega)⟩,h5⟩
     by_cases hj0:j=0
     ·exact absurd (hn0 hp hj0) (by decide)
     ·exact hn hp (by omega)
    | false =>
     have hst:=hd rfl;have:=HY.out.2;refine(Zix HX.out.2.2.1 HX.out.2.1 HX.out.1 (by omega) h).mono ?_;rintro e w5 ⟨rfl,ph,att,a,d,h5⟩;have hl2:(st++[(⟨0,ph,att,a⟩:StR)]).length=st.length+1:=by rw[List.length_append];rfl
     refine⟨true,st++[⟨0,ph,att,a⟩],d,rfl,⟨by omega,fun _=>(by omega),fun _ _=>(by omega),fun _ h=>(by omega)⟩,?_⟩;rw[hl2,Nat.sub_add_eq];exact h5)
   clear h hk hkl hIj;go_wp2_with fail;refine HPk.out.mono ?_;rintro e w5 ⟨b,st',d',rfl,hI',h5⟩;have H5:=hid h5;have HI':=hid hI';clear h5 HPk qk hI';go_wp2_with fail;go_roundw
   case rel=>exact⟨j+1,st',d',hlt,by go_num,HI'.out,H5.out⟩
   case measure=>simp[intOf];omega
  ·obtain rfl:j=nk:=by omega
   have e1:decide ((j:Int)<(j:Int))=false:=decide_eq_false (by omega);have e1':decide (j<j)=false:=decide_eq_false (by omega);obtain⟨hl,hd,hn,hn0⟩:=hIj;have hdt:d=true:=by
    cases d with
    | true=>rfl
    | false =>
     have h0:wsum p 0 - st.length=0:=by have:=hd rfl;have:=HY.out.1;omega
     rw[h0] at h;exact Ziw HX.out.2.1 h
   subst hdt;obtain⟨C,T,hC,hpc,hob,hol,h9⟩:=Ziz HX.out.2.1 h;have HR:=hid (Zkb h9 hC (show st.length<=1000 by omega) (Nat.le_refl 1) (by decide) (fun _ _=>show T.obs.length<=10000 by omega));have HIj:=hid (show T.pc=(p.length:Int)/\ObsI c.strong T.obs (enN st)/\T.obs.length<=2*st.length/\st.length<=j/\(p ≠ []->0<j->0<st.length) from⟨hpc,hob,hol,hl,hn⟩);clear h h9 hC hl hob hpc hol hd hn hn0;go_wp2_with fail;refine HR.out.mono ?_;rintro e w5 ⟨y,thv,A,k,Ae,ne,ce,obv,os,rfl,hos,h5⟩;obtain⟨n7,c7,A7,rfl⟩:∃n c A,thv = .slice A n c:=by obtain⟨A,c,h⟩:=(h5.pk2 [1]).Zlt;exact⟨_,c,A,h⟩
   obtain⟨n8,c8,A8,rfl⟩:∃n c A,obv = .slice A n c:=by obtain⟨A,c,h⟩:=(h5.pk3 [2]).Zlu;exact⟨_,c,A,h⟩
   have h6:=h5.pk6 [5,0,1,2,3,4];have HOS:=hid hos;clear h5 hos HR;obtain⟨nl,hnl⟩:∃nl,nl=st.length:=⟨_,rfl⟩;rw[<- hnl] at h6 |-;have HNL:=hid hnl;clear hnl;go_wp2_with (refine Z00 rfl 42 _ _ rfl gr _ _ (resC C y (.slice A7 n7 c7) (.slice A nl k) (.slice Ae ne ce) (.slice A8 n8 c8)) rfl rfl _ Tryz.sizeOf42 h6 rfl rfl rfl ?_;intro w7 h11);refine bodyPost_ret (Z7a Tryz.results8 _ rfl Tryz.isAgg42 _ Tryz.sizeOf42 h11.blk rfl) rfl ⟨C,T,st,y,_,_,_,_,_,_,os,HIj.out,HOS.out,rfl,?_⟩;have h12:Hold w0 w7 (rowT 52 9 (.slice A nl k) nl (stL st)*(rowT 63 11 (.slice A7 n7 c7) 1 (tsF (fun _=>p) (fun _=>T) 1)*(queA 53 (.slice A8 n8 c8) os*(sepR (obF os (fun _=>T) 1) Asr.emp*(queA 3 (.slice Ak j ck) (iL ks)*RR))))):=h11.drop;have h13:=((((h12.pk4 [2,3,0,1]).join).pk3 [2,0,1]).join.pk2 [1,0]).join;rw[HRR.out] at h13;have h14:=h13.imp (Imp.under _ ((Imp.drop _ _).trans ((Imp.drop _ _).trans ((Imp.drop _ _).trans (Imp.drop _ _)))));unfold resA;rw[<- HNL.out];exact h14
end
abbrev nopI:InsR:=⟨0,0,0,0,0⟩
def nopP:List InsR:=[nopI]
abbrev awC:Cfg:=⟨1,1,0,0,0,0,0,1,1,0,0,0,false⟩
theorem PgA.nop:PgA nopP:=by
 have h:=MkI.done (MkI.nil.push (by decide) (InsV.of (o:=0) (by decide) (a:=0) (b:=0) (c:=0) (imm:=0) rfl rfl rfl rfl (by decide) (by decide) (by decide)) (fun h=>absurd h (by decide)) (fun h=>absurd h (by decide)) (fun h=>absurd h (by decide)));exact⟨h.v,h.f,h.g⟩
theorem CfA.aw:CfA awC:=⟨⟨by decide,by decide,by decide,rfl,rfl,by decide,by decide,by decide⟩,by decide,by decide,by decide,by decide,by decide,fun a ha=>Zbs (Int.le_refl 1) ha,by decide⟩
section
variable {w0 w:World} {R:Asr}
theorem Hold.newQue (h:Hold w0 w R) (e:TypeId) (cs:Array Value) (n:Nat) (hn:cs.size=n) (hm:n<=1000):Hold w0 (w.alloc (.cells cs e)) (queA e (.slice (some ⟨w.heap.size,0,none⟩) n n) cs.toList*R):=by
 subst hn;refine h.new ((Chg.refl _ _).alloc _) (fp:=[w.heap.size]) (.inr ⟨w.heap.size,0,cs.size,cs,by simp,Blk.new _ _ _,by omega,by simp,by unfold maxLen;omega,fun j hj=>by simp,rfl⟩) (by simp)
theorem Hold.queReads {e:TypeId} {g o n c:Nat} {xs:List Value} (h:Hold w0 w (queA e (.slice (some ⟨g,o,none⟩) n c) xs*R)):Reads w g (some ⟨g,o,none⟩) n xs:=by
 obtain⟨fp,hp⟩:=h.get;rcases hp with⟨h1,_⟩|⟨g',off,c',cs,h1,h2,h3,h4,h5,h6,rfl⟩
 ·injection h1 with h1;cases h1
 ·injection h1 with h1 h7 h8
  injection h1 with h1
  injection h1 with h1 h9 _
  subst h1 h7 h8 h9;refine⟨rfl,fun k hk=>⟨_,xs[k],rfl,rfl,h2.lt,List.getElem?_eq_getElem hk,?_⟩⟩;rw[Addr.add_lit,h2.cell,h6 k hk,List.getElem?_eq_getElem hk]
theorem awake21_any (hF:Z17 w0) (h:Hold w0 w R):Calls Tryz.prog 6 #[] w fun e w'=>e = .returned (.bool true)/\Hold w0 w' R:=by
 have HF:=hid hF;have hz:∀(w:World) o,(w.alloc o).heap.size=w.heap.size+1:=fun _ _=>by simp
 have h1:=h.newQue 34 #[.int .u64 5] 1 rfl (by decide);have h2:=h1.newRowS (e:=28) (size:=5) (cs:=nopI.cells) rfl;have h3:=h2.newQue 29 #[.slice (some ⟨w.heap.size+1,0,none⟩) 1 1] 1 rfl (by decide);have h4:=h3.newQue 3 #[.int .i64 0] 1 rfl (by decide);have h5:=h4.newBlk (t:=47) (cs:=scC awC (.slice (some ⟨w.heap.size,0,none⟩) 1 1) (.slice (some ⟨w.heap.size+1+1,0,none⟩) 1 1) (.slice (some ⟨w.heap.size+1+1+1,0,none⟩) 1 1));simp only[hz] at h5;have H5:=hid h5;clear h1 h2 h3 h4 h5 h hF hz;go_enter Tryz.func6,Tryz.ntmps6;go_upto_region 2 with fail
 have h5:=H5.out;clear H5;generalize hW:World.alloc _ _=W at h5 |-;clear hW;generalize w.heap.size+1+1+1+1=g5 at h5 |-;generalize w.heap.size+1+1+1=g4 at h5 |-;generalize w.heap.size+1+1=g3 at h5 |-;generalize w.heap.size+1=g2 at h5 |-;generalize w.heap.size=g1 at h5 |-;have hb:=h5.blk;have h6:Hold w0 W (queA 29 (.slice (some ⟨g3,0,none⟩) 1 1) [.slice (some ⟨g2,0,none⟩) 1 1]*(sepR (pgL [.slice (some ⟨g2,0,none⟩) 1 1] (fun _=>nopP) 1) Asr.emp*(queA 3 (.slice (some ⟨g4,0,none⟩) 1 1) (iL [0])*(queA 34 (.slice (some ⟨g1,0,none⟩) 1 1) [.int .u64 5]*(blkA 47 g5 (scC awC (.slice (some ⟨g1,0,none⟩) 1 1) (.slice (some ⟨g3,0,none⟩) 1 1) (.slice (some ⟨g4,0,none⟩) 1 1))*R))))) :=
  (((h5.pk5 [3,2,1,4,0]).imp (Imp.under _ (Imp.Zlv _))).join.pk2 [1,0])
 have HN:=hid (Zhn (w:=W) (c:=awC) (p:=nopP) (nk:=1) (ks:=[0]) (Ai:=some ⟨g1,0,none⟩) (ci:=1) (init:=[5]) (bA:=g1) h6 HF.out PgA.nop CfA.aw rfl rfl rfl (by decide) (fun k hk=>by simpa using hk) (by decide) (fun F w' hh=>hh.drop.queReads));clear h5 h6;go_wp2_with (refine Z03 rfl 47 _ rfl g5 _ _ rfl Tryz.isAgg47 _ Tryz.sizeOf47 hb rfl ?_);refine HN.out.mono ?_;rintro e w4 ⟨C,T,st,y,thv,stv,Ae,ne,ce,obv,os,⟨hpc,-,-,hl1,hl0⟩,hos,rfl,hr⟩;clear HN hb;have hl:st.length=1:=by have:=hl0 (by decide) (by decide);omega
 unfold resA at hr;rw[hl] at hr;have h7:=hr.part.imp (Imp.under _ (Imp.assoc _ _ _)) |>.imp (Imp.under _ (Imp.under _ (Imp.assoc _ _ _)));obtain⟨As,cs,rfl⟩:∃A c,stv = .slice A 1 c:=h7.Zlt;obtain⟨At,ct,rfl⟩:∃A c,thv = .slice A 1 c:=h7.drop.Zlt;obtain⟨Ao,co,rfl⟩:∃A c,obv = .slice A os.length c:=h7.drop.drop.Zlu;obtain⟨gT,rfl,-,hct⟩:=h7.drop.rowSBlk (by decide) (by decide);have e10:(tsF (fun _=>nopP) (fun _=>T) 1)[10]?=some (.bool true):=by show some (Value.bool (T.pc==((1:Nat):Int)))=_;rw[hpc];rfl
 have h8:=h7.newBlk (t:=42) (cs:=#[.slice none 0 0,.slice none 0 0,.int .u64 0,.int .u64 0,.int .u64 0,.slice none 0 0,.slice none 0 0,.slice none 0 0,.slice none 0 0,.slice none 0 0,.slice none 0 0,.slice none 0 0]);have H8:=hid h8;have HE:=hid e10;clear h7 h8 hr hos e10;go_wp2_with (refine Z00 rfl 42 _ _ rfl _ _ _ (resC C y (.slice (some ⟨gT,0,none⟩) 1 ct) (.slice As 1 cs) (.slice Ae ne ce) (.slice Ao os.length co)) rfl rfl _ Tryz.sizeOf42 H8.out rfl rfl rfl ?_;intro w7 h11;have p8:=h11.blk.some_ (i:=8) rfl;have p9:=h11.blk.some_ (i:=9) rfl;have pd:w7.cell? ⟨gT,10,none⟩=some (.bool true):=(by obtain⟨g9,hA9,hc9,_⟩:=h11.drop.drop.rowSBlk (by decide) (by decide);obtain rfl:gT=g9:=(by injection hA9 with h;injection h);exact hc9 10 _ HE.out);have HF2:=hid h11.drop.drop.drop.drop.drop.drop.drop;clear h11);go_ret;exact⟨rfl,HF2.out⟩
end
theorem Zhe:∀(l:List StR) (k:Nat) (x:StR) (j:Nat) (u:Value),l[k]?=some x->(stC x.th x.phase x.att x.acc).toList[j]?=some u->(stL l)[k*9+j]?=some u
 | [],k,x,j,u,h,_=>by cases h
 | x0::l,0,x,j,u,h,h2=>by
  have:x0=x:=by simpa using h
  subst this;have hj:j<9:=(List.getElem?_eq_some_iff.1 h2).1;show ((stC x0.th x0.phase x0.att x0.acc).toList++stL l)[0*9+j]?=_;rw[Nat.zero_mul,Nat.zero_add,List.getElem?_append_left hj];exact h2
 | x0::l,k+1,x,j,u,h,h2=>by
  show ((stC x0.th x0.phase x0.att x0.acc).toList++stL l)[(k+1)*9+j]?=_;rw[List.getElem?_append_right (by show 9<=_;omega)];rw[show (k+1)*9+j - (stC x0.th x0.phase x0.att x0.acc).toList.length=k*9+j by show _ - 9=_;omega];exact Zhe l k x j u (by simpa using h) h2
theorem Zbq:∀(l:List ObR) (k:Nat) (x:ObR) (j:Nat) (u:Value),l[k]?=some x->([.int .i64 x.pc,.int .i64 x.kind,.int .u64 x.val]:List Value)[j]?=some u->(obL l)[k*3+j]?=some u
 | [],k,x,j,u,h,_=>by cases h
 | x0::l,0,x,j,u,h,h2=>by
  have:x0=x:=by simpa using h
  subst this;have hj:j<3:=(List.getElem?_eq_some_iff.1 h2).1;show (([.int .i64 x0.pc,.int .i64 x0.kind,.int .u64 x0.val]:List Value)++obL l)[0*3+j]?=_;rw[Nat.zero_mul,Nat.zero_add,List.getElem?_append_left hj];exact h2
 | x0::l,k+1,x,j,u,h,h2=>by
  show (([.int .i64 x0.pc,.int .i64 x0.kind,.int .u64 x0.val]:List Value)++obL l)[(k+1)*3+j]?=_;rw[List.getElem?_append_right (by show 3<=_;omega)];rw[show (k+1)*3+j - ([.int .i64 x0.pc,.int .i64 x0.kind,.int .u64 x0.val]:List Value).length=k*3+j by show _ - 3=_;omega];exact Zbq l k x j u (by simpa using h) h2
theorem Imp.queTake (e:TypeId) (A:Option Addr) (n c k:Nat) (xs:List Value) (hk:k<=n) (hk0:0<k):Imp (queA e (.slice A n c) xs) (queA e (.slice A k c) (xs.take k)):=by
 rintro w fp (⟨h1,h2,_⟩|⟨g,off,c',cs,h1,h2,h3,h4,h5,h6,rfl⟩)
 ·injection h1 with h1 h3 h4
  omega
 ·injection h1 with h1 h7 h8
  subst h1 h8 h7;have hl:(xs.take k).length=k:=by rw[List.length_take];omega
  refine⟨[g],.inr ⟨g,off,c,cs,by rw[hl],h2,h3,by omega,h5,fun j hj=>?_,rfl⟩,fun _ hb=>hb⟩;rw[h6 j (by omega),List.getElem?_take,if_pos (by omega)]
theorem Zgw {l:List StR} {j:Nat} {x:StR} (h:l[j]?=some x):enN (l.take (j+1))=enN (l.take j)+(if x.phase=2 then 1 else 0):=by
 have hl:=(List.getElem?_eq_some_iff.1 h);rw[List.take_add_one,h];exact Zc3 _ _ _ _ _
theorem Zev {sg:Bool} {l:List ObR} {j:Nat} {x:ObR} (h:l[j]?=some x):begN sg (l.take (j+1))=begN sg (l.take j)+(begO sg x).toNat:=by
 rw[List.take_add_one,h,Z84]
 congr 1
 show ([x].filter (begO sg)).length=_
 by_cases hb:begO sg x=true
 ·simp[hb]
 ·simp[Bool.not_eq_true _ ▸ hb]
theorem topAlone_any (a b c2 d e:Int) (A:Option Addr) (len cap:Nat) (st:Bool) (w:World) (hk:∀j,j<len->∃ad z,A=some ad/\w.cell? (ad.add j)=some (.int .i64 z)) (hF:Z17 w) :
  Calls Tryz.prog 5 #[.agg #[.int .i64 a,.int .i64 b,.int .i64 c2,.int .i64 d,.int .i64 e],.slice A len cap,.bool st] w fun e w'=>e = .returned (.bool true)/\Below w.heap.size w w':=by
 have h0:=(Hold.start w).newBlk (t:=58) (cs:=#[.int .i64 a,.int .i64 b,.int .i64 c2,.int .i64 d,.int .i64 e])
 by_cases hl:len<=60
 ·have hd : decide ((60:Int)<(len:Int))=false:=decide_eq_false (by omega)
  have hd':decide (60<len)=false:=decide_eq_false (by omega);have HF:=hid hF;have HK:=hid hk;have H0:=hid h0;clear hF hk h0;go_enter Tryz.func5,Tryz.ntmps5;go_upto_region 1 with fail
  have h0:=H0.out;generalize hW:World.alloc _ _=W at h0 |-;generalize w.heap.size=ga at h0 |-;clear hW H0;have hb:=h0.blk;have H1:=hid (h0.newQue 23 #[.slice A len cap] 1 rfl (by decide));clear h0;go_wp2_with (refine Z03 rfl 58 _ rfl ga _ _ rfl Tryz.isAgg58 _ Tryz.sizeOf58 hb rfl ?_);have h1:=H1.out;generalize hW:World.alloc _ _=W2 at h1 |-;generalize W.heap.size=gl at h1 |-;clear hW hb H1;refine(client_any h1 (by omega) HK.out).mono ?_;rintro e3 w3 ⟨c,iv,pv,zs,vs,p,rfl,hA,hzs,hvs,hp,h3⟩;have HA:=hid hA;clear h1 hA HK;obtain⟨A9,c9,rfl⟩:∃A c,pv = .slice A 3 c:=by obtain⟨A,c,h⟩:=h3.drop.Zlu;rw[hvs] at h;exact⟨A,c,h⟩
  obtain⟨g10,o10,c10,rfl⟩:∃g o c,iv = .slice (some ⟨g,o,none⟩) zs.length c:=by
   obtain⟨fp,hp⟩:=h3.get;rcases hp with⟨_,h2,_⟩|⟨g,off,c',cs,h1,_⟩
   ·have hw:=HA.out.1.s.words
    have hn:zs=[]:=List.map_eq_nil_iff.1 h2;rw[hn] at hzs;have:(0:Int)=c.words:=hzs;omega
   ·rw[List.length_map] at h1;exact⟨g,off,c',h1⟩
  obtain⟨v0,v1,v2,rfl⟩:∃a b c,vs=[a,b,c]:=by
   match vs,hvs with
   | [a,b,c],_=>exact⟨a,b,c,rfl⟩
  obtain⟨hc9,ad9,rfl⟩:3<=c9/\∃ad,A9=some ad:=by
   obtain⟨fp,hp⟩:=h3.drop.get;obtain⟨_,hl,_,b,hr,_⟩:=queReads hp;obtain⟨ad2,hA,_⟩:=hr.cellAt (k:=0) (by omega);exact⟨hl,ad2,hA⟩
  have HZ:=hid (And.intro hzs hp);have H4:=hid (h3.newBlk (t:=47) (cs:=scrC c (.slice (some ⟨g10,o10,none⟩) zs.length c10) (.slice (some ad9) 3 c9) (.slice none 0 0)));clear h3 hzs hp hvs;go_upto_region 4 with fail
  have h4:Hold w _ (blkA 47 _ _*(queA 34 (.slice (some ⟨g10,o10,none⟩) zs.length c10) (zs.map (Value.int .u64))*(queA 29 (.slice (some ad9) 3 c9) [v0,v1,v2]*(Z0a v0 p*(blkA 58 ga #[.int .i64 a,.int .i64 b,.int .i64 c2,.int .i64 d,.int .i64 e]*Asr.emp))))):=H4.out;generalize hW:World.alloc _ _=W4 at h4 |-;generalize w3.heap.size=gf at h4 |-;clear hW H4;have q14:=h4.blk.some_ (i:=14) rfl;have z14:=h4.blk.frozen 14;have H5:=hid (h4.Zlp 14 (.slice (some ad9) 1 c9));clear h4;go_upto_region 5 with fail
  have h5:Hold w _ (blkA 47 gf (scrC c (.slice (some ⟨g10,o10,none⟩) zs.length c10) (.slice (some ad9) 1 c9) (.slice none 0 0))*(queA 34 (.slice (some ⟨g10,o10,none⟩) zs.length c10) (zs.map (Value.int .u64))*(queA 29 (.slice (some ad9) 3 c9) [v0,v1,v2]*(Z0a v0 p*(blkA 58 ga #[.int .i64 a,.int .i64 b,.int .i64 c2,.int .i64 d,.int .i64 e]*Asr.emp))))):=H5.out;generalize hW:World.setCell _ _ _=W5 at h5 |-;clear hW H5 q14 z14;obtain⟨iI,hiI,hz0,hz1,hz2⟩:=Z6v;go_wp2_with (at_make;refine wpList_make_full _ rfl _ _ 23 rfl _ 3 iI (.int .i64 0) 1 Tryz.underlying23 hiI hz0 hz1 .i64 .i64 (900:Int) (900:Int) 900 rfl rfl rfl rfl (by rw[hz2];omega) (by unfold maxLen;omega) (Nat.le_refl _) ?_);intro w6 hown hgrow;rw[toList_madeCells_one] at hown;have h6:=h5.listQue (by simpa using hown) ((Chg.refl [] _).grown hgrow (by simp));have p15:=h6.drop.blk.some_ (i:=15) rfl;have z15:=h6.drop.blk.frozen 15;have H7:=hid (h6.swap.Zlp 15 (.slice (some ⟨W5.heap.size,0,none⟩) 900 900));clear h5 h6 hown hgrow;go_upto_region 6 with fail
  have h7:Hold w _ (blkA 47 gf (scrC c (.slice (some ⟨g10,o10,none⟩) zs.length c10) (.slice (some ad9) 1 c9) (.slice (some ⟨W5.heap.size,0,none⟩) 900 900))*(queA 3 (.slice (some ⟨W5.heap.size,0,none⟩) 900 900) (List.replicate 900 (.int .i64 0))*(queA 34 (.slice (some ⟨g10,o10,none⟩) zs.length c10) (zs.map (Value.int .u64))*(queA 29 (.slice (some ad9) 3 c9) [v0,v1,v2]*(Z0a v0 p*(blkA 58 ga #[.int .i64 a,.int .i64 b,.int .i64 c2,.int .i64 d,.int .i64 e]*Asr.emp)))))):=H7.out;generalize hW:World.setCell _ _ _=W7 at h7 |-;generalize W5.heap.size=gz at h7 |-;clear hW H7 p15 z15;have hb:=h7.blk;have h8:Hold w W7 (queA 29 (.slice (some ad9) 1 c9) [v0]*(sepR (pgL [v0] (fun _=>p) 1) Asr.emp*(queA 3 (.slice (some ⟨gz,0,none⟩) 900 900) (iL (List.replicate 900 0))*(queA 34 (.slice (some ⟨g10,o10,none⟩) zs.length c10) (zs.map (Value.int .u64))*Asr.emp)))):=by
   have e9:iL (List.replicate 900 0)=List.replicate 900 (Value.int .i64 0):=List.map_replicate;rw[e9];have h9:=(h7.pk5 [3,4,1,2]).imp (Imp.on _ (Imp.queTake _ _ 3 c9 1 _ (by decide) (by decide)));exact(h9.imp (Imp.under _ (Imp.on _ ((Imp.Zlv _).trans (Imp.comm _ _))))).imp (Imp.under _ (Imp.under _ (Imp.under _ (Imp.under _ (Imp.drop _ _)))))
  have HN:=hid (Zhn (w:=W7) (c:=c) (p:=p) (nk:=900) (ks:=List.replicate 900 0) (Ai:=some ⟨g10,o10,none⟩) (ci:=c10) (init:=zs) (bA:=g10) h8 HF.out HZ.out.2.2 HA.out.1 rfl HZ.out.1 List.length_replicate (Nat.le_refl _) (fun k hk=>List.eq_of_mem_replicate hk) (by
   have h1:=Zb8 p;have h2:=HZ.out.2.1;show Zd0 p<=900;omega) (fun F w' hh=>hh.drop.queReads))
  clear h7 h8;go_wp2_with (refine Z03 rfl 47 _ rfl gf _ _ rfl Tryz.isAgg47 _ Tryz.sizeOf47 hb rfl ?_);refine HN.out.mono ?_;rintro e w8 ⟨C,T,st2,y,thv,stv,Ae,ne,ce,obv,os,⟨hpc,hob,hol,hl1,-⟩,hos,rfl,hr⟩;clear HN hb;unfold resA at hr;have h7:=hr.part.imp (Imp.under _ (Imp.assoc _ _ _)) |>.imp (Imp.under _ (Imp.under _ (Imp.assoc _ _ _)));obtain⟨nl,hnl⟩:∃nl,nl=st2.length:=⟨_,rfl⟩;rw[<- hnl] at h7 hl1;obtain⟨o0,rfl⟩:∃a,os=[a]:=by
   match os,hos with
   | [a],_=>exact⟨a,rfl⟩
  obtain⟨As,cs,rfl⟩:∃A c,stv = .slice A nl c:=h7.Zlt;obtain⟨At,ct,rfl⟩:∃A c,thv = .slice A 1 c:=h7.drop.Zlt;obtain⟨go,oo,co,rfl⟩:∃g o c,obv = .slice (some ⟨g,o,none⟩) 1 c:=by
   obtain⟨fp,hp⟩:=h7.drop.drop.get;rcases hp with⟨_,h2,_⟩|⟨g,off,c',cs,h1,_⟩
   ·cases h2
   ·exact⟨g,off,c',h1⟩
  obtain⟨gT,rfl,-,-⟩:=h7.drop.rowSBlk (by decide) (by decide);have h7b:Hold w w8 (rowT 52 9 (.slice As nl cs) nl (stL st2)*(rowT 63 11 (.slice (some ⟨gT,0,none⟩) 1 ct) 1 (tsF (fun _=>p) (fun _=>T) 1)*(queA 53 (.slice (some ⟨go,oo,none⟩) 1 co) [o0]*(obsA o0 T.obs*Asr.emp)))):=h7.imp (Imp.under _ (Imp.under _ (Imp.under _ (Imp.under _ (Imp.drop _ _))))) |>.imp (Imp.under _ (Imp.under _ (Imp.under _ (Imp.comm _ _)))) |>.imp (Imp.under _ (Imp.under _ (Imp.under _ (Imp.drop _ _))));obtain⟨nb,hnb⟩:∃nb,nb=T.obs.length:=⟨_,rfl⟩;obtain⟨Ab,cb,rfl⟩:∃A c,o0 = .slice A nb c:=by rw[hnb];exact(h7b.pk4 [3]).Zlt
  have h7c:Hold w w8 (rowT 52 9 (.slice As nl cs) nl (stL st2)*(rowT 63 11 (.slice (some ⟨gT,0,none⟩) 1 ct) 1 (tsF (fun _=>p) (fun _=>T) 1)*(queA 53 (.slice (some ⟨go,oo,none⟩) 1 co) [.slice Ab nb cb]*(rowT 55 3 (.slice Ab nb cb) nb (obL T.obs)*Asr.emp)))):=by
   have h9:=h7b;unfold obsA at h9;rw[<- hnb] at h9;exact h9
  have e10:(tsF (fun _=>p) (fun _=>T) 1)[10]?=some (.bool true):=by show some (Value.bool (T.pc==((p.length:Nat):Int)))=_;rw[hpc];simp
  have hzz:=h7c.newBlk (t:=42) (cs:=#[.slice none 0 0,.slice none 0 0,.int .u64 0,.int .u64 0,.int .u64 0,.slice none 0 0,.slice none 0 0,.slice none 0 0,.slice none 0 0,.slice none 0 0,.slice none 0 0,.slice none 0 0]);have H8:=hid hzz;have HE:=hid e10;have HO:=hid (And.intro hob (And.intro hnl hnb));have hnb2:nb<=2000:=by omega
  clear h7 h7b h7c hzz hr hos e10 hob hnl hnb hol;go_upto_region 7 with(refine Z00 rfl 42 _ _ rfl _ _ _ (resC C y (.slice (some ⟨gT,0,none⟩) 1 ct) (.slice As nl cs) (.slice Ae ne ce) (.slice (some ⟨go,oo,none⟩) 1 co)) rfl rfl _ Tryz.sizeOf42 H8.out rfl rfl rfl ?_;intro w9 h11)
  generalize w8.heap.size=gR at h11 |-;clear H8;have p8:=h11.blk.some_ (i:=8) rfl;have p11:=h11.blk.some_ (i:=11) rfl;have HH:=hid (show Hold w w9 (blkA 42 gR (resC C y (.slice (some ⟨gT,0,none⟩) 1 ct) (.slice As nl cs) (.slice Ae ne ce) (.slice (some ⟨go,oo,none⟩) 1 co))*(rowT 52 9 (.slice As nl cs) nl (stL st2)*(rowT 63 11 (.slice (some ⟨gT,0,none⟩) 1 ct) 1 (tsF (fun _=>p) (fun _=>T) 1)*(queA 53 (.slice (some ⟨go,oo,none⟩) 1 co) [.slice Ab nb cb]*(rowT 55 3 (.slice Ab nb cb) nb (obL T.obs)*Asr.emp))))) from h11);clear h11;have hnl9:nl<=900:=hl1;go_wp2_with fail;go_loopw [13,14] (fun v13 v14 wr=>∃j x:Nat,j<=nl/\x<=j/\v14 = .int .i64 (j:Int)/\v13 = .int .i64 (x:Int)/\Hid (x=enN (st2.take j))/\wr=w9) (fun _ v _=>nl - (intOf v).toNat)
  case atStart=>exact⟨0,0,Nat.zero_le _,Nat.le_refl _,rfl,rfl,hid rfl,rfl⟩
  case round =>
   obtain⟨j,x,hj,hxj,rfl,rfl,HXJ,rfl⟩:=hrel;have p9:=HH.out.blk.some_ (i:=9) rfl
   by_cases hlt:j<nl
   ·have e1:decide ((j:Int)<(nl:Int))=true:=decide_eq_true (by omega)
    have e1':decide (j<nl)=true:=decide_eq_true hlt;have i0:(0:Int)<=(j:Int):=by omega
    have i1:(j:Int)<(nl:Int):=by omega
    obtain⟨z,hz⟩:∃z,st2[j]?=some z:=⟨_,List.getElem?_eq_getElem (by have:=HO.out.2.1;omega)⟩;obtain⟨gS,rfl,hcv,-⟩:=HH.out.drop.rowSBlk (by decide) (by omega);have c1:=hcv _ _ (Zhe st2 j z 1 _ hz rfl);have HT:=hid (Zgw hz);obtain⟨th,ph,att,ac⟩:=z;dsimp only at c1;clear hz hcv
    by_cases hp2:ph=2
    ·subst hp2
     go_wp2_with fail;go_roundw
     case rel=>exact⟨j+1,x+1,hlt,by omega,by go_num,by go_num,hid (by rw[HT.out,HXJ.out];rfl),by first|rfl|trivial⟩
     case measure=>simp[intOf];omega
    ·have e2:(ph==2)=false:=beq_eq_false_iff_ne.2 hp2
     have HP:=hid hp2;clear hp2;go_wp2_with fail;go_roundw
     case rel=>exact⟨j+1,x,hlt,by omega,by go_num,rfl,hid (by rw[HT.out,HXJ.out,if_neg HP.out];rfl),by first|rfl|trivial⟩
     case measure=>simp[intOf];omega
   ·obtain rfl:nl=j:=by omega
    have e1:decide ((nl:Int)<(nl:Int))=false:=decide_eq_false (by omega);have e1':decide (nl<nl)=false:=decide_eq_false (by omega);obtain⟨nE,hnE⟩:∃n,n=x:=⟨_,rfl⟩;rw[<- hnE] at hxj |-;have HNE:Hid (nE=enN st2):=hid (by rw[hnE,HXJ.out,List.take_of_length_le (by rw[<- HO.out.2.1];exact Nat.le_refl _)]);clear HXJ hnE;go_wp2_with fail;clear p9;go_loopw [12,15] (fun v12 v15 wr=>∃j x:Nat,j<=nb/\x<=j/\v15 = .int .i64 (j:Int)/\v12 = .int .i64 (x:Int)/\Hid (x=begN st (T.obs.take j))/\Hold w wr (blkA 42 gR (resC C y (.slice (some ⟨gT,0,none⟩) 1 ct) (.slice As nl cs) (.slice Ae ne ce) (.slice (some ⟨go,oo,none⟩) 1 co))*(rowT 52 9 (.slice As nl cs) nl (stL st2)*(rowT 63 11 (.slice (some ⟨gT,0,none⟩) 1 ct) 1 (tsF (fun _=>p) (fun _=>T) 1)*(queA 53 (.slice (some ⟨go,oo,none⟩) 1 co) [.slice Ab nb cb]*(rowT 55 3 (.slice Ab nb cb) nb (obL T.obs)*Asr.emp)))))) (fun _ v _=>nb - (intOf v).toNat)
    case atStart=>exact⟨0,0,Nat.zero_le _,Nat.le_refl _,rfl,rfl,hid rfl,HH.out⟩
    case round =>
     clear HH p8 p11;obtain⟨j,x,hj,hxj2,rfl,rfl,HXJ,h⟩:=hrel;have p11:=h.blk.some_ (i:=11) rfl;have qo:wr.cell? ⟨go,oo,none⟩=some (.slice Ab nb cb):=(h.pk4 [3]).queAt (ad:=⟨go,oo,none⟩) (k:=0) rfl
     by_cases hlt:j<nb
     ·have e3:decide ((j:Int)<(nb:Int))=true:=decide_eq_true (by omega)
      have e3':decide (j<nb)=true:=decide_eq_true hlt;have i0:(0:Int)<=(j:Int):=by omega
      have i1:(j:Int)<(nb:Int):=by omega
      obtain⟨z,hz⟩:∃z,T.obs[j]?=some z:=⟨_,List.getElem?_eq_getElem (by have:=HO.out.2.2;omega)⟩;obtain⟨gB,rfl,hcv,-⟩:=(h.pk5 [4]).rowSBlk (by decide) (by omega);have c0:wr.cell? ⟨gB,j*3,none⟩=_:=hcv _ _ (Zbq T.obs j z 0 _ hz rfl);have c1:=hcv _ _ (Zbq T.obs j z 1 _ hz rfl);have c2:=hcv _ _ (Zbq T.obs j z 2 _ hz rfl);have HT:=hid (Zev (sg:=st) hz);have HNR:=hid (HO.out.1.ok z (List.mem_of_getElem? hz));obtain⟨opc,okd,ovl⟩:=z;dsimp only at c0 c1 c2;have H2:=hid (h.newBlk (t:=55) (cs:=#[.int .i64 opc,.int .i64 okd,.int .u64 ovl]));clear hz hcv h;go_upto_region 19 with fail
      have h2:=H2.out;generalize hW:World.alloc _ _=W3 at h2 |-;generalize wr.heap.size=gq at h2 |-;clear hW H2 c0 c1 c2 qo p11;have d1:=h2.blk.some_ (i:=1) rfl;have d2:=h2.blk.some_ (i:=2) rfl;have HH:=hid h2.drop;clear h2;have HB:Hid ((begO st ⟨opc,okd,ovl⟩:Bool)=(okd==3 || (st && (okd==4 || okd==5)) || (st && okd==7 && ovl==6))):=hid rfl;have hcase:okd=3\/okd=4\/okd=5\/okd=7\/(okd≠3/\okd≠4/\okd≠5/\okd≠7):=by omega
      rcases hcase with rfl|rfl|rfl|rfl|⟨n3,n4,n5,n7⟩
      ·have v5:(ovl==5)=false:=beq_eq_false_iff_ne.2 fun h=>HNR.out ⟨rfl,h⟩
       go_wp2_with fail;go_roundw
       case rel=>exact⟨j+1,x+1,hlt,by omega,by go_num,by first|rfl|go_num,hid (by rw[HT.out,HXJ.out,HB.out];simp),HH.out⟩
       case measure=>simp[intOf];omega
      ·cases st
       ·skip
        go_wp2_with fail;go_roundw
        case rel=>exact⟨j+1,x,hlt,by omega,by go_num,by first|rfl|go_num,hid (by rw[HT.out,HXJ.out,HB.out];simp),HH.out⟩
        case measure=>simp[intOf];omega
       ·skip
        go_wp2_with fail;go_roundw
        case rel=>exact⟨j+1,x+1,hlt,by omega,by go_num,by first|rfl|go_num,hid (by rw[HT.out,HXJ.out,HB.out];simp),HH.out⟩
        case measure=>simp[intOf];omega
      ·cases st
       ·skip
        go_wp2_with fail;go_roundw
        case rel=>exact⟨j+1,x,hlt,by omega,by go_num,by first|rfl|go_num,hid (by rw[HT.out,HXJ.out,HB.out];simp),HH.out⟩
        case measure=>simp[intOf];omega
       ·skip
        go_wp2_with fail;go_roundw
        case rel=>exact⟨j+1,x+1,hlt,by omega,by go_num,by first|rfl|go_num,hid (by rw[HT.out,HXJ.out,HB.out];simp),HH.out⟩
        case measure=>simp[intOf];omega
      ·cases st
       ·skip
        go_wp2_with fail;go_roundw
        case rel=>exact⟨j+1,x,hlt,by omega,by go_num,by first|rfl|go_num,hid (by rw[HT.out,HXJ.out,HB.out];simp),HH.out⟩
        case measure=>simp[intOf];omega
       ·by_cases hv:ovl=6
        ·subst hv
         go_wp2_with fail;go_roundw
         case rel=>exact⟨j+1,x+1,hlt,by omega,by go_num,by first|rfl|go_num,hid (by rw[HT.out,HXJ.out,HB.out];simp),HH.out⟩
         case measure=>simp[intOf];omega
        ·have v6:(ovl==6)=false:=beq_eq_false_iff_ne.2 hv
         have HV:=hid v6;go_wp2_with fail;go_roundw
         case rel=>exact⟨j+1,x,hlt,by omega,by go_num,by first|rfl|go_num,hid (by rw[HT.out,HXJ.out,HB.out];simp[HV.out]),HH.out⟩
         case measure=>simp[intOf];omega
      ·have b3:(okd==3)=false:=beq_eq_false_iff_ne.2 n3
       have b4:(okd==4)=false:=beq_eq_false_iff_ne.2 n4;have b5:(okd==5)=false:=beq_eq_false_iff_ne.2 n5;have b7:(okd==7)=false:=beq_eq_false_iff_ne.2 n7;have HN4:=hid (And.intro b3 (And.intro b4 (And.intro b5 b7)));clear n3 n4 n5 n7
       cases st
       ·skip
        go_wp2_with fail;go_roundw
        case rel=>exact⟨j+1,x,hlt,by omega,by go_num,by first|rfl|go_num,hid (by rw[HT.out,HXJ.out,HB.out];simp[HN4.out.1]),HH.out⟩
        case measure=>simp[intOf];omega
       ·skip
        go_wp2_with fail;go_roundw
        case rel=>exact⟨j+1,x,hlt,by omega,by go_num,by first|rfl|go_num,hid (by rw[HT.out,HXJ.out,HB.out];simp[HN4.out.1,HN4.out.2.1,HN4.out.2.2.1,HN4.out.2.2.2]),HH.out⟩
        case measure=>simp[intOf];omega
     ·obtain rfl:nb=j:=by omega
      have e3:decide ((nb:Int)<(nb:Int))=false:=decide_eq_false (by omega);have e3':decide (nb<nb)=false:=decide_eq_false (by omega);have hEB:x=nE:=by
       rw[HXJ.out,HNE.out,List.take_of_length_le (by rw[<- HO.out.2.2];exact Nat.le_refl _),<- HA.out.2];exact HO.out.1.n
      subst hEB;have p8:=h.blk.some_ (i:=8) rfl;have pd:wr.cell? ⟨gT,10,none⟩=some (.bool true):=by
       obtain⟨g9,hA9,hc9,_⟩:=(h.pk3 [2]).rowSBlk (by decide) (by decide);obtain rfl:gT=g9:=by injection hA9 with h;injection h
       exact hc9 10 _ HE.out
      have HAW:=hid (awake21_any HF.out h);clear h HXJ HNE;go_wp2_with fail;refine HAW.out.mono ?_;rintro e w' ⟨rfl,h⟩;clear HAW p8 p11 pd qo;go_wp2_with fail;go_ret;exact⟨rfl,h.below⟩
 ·have hd:decide ((60:Int)<(len:Int))=true:=decide_eq_true (by omega)
  have hd':decide (60<len)=true:=decide_eq_true (by omega);have HAW:=hid (awake21_any hF h0);clear hF hk h0;go_enter Tryz.func5,Tryz.ntmps5;go_wp2_with fail;refine HAW.out.mono ?_;rintro e w' ⟨rfl,h⟩;clear HAW;go_wp2_with fail;go_ret;exact⟨rfl,h.below⟩
end Go.Proofs.YtmlfangeanmmeaaGreatDoor
