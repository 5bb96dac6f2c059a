/-
 What the proof of TopAlone leans on, part 31 of 49: Oa, Ob, Oc, Od, Oe, Na, Th2. No statement of its own.
-/
import Derived.Test.YtmlfangeanmmeaaGreatDoorAm28
import Derived.Test.YtmlfangeanmmeaaGreatDoorAm30
set_option maxHeartbeats 16000000
set_option maxRecDepth 8000
set_option linter.unusedVariables false
namespace Go.Proofs.YtmlfangeanmmeaaGreatDoor
open Go.RowKit
theorem Z49 {α:Type} {l:List α} (h:0<l.length):∃a t,l=a::t:=by
 cases l with
 | nil=>exact absurd h (Nat.lt_irrefl 0)
 | cons a t=>exact⟨a,t,rfl⟩
theorem Zbr {os:List Int} (hp:os.Pairwise (· < ·)) {i:Nat} {o:Int} (h:os[i]?=some o):o ∉ os.take i:=by
 intro hm;obtain⟨j,hj,he⟩:=List.mem_iff_getElem.1 hm;obtain⟨hi,h2⟩:=List.getElem?_eq_some_iff.1 h;rw[List.length_take] at hj;rw[List.getElem_take] at he;have:=List.pairwise_iff_getElem.1 hp j i (by omega) hi (by omega);omega
section
variable {w0 w:World} {R F:Asr} {g m s:Nat} {c:Cfg} {sg:Bool}
theorem s_re (hc:CfA c) (hs:s<=900) (r:Nat):Stp g m c sg s (.re r) 18 (fun P=>P = .st\/P = .pa\/∃r',r'<r/\P = .re r'):=by
 rintro q ⟨K,hp,hat,htu,hre,⟨hz,hv,hr⟩,hzr,hy,hn⟩;obtain⟨z,zs,ez⟩:=Z49 (l:=q.zs) (by omega);obtain⟨v,vs,ev⟩:=Z49 (l:=q.vs) (by omega);rw[ez] at hz hzr;rw[ev] at hv;have hzl:zs.length+1=r:=hz;have hvl:vs.length+1=r:=hv;have hck:=K.ckr;have hzb:=hzr z (by simp);have ho:c.orecs<=64:=hc.s.orecs.2;obtain⟨B,hB,M,hvs⟩:∃B,(q.cm=true/\B=q.ck+1\/q.cm=false/\B=q.ck)/\MI c q.ck (q.t+1) q.t B (z::zs) q.C/\∀v'∈v::vs,FrW B v':=by
  cases hcm:q.cm with
  | true=>obtain⟨_,_,_,_,_,h1,h2⟩:=hy hcm;rw[ev] at h1;rw[ez] at h2;exact⟨_,.inl ⟨rfl,rfl⟩,h2,h1⟩
  | false=>obtain⟨_,h1,h2⟩:=hn hcm;rw[ev] at h1;rw[ez] at h2;exact⟨_,.inr ⟨rfl,rfl⟩,h2,h1⟩
 have hvB:=hvs v (by simp);have M2:MI c q.ck (q.t+1) q.t B zs (opC q.C 2 z v true):=M.orcSet hzb.1 hzb.2 (Int.le_refl _) ⟨hvB.1,hvB.2.2,.inl hvB.2.1⟩ fun o ho hne=>by
  rcases List.mem_cons.1 ho with h|h
  ·exact absurd h hne
  ·exact h
 have hvs2:∀v'∈vs,FrW B v':=fun v' h=>hvs v' (List.mem_cons_of_mem _ h);refine⟨opA q.C 2 2 z v true,fun w0 w F h=>?_⟩;refine Z6f h hat (stD (l:=ps g m c q (.re r)) (F:=F) (Q:=fun P:{P:AP // P = .st\/P = .pa\/∃r',r'<r/\P = .re r'}=>aS g m c sg (s+1) P.1) fun w' F' h=>?_);have h1:=h.pkS 10 [0,9,1,2,3,4,5,6,7,8];have h1:Hold w0 w' (sepR [atA g c q.x,reA q.gw (z::zs) (v::vs),memA m q.C,lgA q.x.log q.L,queA 3 q.x.allocs (iL q.al),queA 3 q.x.frees (iL q.fr),queA 3 q.x.seen (iL q.sn),stA q.x.set (Z09 c.reads) q.xs,enA q.ge 0 3 q.rv,tuA q.gt true q.t true] F'):=by rw[<- ez,<- ev];exact h1
 by_cases hl:zs=[]
 ·subst hl
  rcases hB with⟨hcm,rfl⟩|⟨hcm,rfl⟩
  ·obtain⟨a1,a2,a3,a4,a5,_,_⟩:=hy hcm
   refine(Z3h h1 hre M.ok ⟨by omega,by omega⟩ rfl rfl rfl rfl ⟨hck.1,by omega⟩ a1 a2 a3).mono ?_;rintro e w'' ⟨_,rfl,h2⟩;exact⟨⟨.st,.inl rfl⟩,rfl,Z0c {q with x:={q.x with at_:=11},C:=opC q.C 2 z v true} ⟨K.up,hp,rfl,htu,a4,a5,M2⟩ (h2.pk10 [0,2,3,4,5,6,7,8,9])⟩
  ·obtain⟨a1,_,_⟩:=hn hcm
   refine(Z3u h1 hre M.ok ⟨by omega,by omega⟩ rfl rfl rfl rfl ⟨hck.1,by omega⟩ (fun h=>by rw[a1] at h;exact absurd h.2.1 (by decide))).mono ?_;rintro e w'' ⟨_,rfl,h2⟩;exact⟨⟨.pa,.inr (.inl rfl)⟩,rfl,Z0c {q with x:={q.x with at_:=12},C:=opC q.C 2 z v true} ⟨K.up,hp,rfl,htu,M2⟩ (h2.pk10 [0,2,3,4,5,6,7,8,9])⟩
 ·have hlp:0<zs.length:=List.length_pos_iff.2 hl
  refine(Z3v h1 hre M.ok ⟨by omega,by omega⟩ rfl rfl hl).mono ?_;rintro e w'' ⟨_,rfl,h2⟩;refine⟨⟨.re (r - 1),.inr (.inr ⟨r - 1,by omega,rfl⟩)⟩,rfl,Z0c {q with C:=opC q.C 2 z v true,zs:=zs,vs:=vs} ⟨K.up,hp,hat,htu,hre,⟨by show zs.length=r - 1;omega,by show vs.length=r - 1;omega,by omega⟩,fun o h=>hzr o (List.mem_cons_of_mem _ h),fun hcm=>?_,fun hcm=>?_⟩ (h2.pk10 [0,2,3,4,5,6,7,8,9,1])⟩
  ·obtain⟨a1,a2,a3,a4,a5,_,_⟩:=hy hcm
   rcases hB with⟨_,rfl⟩|⟨h,_⟩
   ·exact⟨a1,a2,a3,a4,a5,hvs2,M2⟩
   ·exact absurd (hcm.symm.trans h) (by decide)
  ·obtain⟨a1,_,_⟩:=hn hcm
   rcases hB with⟨h,_⟩|⟨_,rfl⟩
   ·exact absurd (hcm.symm.trans h) (by decide)
   ·exact⟨a1,hvs2,M2⟩
theorem s_wr (hc:CfA c) (hs:s<=900) (r:Nat):Stp g m c sg s (.wr r) 17 (fun P=>(∃r',r'<=8/\P = .re r')\/∃r',r'<r/\P = .wr r'):=by
 rintro q ⟨K,hp,hat,htu,hcd,hL,⟨A,cp,ho⟩,⟨hn0,hn8⟩,hor,hwr,hcl,hck,hdc,⟨hz,hv,hr⟩,hzr,M⟩;obtain⟨z,zs,ez⟩:=Z49 (l:=q.zs) (by omega);obtain⟨v,vs,ev⟩:=Z49 (l:=q.vs) (by omega);rw[ez] at hz hzr;rw[ev] at hv;have hzl:zs.length+1=r:=hz;have hvl:vs.length+1=r:=hv;have hckr:=M.ck.2;have hzb:=hzr z (by simp);have hwd:=hc.s.words;have hn4:=nbl4 hc.s;have M2:MI c q.ck (q.t+1) q.t q.ck q.os (opC q.C 1 z v true):=M.side (.inl rfl);refine⟨opA q.C 2 1 z v true,fun w0 w F h=>?_⟩;refine Z8a h hat (stD (l:=ps g m c q (.wr r)) (F:=F) (Q:=fun P:{P:AP // (∃r',r'<=8/\P = .re r')\/∃r',r'<r/\P = .wr r'}=>aS g m c sg (s+1) P.1) fun w' F' h=>?_);have h1:=h.pkS 11 [0,9,1,2,10,3,4,5,6,7,8];have h1:Hold w0 w' (sepR [atA g c q.x,wrA q.gw (z::zs) (v::vs),memA m q.C,lgA q.x.log q.L,queA 3 (.slice A q.os.length cp) (iL q.os),queA 3 q.x.allocs (iL q.al),queA 3 q.x.frees (iL q.fr),queA 3 q.x.seen (iL q.sn),stA q.x.set (Z09 c.reads) q.xs,enA q.ge 0 3 q.rv,tuA q.gt true q.t true] F'):=by rw[<- ez,<- ev,<- ho];exact h1
 by_cases hl:zs=[]
 ·subst hl
  refine(Z4r h1 hwr M.ok ⟨by omega,by omega⟩ rfl rfl rfl rfl ⟨by omega,by omega⟩ hdc hcd hL ho rfl hn0 (by omega) rfl).mono ?_;rintro e w'' ⟨gr2,rfl,h2⟩;refine⟨⟨.re q.os.length,.inl ⟨_,hn8,rfl⟩⟩,rfl,Z0c (P:=.re q.os.length) {q with x:={q.x with at_:=10,release:=ptrV gr2},C:=opC q.C 1 z v true,gw:=gr2,zs:=q.os,vs:=List.replicate q.os.length ((q.x.clock+1)*64),cm:=true} ⟨K.up,hp,rfl,htu,rfl,⟨rfl,List.length_replicate,hn0⟩,hor,fun _=>⟨hdc,hcd,hL,hcl,hck,fun v' hv'=>?_,M2.wid (by show q.ck<=q.ck+1;omega)⟩,fun h=>absurd (show true=false from h) (by decide)⟩ (h2.pk12 [0,3,4,6,7,8,9,10,11,1])⟩;have e:=List.eq_of_mem_replicate hv';rw[e];refine⟨by omega,by omega,?_⟩;show (q.x.clock+1)*64 / 64<=q.ck+1;omega
 ·have hlp:0<zs.length:=List.length_pos_iff.2 hl
  refine(Z4q h1 hwr M.ok ⟨by omega,by omega⟩ rfl rfl hl).mono ?_;rintro e w'' ⟨_,rfl,h2⟩;rw[<- ho] at h2;exact⟨⟨.wr (r - 1),.inr ⟨r - 1,by omega,rfl⟩⟩,rfl,Z0c (P:=.wr (r - 1)) {q with C:=opC q.C 1 z v true,zs:=zs,vs:=vs} ⟨K.up,hp,hat,htu,hcd,hL,⟨A,cp,ho⟩,⟨hn0,hn8⟩,hor,hwr,hcl,hck,hdc,⟨by show zs.length=r - 1;omega,by show vs.length=r - 1;omega,by omega⟩,fun o h=>hzr o (List.mem_cons_of_mem _ h),M2⟩ (h2.pk11 [0,2,3,5,6,7,8,9,10,1,4])⟩
theorem s_ck (hc:CfA c) (hs:s<=900) (r:Nat):Stp g m c sg s (.ck r) 15 (fun P=>P = .de\/∃r',r'<r/\P = .ck r'):=by
 rintro q ⟨⟨K,hp,hrv,htu,hlf,M⟩,hat,hch,⟨hz,hr⟩,hzr⟩;obtain⟨z,zs,ez⟩:=Z49 (l:=q.zs) (by omega);rw[ez] at hz hzr;have hzl:zs.length+1=r:=hz;have hckr:=M.ck.2;have hzb:=hzr z (by simp);have ho:c.orecs<=64:=hc.s.orecs.2;have hg:=Z1z (v:=valC q.C 2 z) (d:=true) (M.has2 hzb.1 hzb.2) 1;obtain⟨g0,g1,_⟩:=M.orc z hzb.1 hzb.2;refine⟨opA q.C 1 2 z (valC q.C 2 z) true,fun w0 w F h=>?_⟩;refine Z8b h hat (stD (l:=ps g m c q (.ck r)) (F:=F) (Q:=fun P:{P:AP // P = .de\/∃r',r'<r/\P = .ck r'}=>aS g m c sg (s+1) P.1) fun w' F' h=>?_);have h1:=h.pkS 11 [0,10,1,2,3,4,5,6,7,8,9];have h1:Hold w0 w' (sepR [atA g c q.x,chkA q.gw (z::zs) q.rv false,memA m q.C,lgA q.x.log q.L,queA 3 q.x.allocs (iL q.al),queA 3 q.x.frees (iL q.fr),queA 3 q.x.seen (iL q.sn),stA q.x.set (Z09 c.reads) q.xs,enA q.ge 0 3 q.rv,tuA q.gt true q.t true,lokP q] F'):=by rw[<- ez];exact h1
 by_cases hl:zs=[]
 ·refine(Z4v h1 hch M.ok ⟨by omega,by omega⟩ rfl (by rw[hg];omega) (by rw[hg];omega) hl).mono ?_
  rintro e w'' ⟨_,rfl,h2⟩;exact⟨⟨.de,.inl rfl⟩,rfl,Z0c (P:=.de) {q with x:={q.x with at_:=8}} ⟨⟨K.up,hp,hrv,htu,hlf,M⟩,rfl⟩ (h2.pk11 [0,2,3,4,5,6,7,8,9,10])⟩
 ·have hlp:0<zs.length:=List.length_pos_iff.2 hl
  refine(Z4u h1 hch M.ok ⟨by omega,by omega⟩ rfl (by rw[hg];omega) (by rw[hg];omega) hl).mono ?_;rintro e w'' ⟨_,rfl,h2⟩;exact⟨⟨.ck (r - 1),.inr ⟨r - 1,by omega,rfl⟩⟩,rfl,Z0c (P:=.ck (r - 1)) {q with zs:=zs} ⟨⟨K.up,hp,hrv,htu,hlf,M⟩,hat,hch,⟨by show zs.length=r - 1;omega,by omega⟩,fun o h=>hzr o (List.mem_cons_of_mem _ h)⟩ (h2.pk11 [0,2,3,4,5,6,7,8,9,10,1])⟩
theorem s_tw (hc:CfA c) (hs:s<=900):Stp g m c sg s .tw 14 (fun P=>P = .de\/∃r',r'<=6/\P = .ck r'):=by
 rintro q ⟨⟨K,hp,hrv,htu,hlf,M⟩,hat⟩;have hckr:=M.ck.2;have hx6:=K.xsl;have hrd:=hc.rd;refine⟨⟨1,5,0,valC q.C 5 0,valC q.C 5 0,true⟩,fun w0 w F h=>?_⟩;refine Z5c h hat (stD (l:=ps g m c q .tw) (F:=F) (Q:=fun P:{P:AP // P = .de\/∃r',r'<=6/\P = .ck r'}=>aS g m c sg (s+1) P.1) fun w' F' h=>?_);have h1:=h.pkS 10 [0,8,1,6,7,2,3,4,5,9]
 by_cases hl:q.xs=[]
 ·refine(Z5j h1 htu M.ok rfl M.sv rfl K.ent ⟨by omega,by omega⟩ (by omega) hl).mono ?_
  rintro e w'' ⟨gk,rfl,h2⟩;exact⟨⟨.de,.inl rfl⟩,rfl,Z0c (P:=.de) {q with x:={q.x with check:=ptrV gk,at_:=8}} ⟨⟨K.up,hp,hrv,htu,hlf,M⟩,rfl⟩ (h2.pk11 [0,3,6,7,8,9,4,5,2,10])⟩
 ·have hlp:0<q.xs.length:=List.length_pos_iff.2 hl
  refine(Z5k h1 htu M.ok rfl M.sv rfl K.ent ⟨by omega,by omega⟩ (by omega) hl).mono ?_;rintro e w'' ⟨gk,rfl,h2⟩;exact⟨⟨.ck q.xs.length,.inr ⟨_,by omega,rfl⟩⟩,rfl,Z0c (P:=.ck q.xs.length) {q with x:={q.x with check:=ptrV gk,at_:=7},gw:=gk,zs:=q.xs} ⟨⟨K.up,hp,hrv,htu,hlf,M⟩,rfl,rfl,⟨rfl,hlp⟩,K.xsr⟩ (h2.pk11 [0,3,6,7,8,9,4,5,2,10,1])⟩
theorem s_tk (hc:CfA c) (hs:s<=900):Stp g m c sg s .tk 13 (fun P=>P = .tw):=by
 rintro q ⟨⟨K,hp,hrv,htu,hlf,M⟩,hat⟩;have hb:=K.tb;have hw:IntKind.u64.wrap (valC q.C 4 0+1)=q.t+1:=by
  rw[M.nx.1];show (q.t+1)%18446744073709551616=q.t+1;omega
 have M2:MI c q.ck (q.t+1) q.t q.ck (if q.hl then q.os else []) (opC q.C 4 0 (q.t+1) true):=M.take ⟨by omega,by omega⟩;refine⟨⟨4,4,0,valC q.C 4 0,IntKind.u64.wrap (valC q.C 4 0+1),true⟩,fun w0 w F h=>?_⟩;refine Z5c h hat (stD (l:=ps g m c q .tk) (F:=F) (Q:=fun P:{P:AP // P = .tw}=>aS g m c sg (s+1) P.1) fun w' F' h=>?_);refine(Z5i (h.pkS 10 [0,8,1,2,3,4,5,6,7,9]) htu M.ok rfl rfl).mono ?_;rintro e w'' ⟨_,rfl,h2⟩;have h2:Hold w0 w'' (sepR [atA g c q.x,tuA q.gt true q.t false,memA m (opC q.C 4 0 (q.t+1) true),lgA q.x.log q.L,queA 3 q.x.allocs (iL q.al),queA 3 q.x.frees (iL q.fr),queA 3 q.x.seen (iL q.sn),stA q.x.set (Z09 c.reads) q.xs,enA q.ge 0 3 q.rv,lokP q] F'):=by
  rw[<- hw,show tuA q.gt true q.t false=tuA q.gt true (valC q.C 4 0) false by rw[M.nx.1]];exact h2
 exact⟨⟨.tw,rfl⟩,rfl,Z0c (P:=.tw) {q with C:=opC q.C 4 0 (q.t+1) true} ⟨⟨K.up,hp,hrv,htu,hlf,M2⟩,hat⟩ (h2.pkS 10 [0,2,3,4,5,6,7,8,1,9])⟩
theorem Zlc (hc:CfA c) (hs:s<=900) (r:Nat):Stp g m c sg s (.lk r false) 11 (fun P=>P = .lk r true):=by
 rintro q ⟨K,hp,hrv,hat,hcd,hL,hlk,hso,ho8,hor,hpw,⟨hr,hr0⟩,hov,M,_⟩;have hl:q.old.length<q.os.length:=by omega
 obtain⟨o,eo⟩:∃o,q.os[q.old.length]?=some o:=⟨_,List.getElem?_eq_getElem hl⟩;have hob:=hor o (List.mem_of_getElem? eo);have hckr:=M.ck.2;have ho64:c.orecs<=64:=hc.s.orecs.2;have hH:=M.has2 hob.1 hob.2;have hg:=Z1z (v:=valC q.C 2 o) (d:=true) hH 1;obtain⟨g0,g1,g2⟩:=M.orc o hob.1 hob.2;have g3:valC q.C 2 o%64=0:=g2.resolve_right (Zbr hpw eo);refine⟨opA q.C 1 2 o (valC q.C 2 o) true,fun w0 w F h=>?_⟩;refine Z5d h hat (stD (l:=ps g m c q (.lk r false)) (F:=F) (Q:=fun P:{P:AP // P = .lk r true}=>aS g m c sg (s+1) P.1) fun w' F' h=>?_);refine(Z5m (h.pkS 10 [0,8,1,2,3,4,5,6,7,9]) hlk M.ok eo ⟨by omega,by omega⟩ (by rw[hg];omega) rfl (Z7k hH 1)).mono ?_;rintro e w'' ⟨_,rfl,h2⟩;rw[hg,decide_eq_true g3] at h2;exact⟨⟨.lk r true,rfl⟩,rfl,Z0c (P:=.lk r true) {q with s1:=valC q.C 2 o} ⟨K.up,hp,hrv,hat,hcd,hL,hlk,hso,ho8,hor,hpw,⟨hr,hr0⟩,hov,M,fun _ o' h=>by show valC q.C 2 o=_;rw[Option.some.inj (eo.symm.trans h)]⟩ (h2.pk10 [0,2,3,4,5,6,7,8,1,9])⟩
theorem Zlb (hc:CfA c) (hs:s<=900) (r:Nat):Stp g m c sg s (.lk r true) 12 (fun P=>P = .tk\/1<r/\P = .lk (r - 1) false):=by
 rintro q ⟨K,hp,hrv,hat,hcd,hL,hlk,hso,ho8,hor,hpw,⟨hr,hr0⟩,hov,M,hsn⟩;have hl:q.old.length<q.os.length:=by omega
 obtain⟨o,eo⟩:∃o,q.os[q.old.length]?=some o:=⟨_,List.getElem?_eq_getElem hl⟩;have hs1:=hsn rfl o eo;have hob:=hor o (List.mem_of_getElem? eo);have hckr:=M.ck.2;have ho64:c.orecs<=64:=hc.s.orecs.2;have hH:=M.has2 hob.1 hob.2;obtain⟨g0,g1,g2⟩:=M.orc o hob.1 hob.2;have g3:valC q.C 2 o%64=0:=g2.resolve_right (Zbr hpw eo);rw[<- hs1] at g0 g1 g3;have hbe:(valC q.C 2 o==q.s1)=true:=beq_iff_eq.2 hs1.symm;have hdn:(opA q.C 3 2 o (q.s1+0+1) (valC q.C 2 o==q.s1)).done=true:=by rw[Z5s hH 3,hbe]
 have hold:oldN (opA q.C 3 2 o (q.s1+0+1) (valC q.C 2 o==q.s1)).done q.old q.s1=q.old++[q.s1]:=by rw[hdn];rfl
 have htk:q.os.take (q.old.length+1)=q.os.take q.old.length++[o]:=by
  obtain⟨h10,h11⟩:=List.getElem?_eq_some_iff.1 eo;rw[<- h11];exact(List.take_append_getElem h10).symm
 have M2:MI c q.ck q.t q.t q.ck (q.os.take (q.old++[q.s1]).length) (opC q.C 2 o (q.s1+0+1) (valC q.C 2 o==q.s1)):=by
  rw[hbe,List.length_append,show [q.s1].length=1 from rfl,htk];exact M.orcSet hob.1 hob.2 (Int.le_refl _) ⟨by omega,by omega,.inr (by simp)⟩ fun o' h _=>List.mem_append_left _ h
 have hov2:∀v∈q.old++[q.s1],FrW q.ck v:=fun v hv=>by
  rcases List.mem_append.1 hv with h|h
  ·exact hov v h
  ·rw[List.mem_singleton.1 h];exact⟨g0,g3,g1⟩
 have hln:(q.old++[q.s1]).length=q.old.length+1:=by simp
 refine⟨opA q.C 3 2 o (q.s1+0+1) (valC q.C 2 o==q.s1),fun w0 w F h=>?_⟩;refine Z5d h hat (stD (l:=ps g m c q (.lk r true)) (F:=F) (Q:=fun P:{P:AP // P = .tk\/1<r/\P = .lk (r - 1) false}=>aS g m c sg (s+1) P.1) fun w' F' h=>?_);have h1:=h.pkS 10 [0,8,1,2,3,4,5,6,7,9]
 by_cases hr1:r=1
 ·refine(Z5n h1 hlk M.ok eo ⟨by omega,by omega⟩ ⟨g0,by omega⟩ ⟨by decide,by decide⟩ rfl rfl (by omega) rfl hold (Z7k hH 3) (by rw[hln];omega)).mono ?_
  rintro e w'' ⟨gt,rfl,h2⟩;have hln2:(q.old++[q.s1]).length=q.os.length:=by rw[hln];omega
  rw[hln2,List.take_length] at M2;have h2:Hold w0 w'' (sepR [atA g c {q.x with at_:=6,turn:=ptrV gt},memA m (opC q.C 2 o (q.s1+0+1) (valC q.C 2 o==q.s1)),lgA q.x.log q.L,queA 3 q.x.allocs (iL q.al),queA 3 q.x.frees (iL q.fr),queA 3 q.x.seen (iL q.sn),stA q.x.set (Z09 c.reads) q.xs,enA q.ge 0 3 q.rv,tuA gt false 0 false,lkA q.gk 0 q.os (q.old++[q.s1]) false q.s1,queA 3 q.x.orecs (iL q.os)] F'):=h2.pk11 [0,3,4,5,6,7,8,9,1,2,10];refine⟨⟨.tk,.inl rfl⟩,rfl,Z0c (P:=.tk) {q with x:={q.x with at_:=6,turn:=ptrV gt},gt:=gt,C:=opC q.C 2 o (q.s1+0+1) (valC q.C 2 o==q.s1),old:=q.old++[q.s1],hl:=true} ⟨⟨K.up,hp,hrv,rfl,⟨fun _=>⟨hcd,hL,hlk,hso,hln2,⟨by show 0<q.os.length;omega,ho8⟩,hor,hov2⟩,fun h=>absurd (show true=false from h) (by decide)⟩,M2⟩,rfl⟩ ?_⟩;exact h2.imp (Imp.under _ (Imp.under _ (Imp.under _ (Imp.under _ (Imp.under _ (Imp.under _ (Imp.under _ (Imp.under _ (Imp.under _ (Imp.assoc' _ _ _))))))))))
 ·refine(Z5l h1 hlk M.ok eo ⟨by omega,by omega⟩ ⟨g0,by omega⟩ ⟨by decide,by decide⟩ rfl rfl (by omega) rfl hold (Z7k hH 3) (by rw[hln];omega)).mono ?_
  rintro e w'' ⟨_,rfl,h2⟩;exact⟨⟨.lk (r - 1) false,.inr ⟨by omega,rfl⟩⟩,rfl,Z0c (P:=.lk (r - 1) false) {q with C:=opC q.C 2 o (q.s1+0+1) (valC q.C 2 o==q.s1),old:=q.old++[q.s1]} ⟨K.up,hp,hrv,hat,hcd,hL,hlk,hso,ho8,hor,hpw,⟨by show r - 1+(q.old++[q.s1]).length=q.os.length;rw[hln];omega,by omega⟩,hov2,M2,fun h=>absurd h (by decide)⟩ (h2.pk10 [0,2,3,4,5,6,7,8,1,9])⟩
end
def okA (P:AP):Prop:=P = .idle\/P = .tk\/P = .lv\/∃r,r<=6/\P = .pu r
theorem okF.okA {n:Nat} {P:AP} (h:okF n P) (hn:n<=2):okA P:=by
 rcases h with h|⟨_,h⟩
 ·exact .inr (.inr (.inl h))
 ·exact .inr (.inr (.inr ⟨_,by omega,h⟩))
theorem cdf {sg:Bool} {st:Nat} {v:Int} (hsg:sg=false) (hv:v≠5/\v≠9/\0<=v/\v<=8):Zcs sg st v:=⟨hv,fun _ h=>absurd (hsg.symm.trans h) (by decide)⟩
theorem cd1 {sg:Bool} {st:Nat}:Zcs sg st 1:=⟨by decide,fun _ _=>.inl rfl⟩
theorem n3:(3:Int)≠5/\(3:Int)≠9/\(0:Int)<=3/\(3:Int)<=8:=by decide
theorem n4:(4:Int)≠5/\(4:Int)≠9/\(0:Int)<=4/\(4:Int)<=8:=by decide
theorem Zdz {sg:Bool} {p:Prop} (h:sg=true->p) (hp:¬ p):sg=false:=by cases sg with|false=>rfl|true=>exact absurd (h rfl) hp
section
variable {w0 w:World} {R F:Asr} {g m s:Nat} {c:Cfg} {sg:Bool}
theorem locD {ι:Type} {Q:ι->Asr} {x':AtR} {l:List Asr} {f:FuncId} {cs:Array Value} (hs:∀w' F',Hold w0 w' (sepR (atA g c x'::l) F')->Calls Tryz.prog f cs w' fun e w2=>e = .returned (.tuple #[])/\∃i,Hold w0 w2 (Q i*F')) :
  ∀w' gr,Hold w0 w' (atA g c x'*(blkA 50 gr (acD acc0)*sepR l F))->Calls Tryz.prog f cs w' fun e w''=>e = .returned (.tuple #[])/\∃i,Hold w0 w'' (blkA 50 gr (acD acc0)*(Q i*F)):=fun w' gr h=>by
 refine(hs w' _ (h.imp (Imp.under _ (Imp.late _ _ _)))).mono ?_;rintro e w'' ⟨h1,i,h2⟩;exact⟨h1,i,h2.imp (Imp.swap _ _ _)⟩
theorem Zcd (q:QD) (E:EF c sg s q) (hrv:q.rv=q.ck) (v:Int) (gt:Nat) (hv:Zcs sg 1 v) (hns:(v==1 && decide (0<(q.L.addrs.length:Int)))=false)
  (h:Hold w0 w (sepR [atA g c {q.x with code:=v,at_:=6,turn:=ptrV gt},memA m q.C,lgA q.x.log q.L,queA 3 q.x.allocs (iL q.al),queA 3 q.x.frees (iL q.fr),queA 3 q.x.seen (iL q.sn),stA q.x.set (Z09 c.reads) q.xs,enA q.ge 0 3 q.rv,tuA gt false 0 false] F)):Hold w0 w (aS g m c sg s .tk*F):=by
 obtain⟨K,hp,ho,M⟩:=E;exact Z0c (P:=.tk) {q with x:={q.x with code:=v,at_:=6,turn:=ptrV gt},gt:=gt,hl:=false} ⟨⟨{K with cod:=hv},hp,hrv,rfl,⟨fun h=>absurd (show false=true from h) (by decide),fun _=>⟨ho,hns⟩⟩,M⟩,rfl⟩ (h.imp (Imp.under _ (Imp.under _ (Imp.under _ (Imp.under _ (Imp.under _ (Imp.under _ (Imp.under _ (Imp.under _ (Imp.under _ (Imp.Zlv _)))))))))))
theorem Zla (hc:CfA c) (hs:s<=900):Stp g m c sg s .lrd 0 okA:=by
 rintro q ⟨⟨K,hp,ho,M⟩,hat,hrv,hsg,hth⟩;refine⟨acc0,fun w0 w F h=>?_⟩;refine Z1l (Q:=fun P:{P:AP // okA P}=>aS g m c sg (s+1) P.1*F) h hat hth (fun _=>by kernel_rfl) (locD (Q:=fun P:{P:AP // okA P}=>aS g m c sg (s+1) P.1) fun w' F' h=>?_);refine(Zb0 (h.pkS 9 [0,2,8,1,3,4,5,6,7]) rfl).mono ?_;rintro e w2 ⟨gt,rfl,h2⟩;exact⟨rfl,⟨.tk,.inr (.inl rfl)⟩,Zcd q ⟨K.up,hp,ho,M⟩ hrv 7 gt (cdf hsg (by decide)) rfl (h2.pk10 [0,4,2,5,6,7,8,9,1])⟩
theorem Z68 (q:QD) (E:EF c sg s q) (hrv:q.rv=q.ck) (hat:q.x.at_=0) (h:Hold w0 w (sepR (clx g m c q 3 []) F)):Hold w0 w (aS g m c sg s .idle*F):=Z0c (P:=.idle) q ⟨E,hat,hrv⟩ h
theorem Zk1 (hc:CfA c) (hs:s<=900):Stp g m c sg s .lget 0 okA:=by
 rintro q ⟨⟨K,hp,ho,M⟩,hat,hrv,hth⟩;refine⟨acc0,fun w0 w F h=>?_⟩;refine Z1l (Q:=fun P:{P:AP // okA P}=>aS g m c sg (s+1) P.1*F) h hat hth (fun _=>by kernel_rfl) (locD (Q:=fun P:{P:AP // okA P}=>aS g m c sg (s+1) P.1) fun w' F' h=>?_);refine(Zji (h.pkS 11 [0,8,9,10,1,2,3,4,5,6,7])).mono ?_;rintro e w2 ⟨rfl,h2⟩;exact⟨rfl,⟨.idle,.inl rfl⟩,Z68 {q with x:={q.x with at_:=0,value:=q.vl}} ⟨K.up,hp,ho,M⟩ hrv rfl h2⟩
theorem Zle (hc:CfA c) (hs:s<=900):Stp g m c sg s .lal 0 okA:=by
 rintro q ⟨⟨K,hp,ho,M⟩,hat,hrv,hsg,hth⟩;obtain⟨A,cp,ha⟩:=K.als;have ha2:=K.al2;refine⟨acc0,fun w0 w F h=>?_⟩;refine Z1l (Q:=fun P:{P:AP // okA P}=>aS g m c sg (s+1) P.1*F) h hat hth (fun _=>by kernel_rfl) (locD (Q:=fun P:{P:AP // okA P}=>aS g m c sg (s+1) P.1) fun w' F' h=>?_);have h1:Hold w0 w' (sepR [atA g c {q.x with at_:=0},queA 3 (.slice A q.al.length cp) (iL q.al),blkA 108 q.b1 #[ptrV g],memA m q.C,lgA q.x.log q.L,queA 3 q.x.frees (iL q.fr),queA 3 q.x.seen (iL q.sn),stA q.x.set (Z09 c.reads) q.xs,enA q.ge 0 3 q.rv] F'):=by rw[<- ha];exact h.pkS 9 [0,3,8,1,2,4,5,6,7]
 refine(Z6o (k:=0) h1 ha rfl hp (Nat.zero_le _) (by omega) hc.s K.alr).mono ?_;rintro e w2 ⟨rfl,h2⟩;have h2:=h2.asr;rw[<- ha] at h2;obtain⟨⟨P,hP⟩,h3⟩:=Z58 (g:=g) (m:=m) (F:=F') (w0:=w0) (w:=w2) (s:=s+1) {q with x:={q.x with at_:=0,code:=3}} 0 {K.up with cod:=cdf hsg n3} hp (by show (3:Int)≠1;decide) M (h2.pk9 [0,3,4,1,5,6,7,8]);exact⟨rfl,⟨P,hP.okA (by show q.al.length - 0<=2;omega)⟩,h3⟩
theorem Zld (hc:CfA c) (hs:s<=900):Stp g m c sg s .lfr 0 okA:=by
 rintro q ⟨⟨K,hp,ho,M⟩,hat,hrv,hsg,hth⟩;refine⟨acc0,fun w0 w F h=>?_⟩;refine Z1l (Q:=fun P:{P:AP // okA P}=>aS g m c sg (s+1) P.1*F) h hat hth (fun _=>by kernel_rfl) (locD (Q:=fun P:{P:AP // okA P}=>aS g m c sg (s+1) P.1) fun w' F' h=>?_);refine(Z8c (h.pkS 9 [0,2,8,1,3,4,5,6,7]) rfl).mono ?_;rintro e w2 ⟨gt,rfl,h2⟩;exact⟨rfl,⟨.tk,.inr (.inl rfl)⟩,Zcd q ⟨K.up,hp,ho,M⟩ hrv 8 gt (cdf hsg (by decide)) rfl (h2.pk10 [0,4,2,5,6,7,8,9,1])⟩
theorem Zl9 (hc:CfA c) (hs:s<=900):Stp g m c sg s .lwr 0 okA:=by
 rintro q ⟨⟨K,hp,ho,M⟩,hat,hrv,hsg,hth,had0,had1⟩;obtain⟨A,cp,ha⟩:=K.als;have ha2:=K.al2;have hwd:=hc.s.words;refine⟨acc0,fun w0 w F h=>?_⟩;refine Z1l (Q:=fun P:{P:AP // okA P}=>aS g m c sg (s+1) P.1*F) h hat hth (fun _=>by kernel_rfl) (locD (Q:=fun P:{P:AP // okA P}=>aS g m c sg (s+1) P.1) fun w' F' h=>?_)
 by_cases hlt:q.ad<c.words
 ·have h1:Hold w0 w' (sepR [atA g c {q.x with at_:=0},lgA q.x.log q.L,queA 3 (.slice A q.al.length cp) (iL q.al),blkA 108 q.b1 #[ptrV g],blkA 34 q.b2 #[.int .u64 q.ad],blkA 34 q.b3 #[.int .u64 q.vl],memA m q.C,queA 3 q.x.frees (iL q.fr),queA 3 q.x.seen (iL q.sn),stA q.x.set (Z09 c.reads) q.xs,enA q.ge 0 3 q.rv] F'):=by rw[<- ha];exact h.pkS 11 [0,2,3,8,9,10,1,4,5,6,7]
  refine(Z9g h1 (k:=0) (⟨rfl,ha,rfl,hp,Nat.zero_le _,by omega,hc.s,K.alr⟩:AlOk c {q.x with at_:=0} q.x.log A q.al.length cp 0 q.al) K.log.inv had0 hlt).mono ?_;have hlo:LgOk c (putL q.L q.ad q.vl):=K.log.put ⟨had0,by omega⟩ q.vl;rintro e w2 ⟨rfl,⟨_,h2⟩|⟨hno,h2⟩⟩
  ·rw[<- ha] at h2
   exact⟨rfl,⟨.idle,.inl rfl⟩,Z68 {q with x:={q.x with at_:=0},L:=putL q.L q.ad q.vl} ⟨{K.up with log:=hlo,cap:=by rw[Z1e];exact K.cap},hp,ho,M⟩ hrv rfl (h2.pk8 [0,3,1,2,4,5,6,7])⟩
  ·have h2:=h2.asr
   rw[<- ha] at h2;obtain⟨⟨P,hP⟩,h3⟩:=Z58 (g:=g) (m:=m) (F:=F') (w0:=w0) (w:=w2) (s:=s+1) {q with x:={q.x with at_:=0,code:=3},L:=putL q.L q.ad q.vl} 0 {K.up with cod:=cdf (Zdz hsg (fun h=>by rw[h.2] at hno;cases hno)) n3,log:=hlo,cap:=by rw[Z1e];exact K.cap} hp (by show (3:Int)≠1;decide) M (h2.pk8 [0,3,2,1,4,5,6,7]);exact⟨rfl,⟨P,hP.okA (by show q.al.length - 0<=2;omega)⟩,h3⟩
 ·refine(Zaz (h.pkS 11 [0,2,8,9,10,1,3,4,5,6,7]) rfl ⟨by omega,hwd.2⟩ ⟨had0,had1⟩ (by omega)).mono ?_
  rintro e w2 ⟨gt,rfl,h2⟩;exact⟨rfl,⟨.tk,.inr (.inl rfl)⟩,Zcd q ⟨K.up,hp,ho,M⟩ hrv 7 gt (cdf (Zdz hsg (fun h=>hlt h.1)) (by decide)) rfl (h2.pk12 [0,6,2,7,8,9,10,11,1])⟩
theorem Zhq (hc:CfA c) (hsg:sg=false) (q:QD) (E:EF c sg (s+1) q) (hrv:q.rv=q.ck) (hat:q.x.at_=0) {A B:Option Addr} {cp cb:Nat} (ha:q.x.allocs = .slice A q.al.length cp) (hfr:q.x.frees = .slice B q.fr.length cb) (b:Int) (hb:0<=b/\b<(nbl c:Nat))
  (h:Hold w0 w (freA g c q.x q.x.log A q.al.length cp q.al B q.fr.length cb q.fr q.L b*sepR [memA m q.C,queA 3 q.x.seen (iL q.sn),stA q.x.set (Z09 c.reads) q.xs,enA q.ge 0 3 q.rv] F)):∃P:{P:AP // okA P},Hold w0 w (aS g m c sg (s+1) P.1*F):=by
 obtain⟨K,hp,ho,M⟩:=E;have ha2:=K.al2;obtain⟨z,hz,h⟩:=h.Zlq;rcases z with gt|⟨L',_|⟨B',cb'⟩⟩
 ·have h:Hold w0 w (sepR [atA g c {q.x with code:=8,at_:=6,turn:=ptrV gt},tuA gt false 0 false,queA 3 q.x.allocs (iL q.al),lgA q.x.log q.L,queA 3 q.x.frees (iL q.fr),memA m q.C,queA 3 q.x.seen (iL q.sn),stA q.x.set (Z09 c.reads) q.xs,enA q.ge 0 3 q.rv] F):=by rw[ha,hfr];exact h
  exact⟨⟨.tk,.inr (.inl rfl)⟩,Zcd q ⟨K,hp,ho,M⟩ hrv 8 gt (cdf hsg (by decide)) rfl (h.pkS 9 [0,5,3,2,4,6,7,8,1])⟩
 ·have h:Hold w0 w (sepR [finA g c {q.x with code:=3} q.al,queA 3 q.x.allocs (iL q.al),lgA q.x.log L',queA 3 q.x.frees (iL q.fr),memA m q.C,queA 3 q.x.seen (iL q.sn),stA q.x.set (Z09 c.reads) q.xs,enA q.ge 0 3 q.rv] F):=by rw[ha,hfr];exact h
  obtain⟨⟨P,hP⟩,h3⟩:=Z58 (g:=g) (m:=m) (F:=F) (w0:=w0) (w:=w) (s:=s+1) {q with x:={q.x with code:=3},L:=L'} 0 {K with cod:=cdf hsg n3,log:=hz.1,cap:=by rw[hz.2.1];exact K.cap} hp (by show (3:Int)≠1;decide) M (h.pkS 8 [0,4,2,1,3,5,6,7]);exact⟨⟨P,hP.okA (by show q.al.length - 0<=2;omega)⟩,h3⟩
 ·have h:Hold w0 w (sepR [atA g c {q.x with frees:=.slice B' (q.fr.length+1) cb'},queA 3 q.x.allocs (iL q.al),lgA q.x.log L',queA 3 (.slice B' (q.fr.length+1) cb') (iL (q.fr++[b])),memA m q.C,queA 3 q.x.seen (iL q.sn),stA q.x.set (Z09 c.reads) q.xs,enA q.ge 0 3 q.rv] F):=by rw[ha];exact h
  refine⟨⟨.idle,.inl rfl⟩,Z68 {q with x:={q.x with frees:=.slice B' (q.fr.length+1) cb'},L:=L',fr:=q.fr++[b]} ⟨{K with frs:=⟨B',cb',by rw[List.length_append];rfl⟩,log:=hz.1,cap:=by rw[hz.2.1];exact K.cap,frr:=fun b' h=>?_,frl:=by rw[List.length_append];have h9:=hz.2.2 (by simp);have h8:=hc.fr;show q.fr.length+1<=2;omega},hp,ho,M⟩ hrv hat (h.pkS 8 [0,4,2,1,3,5,6,7])⟩;rcases List.mem_append.1 h with h|h
  ·exact K.frr b' h
  ·rw[List.mem_singleton.1 h];exact hb
theorem Zie (hc:CfA c) (hs:s<=900):Stp g m c sg s .lfree 0 okA:=by
 rintro q ⟨⟨K,hp,ho,M⟩,hat,hrv,hsg,hth,hb⟩;obtain⟨A,cp,ha⟩:=K.als;obtain⟨B,cb,hf⟩:=K.frs;have ha2:=K.al2;have hfl:=K.frl;refine⟨acc0,fun w0 w F h=>?_⟩;refine Z1l (Q:=fun P:{P:AP // okA P}=>aS g m c sg (s+1) P.1*F) h hat hth (fun _=>by kernel_rfl) (locD (Q:=fun P:{P:AP // okA P}=>aS g m c sg (s+1) P.1) fun w' F' h=>?_);have h1:Hold w0 w' (sepR [atA g c {q.x with at_:=0},queA 3 (.slice A q.al.length cp) (iL q.al),lgA q.x.log q.L,queA 3 (.slice B q.fr.length cb) (iL q.fr),blkA 108 q.b1 #[ptrV g],blkA 3 q.b2 #[.int .i64 q.ad],blkA 34 q.b3 #[.int .u64 q.vl],memA m q.C,queA 3 q.x.seen (iL q.sn),stA q.x.set (Z09 c.reads) q.xs,enA q.ge 0 3 q.rv] F'):=by rw[<- ha,<- hf];exact h.pkS 11 [0,3,2,4,8,9,10,1,5,6,7]
 refine(Z9i h1 (k:=0) (⟨rfl,ha,rfl,hp,Nat.zero_le _,by omega,hc.s,K.alr⟩:AlOk c {q.x with at_:=0} q.x.log A q.al.length cp 0 q.al) hf rfl (by omega) K.log hb).mono ?_;rintro e w2 ⟨rfl,h2⟩;obtain⟨P,h3⟩:=Zhq hc hsg (g:=g) (m:=m) (F:=F') (w0:=w0) (w:=w2) (s:=s) {q with x:={q.x with at_:=0}} ⟨K.up,hp,ho,M⟩ hrv rfl ha hf q.ad hb (h2.pk8 [0,4,5,6,7]);exact⟨rfl,P,h3⟩
theorem Zj7 (hc:CfA c) (L:PL):∀o∈srt (lgO c L),0<=o/\o<c.orecs:=fun o h=>by
 have h1:=mem_srt.1 h;unfold lgO at h1;obtain⟨a,_,rfl⟩:=List.mem_map.1 h1;have:=hc.s.orecs;exact⟨Int.emod_nonneg _ (by omega),Int.emod_lt_of_pos _ (by omega)⟩
theorem Zj8 (L:PL):(srt (lgO c L)).length<=L.addrs.length:=by
 refine Nat.le_trans (Zdd _) ?_;unfold lgO;rw[List.length_map];exact Nat.le_refl _
theorem Zk2 (hc:CfA c) (hs:s<=900):Stp g m c sg s .lend 0 (fun P=>P = .tk\/∃r,r<=8/\P = .lk r false):=by
 rintro q ⟨⟨K,hp,ho,M⟩,hat,hrv,hth,hv⟩;refine⟨acc0,fun w0 w F h=>?_⟩;refine Z1l (Q:=fun P:{P:AP // P = .tk\/∃r,r<=8/\P = .lk r false}=>aS g m c sg (s+1) P.1*F) h hat hth (fun _=>by kernel_rfl) (locD (Q:=fun P:{P:AP // P = .tk\/∃r,r<=8/\P = .lk r false}=>aS g m c sg (s+1) P.1) fun w' F' h=>?_);have h1:=h.pkS 10 [0,8,9,2,1,3,4,5,6,7];refine Zf0 (Q:=fun P:{P:AP // P = .tk\/∃r,r<=8/\P = .lk r false}=>aS g m c sg (s+1) P.1*F') h1 ?_;have h2:=h.pkS 10 [0,2,1,3,4,5,6,7]
 by_cases h1v:q.ad=1
 ·rw[h1v]
  by_cases hL:q.L.addrs=[]
  ·refine(Zax h2 rfl hL).mono ?_
   rintro e w2 ⟨gt,rfl,h3⟩;exact⟨rfl,⟨.tk,.inl rfl⟩,Zcd q ⟨K.up,hp,ho,M⟩ hrv 1 gt cd1 (by rw[hL];rfl) (h3.pk9 [0,3,2,4,5,6,7,8,1])⟩
  ·have hlp:0<q.L.addrs.length:=List.length_pos_iff.2 hL
   have hle:=Zj8 (c:=c) q.L;have hl8:=K.cap;have hi:=K.log.inv.le;have hpos:=Zdc (xs:=lgO c q.L) (by unfold lgO;rw[List.length_map];exact hlp);refine(Zay h2 rfl K.log.inv hlp hc.s.ok K.log.adr).mono ?_;rintro e w2 ⟨gk,A,n,cp,rfl,rfl,h3⟩;rw[Zi9] at h3;have h3:Hold w0 w2 (sepR [atA g c {q.x with code:=1,orecs:=.slice A (srt (lgO c q.L)).length cp,at_:=5,lock:=ptrV gk},lkA gk 0 (srt (lgO c q.L)) [] false 0,queA 3 (.slice A (srt (lgO c q.L)).length cp) (iL (srt (lgO c q.L))),lgA q.x.log q.L,memA m q.C,queA 3 q.x.allocs (iL q.al),queA 3 q.x.frees (iL q.fr),queA 3 q.x.seen (iL q.sn),stA q.x.set (Z09 c.reads) q.xs,enA q.ge 0 3 q.rv] F'):=by rw[show lkA gk 0 (srt (lgO c q.L)) [] false 0=lkA gk q.x.th (srt (lgO c q.L)) [] false 0 by rw[K.th0]];exact h3
   exact⟨rfl,⟨.lk (srt (lgO c q.L)).length false,.inr ⟨_,by omega,rfl⟩⟩,Z0c (P:=.lk (srt (lgO c q.L)).length false) {q with x:={q.x with code:=1,orecs:=.slice A (srt (lgO c q.L)).length cp,at_:=5,lock:=ptrV gk},gk:=gk,os:=srt (lgO c q.L),old:=[],s1:=0} ⟨{K.up with cod:=cd1},hp,hrv,rfl,rfl,hlp,rfl,⟨A,cp,rfl⟩,by show (srt (lgO c q.L)).length<=8;omega,Zj7 hc q.L,Zbe _,⟨rfl,hpos⟩,fun v h=>(by cases h),M,fun h=>absurd h (by decide)⟩ (h3.pkS 10 [0,4,3,5,6,7,8,9,1,2])⟩
 ·have h2v:=hv.resolve_left h1v
  rw[h2v.1];refine(Z4i h2 rfl (by decide)).mono ?_;rintro e w2 ⟨gt,rfl,h3⟩;exact⟨rfl,⟨.tk,.inl rfl⟩,Zcd q ⟨K.up,hp,ho,M⟩ hrv 2 gt (cdf h2v.2 (by decide)) rfl (h3.pk9 [0,3,2,4,5,6,7,8,1])⟩
end
section
variable {w0 w:World} {R F:Asr} {g m s:Nat} {c:Cfg} {sg:Bool}
theorem Zhl (hc:CfA c) (a:Int):0<=a%c.orecs/\a%c.orecs<c.orecs:=by
 have:=hc.s.orecs;exact⟨Int.emod_nonneg _ (by omega),Int.emod_lt_of_pos _ (by omega)⟩
theorem Zl8 (hc:CfA c) (hs:s<=900):Stp g m c sg s (.rd 0) 5 (fun P=>P = .rd 1):=by
 rintro q ⟨⟨K,hp,ho,M⟩,hat,hrv,hsg,hld,hrd,had,hab,hfb,hbf⟩;have hob:=Zhl hc q.ad;have hckr:=M.ck.2;have ho64:c.orecs<=64:=hc.s.orecs.2;have hH:=M.has2 hob.1 hob.2;have hg:=Z1z (v:=valC q.C 2 (q.ad%c.orecs)) (d:=true) hH 1;obtain⟨g0,g1,g2⟩:=M.orc _ hob.1 hob.2;have g3:=g2.resolve_right (by simp);refine⟨opA q.C 1 2 (q.ad%c.orecs) (valC q.C 2 (q.ad%c.orecs)) true,fun w0 w F h=>?_⟩;refine Z3b h hat (stD (l:=ps g m c q (.rd 0)) (F:=F) (Q:=fun P:{P:AP // P = .rd 1}=>aS g m c sg (s+1) P.1) fun w' F' h=>?_);refine(Z4t (h.pkS 11 [0,8,1,2,3,4,5,6,7,9,10]) hrd hld M.ok ⟨by omega,by omega⟩ rfl (by rw[hg];omega) (by rw[hg];omega)).mono ?_;rintro e w'' ⟨_,rfl,h2⟩;exact⟨⟨.rd 1,rfl⟩,rfl,Z0c (P:=.rd 1) {q with x:={q.x with loads:=1},bf:=(opA q.C 1 2 (q.ad%c.orecs) (valC q.C 2 (q.ad%c.orecs)) true).got} ⟨⟨K.up,hp,ho,M⟩,hat,hrv,hsg,rfl,hrd,had,hab,hfb,fun _=>hg⟩ (h2.pk11 [0,2,3,4,5,6,7,8,1,9,10])⟩
theorem Zl7 (hc:CfA c) (hs:s<=900):Stp g m c sg s (.rd 1) 6 (fun P=>P = .rd 2):=by
 rintro q ⟨⟨K,hp,ho,M⟩,hat,hrv,hsg,hld,hrd,had,hab,hfb,hbf⟩;have hwd:=hc.s.words;have hn4:=nbl4 hc.s;refine⟨opA q.C 1 1 q.ad (valC q.C 1 q.ad) true,fun w0 w F h=>?_⟩;refine Z3b h hat (stD (l:=ps g m c q (.rd 1)) (F:=F) (Q:=fun P:{P:AP // P = .rd 2}=>aS g m c sg (s+1) P.1) fun w' F' h=>?_);refine(Z4s (h.pkS 11 [0,8,1,2,3,4,5,6,7,9,10]) hrd hld M.ok ⟨by omega,by omega⟩ rfl).mono ?_;rintro e w'' ⟨_,rfl,h2⟩;exact⟨⟨.rd 2,rfl⟩,rfl,Z0c (P:=.rd 2) {q with x:={q.x with loads:=2},vl:=(opA q.C 1 1 q.ad (valC q.C 1 q.ad) true).got} ⟨⟨K.up,hp,ho,M⟩,hat,hrv,hsg,rfl,hrd,had,hab,hfb,fun _=>hbf (by decide)⟩ (h2.pk11 [0,2,3,4,5,6,7,8,1,9,10])⟩
theorem Zia (c:Cfg) (sn:List Int) (ad:Int):(snN c sn ad).length<=sn.length+1:=by
 unfold snN
 split
 ·unfold Zh8
  split
  ·omega
  ·simp
 ·omega
theorem Z8f {c:Cfg} {cap:Nat} {xs:List Int} {o:Int} (h:∀o∈xs,0<=o/\o<c.orecs) (ho:0<=o/\o<c.orecs):∀o'∈addL cap xs o,0<=o'/\o'<c.orecs:=by
 unfold addL;intro o' h1
 split at h1
 ·exact h o' h1
 ·split at h1
  ·rcases List.mem_append.1 h1 with h1|h1
   ·exact h o' h1
   ·rw[List.mem_singleton.1 h1];exact ho
  ·exact h o' h1
theorem Zl6 (hc:CfA c) (hs:s<=900):Stp g m c sg s (.rd 2) 7 okA:=by
 rintro q ⟨⟨K,hp,ho,M⟩,hat,hrv,hsg,hld,hrd,had,hab,hfb,hbf⟩;have hob:=Zhl hc q.ad;have hckr:=M.ck.2;have ho64:c.orecs<=64:=hc.s.orecs.2;have hH:=M.has2 hob.1 hob.2;have hg:=Z1z (v:=valC q.C 2 (q.ad%c.orecs)) (d:=true) hH 1;obtain⟨A,cp,ha⟩:=K.als;obtain⟨B,cb,hf⟩:=K.frs;obtain⟨A1,cs,hsn⟩:=K.sns;have ha2:=K.al2;have hfl:=K.frl;have hsl:=K.snl;have hx6:=K.xsl;have hrc:=hc.rd;have hsl2:=Zia c q.sn q.ad;refine⟨opA q.C 1 2 (q.ad%c.orecs) (valC q.C 2 (q.ad%c.orecs)) true,fun w0 w F h=>?_⟩;refine Z3b h hat (stD (l:=ps g m c q (.rd 2)) (F:=F) (Q:=fun P:{P:AP // okA P}=>aS g m c sg (s+1) P.1) fun w' F' h=>?_);have h1:Hold w0 w' (sepR [atA g c q.x,rdA q.gk q.ad (q.ad%c.orecs) q.rv 2 q.bf q.vl false,memA m q.C,queA 3 (.slice A1 q.sn.length cs) (iL q.sn),stA q.x.set (Z09 c.reads) q.xs,lgA q.x.log q.L,queA 3 q.x.allocs (iL q.al),queA 3 q.x.frees (iL q.fr),enA q.ge 0 3 q.rv,blkA 108 q.b1 #[ptrV g],fbA q] F'):=by rw[<- hsn];exact h.pkS 11 [0,8,1,5,6,2,3,4,7,9,10]
 have hU:sg=false->∀(F0:Asr) (A2:Option Addr) (n2 c2:Nat) (w2:World),Hold w0 w2 (atA g c {q.x with loads:=3,seen:=.slice A2 n2 c2}*(queA 3 (.slice A2 n2 c2) (iL (snN c q.sn q.ad))*(stA q.x.set (Z09 c.reads) (addL (Z09 c.reads) q.xs (q.ad%c.orecs))*(rdA q.gk q.ad (q.ad%c.orecs) q.rv 3 q.bf q.vl false*(memA m q.C*(F0*sepR [lgA q.x.log q.L,queA 3 q.x.allocs (iL q.al),queA 3 q.x.frees (iL q.fr),enA q.ge 0 3 q.rv,blkA 108 q.b1 #[ptrV g],fbA q] F'))))))->Calls Tryz.prog 147 #[ptrV g,.int .i64 3] w2 fun e w3=>e = .returned (.tuple #[])/\∃P:{P:AP // okA P},Hold w0 w3 (F0*(aS g m c sg (s+1) P.1*F')):=by
  intro hsf F0 A2 n2 c2 w2 h;have hl:=h.drop.Zlu;obtain⟨A3,c3,hl⟩:=hl;injection hl with e1 e2 e3
  have hn2:n2=(snN c q.sn q.ad).length:=by rw[e2];simp
  have h3:Hold w0 w2 (sepR [atA g c {q.x with loads:=3,seen:=.slice A2 n2 c2},queA 3 (.slice A q.al.length cp) (iL q.al),memA m q.C,lgA q.x.log q.L,queA 3 q.x.frees (iL q.fr),queA 3 (.slice A2 n2 c2) (iL (snN c q.sn q.ad)),stA q.x.set (Z09 c.reads) (addL (Z09 c.reads) q.xs (q.ad%c.orecs)),enA q.ge 0 3 q.rv,F0] F'):=by rw[<- ha];exact h.pk12 [0,7,4,6,8,1,2,9,5]
  refine(Z2j (k:=0) 3 h3 ha rfl hp (Nat.zero_le _) (by omega) (by decide) hc.s K.alr).mono ?_;rintro e w3 ⟨rfl,h4⟩;have h4:=h4.asr;rw[<- ha] at h4;have h5:=(h4.pk9 [8,0,2,3,1,4,5,6,7]).imp (Imp.late F0 F' [finA g c {q.x with loads:=3,seen:=.slice A2 n2 c2,code:=3} q.al,memA m q.C,lgA q.x.log q.L,queA 3 q.x.allocs (iL q.al),queA 3 q.x.frees (iL q.fr),queA 3 (.slice A2 n2 c2) (iL (snN c q.sn q.ad)),stA q.x.set (Z09 c.reads) (addL (Z09 c.reads) q.xs (q.ad%c.orecs)),enA q.ge 0 3 q.rv]);obtain⟨⟨P,hP⟩,h6⟩:=Z58 (g:=g) (m:=m) (F:=F0*F') (w0:=w0) (w:=w3) (s:=s+1) {q with x:={q.x with loads:=3,seen:=.slice A2 n2 c2,code:=3},sn:=snN c q.sn q.ad,xs:=addL (Z09 c.reads) q.xs (q.ad%c.orecs)} 0 {K.up with cod:=cdf hsf n3,sns:=⟨A2,c2,by rw[hn2]⟩,snl:=by show (snN c q.sn q.ad).length<=s+1;omega,xsl:=Zb5 _ _ _ hx6,xsr:=Z8f K.xsr hob} hp (by show (3:Int)≠1;decide) M h5;exact⟨rfl,⟨P,hP.okA (by show q.al.length - 0<=2;omega)⟩,h6.imp (Imp.swap _ _ _)⟩
 have hsf:Z4x (Z09 c.reads) q.xs (q.ad%c.orecs)=false->sg=false:=fun hadd=>Zdz hsg fun h=>by
  have h1:=hc.rd1;rw[h.1] at hadd;unfold Z4x at hadd;rw[show ([]:List Int).length=0 from rfl,decide_eq_true (show 0<Z09 c.reads by omega),Bool.or_true] at hadd
  cases hadd
 have hno:∀(F0:Asr) (A2:Option Addr) (n2 c2:Nat) (l:List Int) (w2:World),Hold w0 w2 (queA 3 (.slice A2 n2 c2) (iL l)*F0)->n2=l.length:=fun F0 A2 n2 c2 l w2 h=>by
  obtain⟨A3,c3,hl⟩:=h.Zlu;injection hl with e1 e2 e3
  rw[e2];simp
 cases hb:q.fb with
 | none =>
  rw[hb] at hfb;have hfb:q.x.use_=Z4l q.b1:=hfb;refine(Zc7 (Q:=fun P:{P:AP // okA P}=>aS g m c sg (s+1) P.1*F') h1 hrd hld M.ok ⟨by omega,by omega⟩ rfl (hg.trans (hbf (by decide)).symm) hsn rfl hfb had hab.1 hab.2 hc.s.ok rfl hx6 (by omega) (by omega) (fun _=>by kernel_rfl) (fun hadd F0 A2 n2 c2 w2 h=>hU (hsf hadd) F0 A2 n2 c2 w2 h) (fun _ F0 A2 n2 c2 w2 h=>?_));have hn2:=hno _ _ _ _ _ _ h.drop;refine(Zex (h.pk12 [0,10,4,6,7,8,1,2,9,5])).mono ?_;rintro e w3 ⟨rfl,h4⟩;have h5:=(h4.pk10 [9,0,2,3,4,5,6,7,8]).imp (Imp.late F0 F' (clx g m c {q with x:={q.x with loads:=3,seen:=.slice A2 n2 c2,at_:=0,value:=q.vl},sn:=snN c q.sn q.ad,xs:=addL (Z09 c.reads) q.xs (q.ad%c.orecs)} 3 []));exact⟨rfl,⟨.idle,.inl rfl⟩,(Z68 {q with x:={q.x with loads:=3,seen:=.slice A2 n2 c2,at_:=0,value:=q.vl},sn:=snN c q.sn q.ad,xs:=addL (Z09 c.reads) q.xs (q.ad%c.orecs)} ⟨{K.up with sns:=⟨A2,c2,by rw[hn2]⟩,snl:=by show (snN c q.sn q.ad).length<=s+1;omega,xsl:=Zb5 _ _ _ hx6,xsr:=Z8f K.xsr hob},hp,ho,M⟩ hrv rfl h5).imp (Imp.swap _ _ _)⟩
 | some b =>
  rw[hb] at hfb;obtain⟨hfb,hbr⟩:q.x.use_ = .func (.func 198) #[] #[ptrV q.b1,ptrV q.b2]/\0<=b/\b<(nbl c:Nat):=hfb;have ef:fbA q=blkA 3 q.b2 #[.int .i64 b]:=by unfold fbA;rw[hb]
  refine(Zc7 (Q:=fun P:{P:AP // okA P}=>aS g m c sg (s+1) P.1*F') h1 hrd hld M.ok ⟨by omega,by omega⟩ rfl (hg.trans (hbf (by decide)).symm) hsn rfl hfb had hab.1 hab.2 hc.s.ok rfl hx6 (by omega) (by omega) (fun _=>by kernel_rfl) (fun hadd F0 A2 n2 c2 w2 h=>hU (hsf hadd) F0 A2 n2 c2 w2 h) (fun _ F0 A2 n2 c2 w2 h=>?_));have hn2:=hno _ _ _ _ _ _ h.drop;have h3:Hold w0 w2 (sepR [atA g c {q.x with loads:=3,seen:=.slice A2 n2 c2,at_:=0},queA 3 (.slice A q.al.length cp) (iL q.al),lgA q.x.log q.L,queA 3 (.slice B q.fr.length cb) (iL q.fr),blkA 108 q.b1 #[ptrV g],blkA 3 q.b2 #[.int .i64 b],memA m q.C,queA 3 (.slice A2 n2 c2) (iL (snN c q.sn q.ad)),stA q.x.set (Z09 c.reads) (addL (Z09 c.reads) q.xs (q.ad%c.orecs)),enA q.ge 0 3 q.rv,F0] F'):=by rw[<- ha,<- hf,<- ef];exact h.pk12 [0,7,6,8,10,11,4,1,2,9,5]
  refine(Z9h h3 (k:=0) (⟨rfl,ha,rfl,hp,Nat.zero_le _,by omega,hc.s,K.alr⟩:AlOk c {q.x with loads:=3,seen:=.slice A2 n2 c2,at_:=0} q.x.log A q.al.length cp 0 q.al) hf rfl (by omega) K.log hbr).mono ?_;rintro e w3 ⟨rfl,h4⟩;have h5:=(h4.pk8 [7,0,3,4,5,6]).imp (Imp.late F0 F' [freA g c {q.x with loads:=3,seen:=.slice A2 n2 c2,at_:=0} q.x.log A q.al.length cp q.al B q.fr.length cb q.fr q.L b,memA m q.C,queA 3 (.slice A2 n2 c2) (iL (snN c q.sn q.ad)),stA q.x.set (Z09 c.reads) (addL (Z09 c.reads) q.xs (q.ad%c.orecs)),enA q.ge 0 3 q.rv]);obtain⟨P,h6⟩:=Zhq hc (Zdz hsg (fun h=>by rw[hb] at h;cases h.2)) (g:=g) (m:=m) (F:=F0*F') (w0:=w0) (w:=w3) (s:=s) {q with x:={q.x with loads:=3,seen:=.slice A2 n2 c2,at_:=0},sn:=snN c q.sn q.ad,xs:=addL (Z09 c.reads) q.xs (q.ad%c.orecs)} ⟨{K.up with sns:=⟨A2,c2,by rw[hn2]⟩,snl:=by show (snN c q.sn q.ad).length<=s+1;omega,xsl:=Zb5 _ _ _ hx6,xsr:=Z8f K.xsr hob},hp,ho,M⟩ hrv rfl ha hf b hbr h5;exact⟨rfl,P,h6.imp (Imp.swap _ _ _)⟩
theorem Zky (hsg:sg=false) (q:QD) (E:EF c sg s q) (hrv:q.rv=q.ck) (hat:q.x.at_=0) (ha1:q.al.length<=1) {A:Option Addr} {cp:Nat} (ha:q.x.allocs = .slice A q.al.length cp) (b:Int)
  (h:Hold w0 w (alcA g c q.x q.x.log A q.al.length cp q.al q.L b*sepR [memA m q.C,queA 3 q.x.frees (iL q.fr),queA 3 q.x.seen (iL q.sn),stA q.x.set (Z09 c.reads) q.xs,enA q.ge 0 3 q.rv] F)):∃P:{P:AP // okA P},Hold w0 w (aS g m c sg s P.1*F):=by
 obtain⟨K,hp,ho,M⟩:=E;obtain⟨z,hz,h⟩:=h.Zlq;have hall:∀b':Int,(0<=b'/\b'<(nbl c:Nat))->∀b2∈q.al++[b'],0<=b2/\b2<(nbl c:Nat):=fun b' hb b2 h=>by
  rcases List.mem_append.1 h with h|h
  ·exact K.alr b2 h
  ·rw[List.mem_singleton.1 h];exact hb
 have hln:∀b':Int,(q.al++[b']).length=q.al.length+1:=fun b'=>by simp
 rcases z with _|⟨L',A',cp',_|_⟩
 ·have h:Hold w0 w (sepR [finA g c {q.x with code:=4} q.al,queA 3 q.x.allocs (iL q.al),lgA q.x.log q.L,memA m q.C,queA 3 q.x.frees (iL q.fr),queA 3 q.x.seen (iL q.sn),stA q.x.set (Z09 c.reads) q.xs,enA q.ge 0 3 q.rv] F):=by rw[ha];exact h
  obtain⟨⟨P,hP⟩,h3⟩:=Z58 (g:=g) (m:=m) (F:=F) (w0:=w0) (w:=w) (s:=s) {q with x:={q.x with code:=4}} 0 {K with cod:=cdf hsg n4} hp (by show (4:Int)≠1;decide) M (h.pkS 8 [0,3,2,1,4,5,6,7]);exact⟨⟨P,hP.okA (by show q.al.length - 0<=2;omega)⟩,h3⟩
 ·have h:Hold w0 w (sepR [atA g c {q.x with allocs:=.slice A' (q.al.length+1) cp',value:=fst c b},queA 3 (.slice A' (q.al.length+1) cp') (iL (q.al++[b])),lgA q.x.log L',memA m q.C,queA 3 q.x.frees (iL q.fr),queA 3 q.x.seen (iL q.sn),stA q.x.set (Z09 c.reads) q.xs,enA q.ge 0 3 q.rv] F):=h
  exact⟨⟨.idle,.inl rfl⟩,Z68 {q with x:={q.x with allocs:=.slice A' (q.al.length+1) cp',value:=fst c b},L:=L',al:=q.al++[b]} ⟨{K with als:=⟨A',cp',by rw[hln]⟩,log:=hz.1,cap:=by rw[hz.2.1];exact K.cap,alr:=hall b hz.2.2,al2:=by show (q.al++[b]).length<=2;rw[hln];omega},hp,ho,M⟩ hrv hat (h.pkS 8 [0,3,2,1,4,5,6,7])⟩
 ·have h:Hold w0 w (sepR [finA g c {q.x with allocs:=.slice A' (q.al.length+1) cp',code:=3} (q.al++[b]),queA 3 (.slice A' (q.al.length+1) cp') (iL (q.al++[b])),lgA q.x.log L',memA m q.C,queA 3 q.x.frees (iL q.fr),queA 3 q.x.seen (iL q.sn),stA q.x.set (Z09 c.reads) q.xs,enA q.ge 0 3 q.rv] F):=h
  obtain⟨⟨P,hP⟩,h3⟩:=Z58 (g:=g) (m:=m) (F:=F) (w0:=w0) (w:=w) (s:=s) {q with x:={q.x with allocs:=.slice A' (q.al.length+1) cp',code:=3},L:=L',al:=q.al++[b]} 0 {K with cod:=cdf hsg n3,als:=⟨A',cp',by rw[hln]⟩,log:=hz.1,cap:=by rw[hz.2.1];exact K.cap,alr:=hall b hz.2.2,al2:=by show (q.al++[b]).length<=2;rw[hln];omega} hp (by show (3:Int)≠1;decide) M (h.pkS 8 [0,3,2,1,4,5,6,7]);exact⟨⟨P,hP.okA (by show (q.al++[b]).length - 0<=2;rw[hln];omega)⟩,h3⟩
theorem Zdn (hc:CfA c) (hs:s<=900) (q:QD) (E:EF c sg s q) (hat:q.x.at_=4) (hrv:q.rv=q.ck) (hsg:sg=false) (hpo:q.x.pop=ptrV q.gk) (hth:q.x.then_ = .func (.func 192) #[] #[ptrV q.b1,ptrV q.b2]) (hcl:q.cl=0\/q.cl=1) (ha1:q.al.length<=1)
  {i0 hd nx bk:Int} {a:Acc} {C2:Nat->List Int} (hb:bk=-1\/(0<=bk/\bk<(nbl c:Nat))/\clsS c bk=q.cl) (M2:MI c q.ck q.t q.t q.ck [] C2)
  (hst:∀w0 F w',Hold w0 w' (poA q.gk q.cl i0 q.hd q.nx (-1)*(memA m q.C*F))->Calls Tryz.prog 152 #[ptrV q.gk,ptrV m] w' fun e w2=>e = .returned a.val/\Hold w0 w2 (poA q.gk q.cl 3 hd nx bk*(memA m C2*F)))
  {F':Asr} (h:Hold w0 w (sepR [atA g c q.x,poA q.gk q.cl i0 q.hd q.nx (-1),memA m q.C,lgA q.x.log q.L,queA 3 q.x.allocs (iL q.al),queA 3 q.x.frees (iL q.fr),queA 3 q.x.seen (iL q.sn),stA q.x.set (Z09 c.reads) q.xs,enA q.ge 0 3 q.rv,blkA 108 q.b1 #[ptrV g],blkA 3 q.b2 #[.int .i64 q.cl]] F')):Calls Tryz.prog 88 #[ptrV g,ptrV m] w (Z0e (ι:={P:AP // okA P}) w0 (fun P=>aS g m c sg (s+1) P.1*F') a (Z5g a)):=by
 obtain⟨K,hp,ho,M⟩:=E;obtain⟨A,cp,ha⟩:=K.als;refine Z6m (Q:=fun P:{P:AP // okA P}=>aS g m c sg (s+1) P.1*F') h hpo (fun F w h=>hst _ F w h) rfl hth (fun _=>by kernel_rfl) (fun F0 w2 h=>?_);have h3:Hold w0 w2 (sepR [atA g c {q.x with at_:=0},poA q.gk q.cl 3 hd nx bk,lgA q.x.log q.L,queA 3 (.slice A q.al.length cp) (iL q.al),blkA 108 q.b1 #[ptrV g],blkA 3 q.b2 #[.int .i64 q.cl],memA m C2,queA 3 q.x.frees (iL q.fr),queA 3 q.x.seen (iL q.sn),stA q.x.set (Z09 c.reads) q.xs,enA q.ge 0 3 q.rv,F0] F'):=by rw[<- ha];exact h.pk12 [0,1,4,5,10,11,2,6,7,8,9,3]
 refine(Z9j hcl h3 (k:=0) (⟨rfl,ha,rfl,hp,Nat.zero_le _,by omega,hc.s,K.alr⟩:AlOk c {q.x with at_:=0} q.x.log A q.al.length cp 0 q.al) (by omega) hpo K.log hb).mono ?_;rintro e w3 ⟨rfl,h4⟩;have h5:=(h4.pk10 [9,0,4,5,6,7,8]).imp (Imp.late F0 F' [alcA g c {q.x with at_:=0} q.x.log A q.al.length cp q.al q.L bk,memA m C2,queA 3 q.x.frees (iL q.fr),queA 3 q.x.seen (iL q.sn),stA q.x.set (Z09 c.reads) q.xs,enA q.ge 0 3 q.rv]);obtain⟨P,h6⟩:=Zky hsg (g:=g) (m:=m) (F:=F0*F') (w0:=w0) (w:=w3) (s:=s+1) {q with x:={q.x with at_:=0},C:=C2} ⟨K.up,hp,ho,M2⟩ hrv rfl ha1 ha bk h5;exact⟨rfl,P,h6.imp (Imp.swap _ _ _)⟩
theorem Zk0 (hc:CfA c) (hs:s<=900):StN g m c sg s (.pop 0) (fun P=>P = .pop 1\/okA P):=by
 rintro q ⟨⟨K,hp,ho,M⟩,hat,hrv,hsg,hpo,hth,hcl,ha1,_,_⟩;have H7:=M.has7 hcl;have HH:=M.hd q.cl hcl;have hg:=Z1z (v:=valC q.C 7 q.cl) (d:=true) H7 1;refine⟨opA q.C 1 7 q.cl (valC q.C 7 q.cl) true,Z5g (opA q.C 1 7 q.cl (valC q.C 7 q.cl) true),Z7g _,fun w0 w F h=>?_⟩;refine Z3x h hat (stD (l:=ps g m c q (.pop 0)) (F:=F) (Q:=fun P:{P:AP // P = .pop 1\/okA P}=>aS g m c sg (s+1) P.1) fun w' F' h=>?_);have h1:=h.pkS 11 [0,8,1,2,3,4,5,6,7,9,10]
 by_cases hz:valC q.C 7 q.cl%65536=0
 ·refine(Zdn hc hs q ⟨K,hp,ho,M⟩ hat hrv hsg hpo hth hcl ha1 (.inl rfl) M (fun w0 F w h=>Z7f _ _ _ _ _ _ _ _ _ _ _ h M.ok (by omega) (by rw[hg];exact HH.1) (by rw[hg];exact hz) rfl) h1).mono ?_
  rintro e w2 ⟨⟨P,hP⟩,rfl,h2⟩;exact⟨⟨P,.inr hP⟩,rfl,h2⟩
 ·refine(Z4f h1 hpo (fun F w h=>Z7e _ _ _ _ _ _ _ _ _ _ _ h M.ok (by omega) (by rw[hg];exact HH.1) (by rw[hg];omega) rfl) (by decide)).mono ?_
  rintro e w2 ⟨rfl,h2⟩;exact⟨⟨.pop 1,.inl rfl⟩,rfl,Z0c (P:=.pop 1) {q with hd:=(opA q.C 1 7 q.cl (valC q.C 7 q.cl) true).got} ⟨⟨K.up,hp,ho,M⟩,hat,hrv,hsg,hpo,hth,hcl,ha1,fun _=>⟨hg,by show ¬ (opA q.C 1 7 q.cl (valC q.C 7 q.cl) true).got%65536=0;rw[hg];exact hz⟩,fun h=>absurd h (by decide)⟩ (h2.pk11 [0,2,3,4,5,6,7,8,1,9,10])⟩
theorem Zjz (hc:CfA c) (hs:s<=900):StN g m c sg s (.pop 1) (fun P=>P = .pop 2):=by
 rintro q ⟨⟨K,hp,ho,M⟩,hat,hrv,hsg,hpo,hth,hcl,ha1,hhd,_⟩;obtain⟨he,hne⟩:=hhd (by decide);have HH:=M.hd q.cl hcl;rw[<- he] at HH;have HB:=HH.2.resolve_left hne;have H8:=M.has8 HB.1.1 HB.1.2;have hg:=Z1z (v:=valC q.C 8 (q.hd%65536 - 1)) (d:=true) H8 1;refine⟨opA q.C 1 8 (q.hd%65536 - 1) (valC q.C 8 (q.hd%65536 - 1)) true,Z5g (opA q.C 1 8 (q.hd%65536 - 1) (valC q.C 8 (q.hd%65536 - 1)) true),Z7g _,fun w0 w F h=>?_⟩;refine Z3x h hat (stD (l:=ps g m c q (.pop 1)) (F:=F) (Q:=fun P:{P:AP // P = .pop 2}=>aS g m c sg (s+1) P.1) fun w' F' h=>?_);refine(Z4f (h.pkS 11 [0,8,1,2,3,4,5,6,7,9,10]) hpo (fun F w h=>Zg1 _ _ _ _ _ _ _ _ _ _ _ h M.ok HH.1 rfl) (by decide)).mono ?_;rintro e w2 ⟨rfl,h2⟩;exact⟨⟨.pop 2,rfl⟩,rfl,Z0c (P:=.pop 2) {q with nx:=(opA q.C 1 8 (q.hd%65536 - 1) (valC q.C 8 (q.hd%65536 - 1)) true).got} ⟨⟨K.up,hp,ho,M⟩,hat,hrv,hsg,hpo,hth,hcl,ha1,fun _=>⟨he,hne⟩,fun _=>hg⟩ (h2.pk11 [0,2,3,4,5,6,7,8,1,9,10])⟩
theorem Zjy (hc:CfA c) (hs:s<=900):StN g m c sg s (.pop 2) okA:=by
 rintro q ⟨⟨K,hp,ho,M⟩,hat,hrv,hsg,hpo,hth,hcl,ha1,hhd,hnx⟩;obtain⟨he,hne⟩:=hhd (by decide);have hn:=hnx (by decide);have H7:=M.has7 hcl;have HH:=M.hd q.cl hcl;rw[<- he] at HH;have HB:=HH.2.resolve_left hne;have HL:=M.lk _ HB.1.1 HB.1.2;rw[HB.2,<- hn] at HL;have hr:=HL.rng hc.s;have hbe:(valC q.C 7 q.cl==q.hd)=true:=beq_iff_eq.2 he.symm;have M2:MI c q.ck q.t q.t q.ck [] (opC q.C 7 q.cl (Z2a q.hd (q.nx - 1)) (valC q.C 7 q.cl==q.hd)):=by rw[hbe];exact M.head hcl (Zak hc.s HH.1 HL)
 refine⟨opA q.C 3 7 q.cl (Z2a q.hd (q.nx - 1)) (valC q.C 7 q.cl==q.hd),Z5g (opA q.C 3 7 q.cl (Z2a q.hd (q.nx - 1)) (valC q.C 7 q.cl==q.hd)),Z7g _,fun w0 w F h=>?_⟩;refine Z3x h hat (stD (l:=ps g m c q (.pop 2)) (F:=F) (Q:=fun P:{P:AP // okA P}=>aS g m c sg (s+1) P.1) fun w' F' h=>?_);exact Zdn hc hs q ⟨K,hp,ho,M⟩ hat hrv hsg hpo hth hcl ha1 (.inr HB) M2 (fun w0 F w h=>Z8s _ _ _ _ _ _ _ _ _ _ _ _ h M.ok (by omega) HH.1 ⟨hr.1,by omega⟩ (by rw[hbe];exact Z5s H7 3) rfl rfl) (h.pkS 11 [0,8,1,2,3,4,5,6,7,9,10])
end
def okQ (P:AP):Prop:=P = .lrd\/P = .lget\/P = .lwr\/P = .lal\/P = .lfr\/P = .lfree\/P = .rd 0\/P = .pop 0
def Zb7 (w0:World) (g m:Nat) (c:Cfg) (sg:Bool) (s:Nat) (F:Asr) (ok:AP->Prop) (e:Ending) (w':World):Prop:=∃P:{P:AP // ok P},e = .returned (.int .i64 0)/\Hold w0 w' (aS g m c sg s P.1*F)
section
variable {w0 w:World} {R F:Asr} {g m s:Nat} {c:Cfg} {sg:Bool}
theorem Zhg (hc:CfA c) {ad:Int} (had:0<=ad/\ad<18446744073709551616) (q:QD) (hq:ph c sg s q .idle) (hS:sg=true->ad<c.words/\q.xs=[]/\q.L=newL c.writes) (h:Hold w0 w (sepR (ps g m c q .idle) F)) :
  Calls Tryz.prog 63 #[ptrV g,.int .u64 ad] w (Zb7 w0 g m c sg s F okQ):=by
 obtain⟨⟨K,hp,ho,M⟩,hat,hrv⟩:=hq;have hwd:=hc.s.words;have hckr:=M.ck.2
 by_cases hlt:ad<c.words
 ·by_cases hok:Z91 q.L ad=true
  ·refine(Zaw (h.pkS 8 [0,2,1,3,4,5,6,7]) hat K.st1 rfl K.log.inv hok hc.s.ok had.1 hlt).mono ?_
   rintro e w' ⟨gb,b6,b7,rfl,h2⟩;exact⟨⟨.lget,.inr (.inl rfl)⟩,rfl,Z0c (P:=.lget) {q with x:={q.x with at_:=1,then_:=.func (.func 114) #[] #[ptrV b6,ptrV b7]},b1:=gb,b2:=b6,b3:=b7,vl:=getV q.L ad} ⟨⟨K,hp,ho,M⟩,rfl,hrv,rfl⟩ (h2.pk11 [0,5,4,6,7,8,9,10,1,2,3])⟩
  ·refine(Zav (h.pkS 8 [0,2,7,1,3,4,5,6]) hat K.st1 rfl K.ent K.log.inv (by rw[Bool.not_eq_true] at hok;exact hok) ⟨by omega,by omega⟩ hc.s.ok had.1 hlt).mono ?_
   rintro e w' ⟨gb,gr,rfl,h2⟩;refine⟨⟨.rd 0,.inr (.inr (.inr (.inr (.inr (.inr (.inl rfl))))))⟩,rfl,Z0c (P:=.rd 0) {q with x:={q.x with at_:=3,addr:=ad,use_:=Z4l gb,loads:=0,read:=ptrV gr},gk:=gr,ad:=ad,bf:=0,vl:=0,b1:=gb,fb:=none} ⟨⟨K,hp,ho,M⟩,rfl,hrv,fun h=>⟨(hS h).2.1,rfl⟩,rfl,rfl,rfl,⟨had.1,by show ad<_;omega⟩,rfl,fun h=>absurd h (by decide)⟩ ?_⟩;exact(h2.pk10 [0,5,3,6,7,8,9,4,1,2]).imp (Imp.under _ (Imp.under _ (Imp.under _ (Imp.under _ (Imp.under _ (Imp.under _ (Imp.under _ (Imp.under _ (Imp.under _ (Imp.under _ (Imp.Zlv _)))))))))))
 ·refine(Zau h hat K.st1 ⟨by omega,hwd.2⟩ had (by omega)).mono ?_
  rintro e w' ⟨b1,rfl,h2⟩;exact⟨⟨.lrd,.inl rfl⟩,rfl,Z0c (P:=.lrd) {q with x:={q.x with at_:=1,then_:=.func (.func 111) #[] #[ptrV b1]},b1:=b1} ⟨⟨K,hp,ho,M⟩,rfl,hrv,Zdz hS (fun h=>hlt h.1),rfl⟩ (h2.pk9 [0,2,3,4,5,6,7,8,1])⟩
theorem Zdl (hc:CfA c) {ad v:Int} (had:0<=ad/\ad<18446744073709551616) (q:QD) (hq:ph c sg s q .idle) (hS:sg=true->ad<c.words/\q.L=newL c.writes) (h:Hold w0 w (sepR (ps g m c q .idle) F)) :
  Calls Tryz.prog 65 #[ptrV g,.int .u64 ad,.int .u64 v] w (Zb7 w0 g m c sg s F okQ):=by
 obtain⟨⟨K,hp,ho,M⟩,hat,hrv⟩:=hq;refine(Zew h hat K.st1).mono ?_;rintro e w' ⟨b1,b2,b3,rfl,h2⟩;exact⟨⟨.lwr,.inr (.inr (.inl rfl))⟩,rfl,Z0c (P:=.lwr) {q with x:={q.x with at_:=1,then_:=.func (.func 117) #[] #[ptrV b1,ptrV b2,ptrV b3]},b1:=b1,b2:=b2,b3:=b3,ad:=ad,vl:=v} ⟨⟨K,hp,ho,M⟩,rfl,hrv,fun h=>⟨(hS h).1,by show Z1y q.L ad=true;rw[(hS h).2];exact hc.pt ad had.1⟩,rfl,had⟩ (h2.pk11 [0,4,5,6,7,8,9,10,1,2,3])⟩
theorem Zii (hc:CfA c) (hsg:sg=false) {cl:Int} (hcl:cl=0\/cl=1) (q:QD) (hq:ph c sg s q .idle) (h:Hold w0 w (sepR (ps g m c q .idle) F)) :
  Calls Tryz.prog 121 #[ptrV g,.int .i64 cl] w (Zb7 w0 g m c sg s F okQ):=by
 obtain⟨⟨K,hp,ho,M⟩,hat,hrv⟩:=hq;obtain⟨A,cp,ha⟩:=K.als;have hal:=hc.al;refine(Zf2 h hat K.st1 ha (by omega)).mono ?_;rintro e w' ⟨b1,b2,rfl,⟨h1,h2⟩|⟨h1,gp,h2⟩⟩
 ·exact⟨⟨.lal,.inr (.inr (.inr (.inl rfl)))⟩,rfl,Z0c (P:=.lal) {q with x:={q.x with at_:=1,then_:=.func (.func 190) #[] #[ptrV b1]},b1:=b1} ⟨⟨K,hp,ho,M⟩,rfl,hrv,hsg,rfl⟩ (h2.pk10 [0,3,4,5,6,7,8,9,1])⟩
 ·exact⟨⟨.pop 0,.inr (.inr (.inr (.inr (.inr (.inr (.inr rfl))))))⟩,rfl,Z0c (P:=.pop 0) {q with x:={q.x with at_:=4,pop:=ptrV gp,then_:=.func (.func 192) #[] #[ptrV b1,ptrV b2]},gk:=gp,cl:=cl,hd:=0,nx:=0,b1:=b1,b2:=b2} ⟨⟨K,hp,ho,M⟩,rfl,hrv,hsg,rfl,rfl,hcl,by show q.al.length<=1;omega,fun h=>absurd h (by decide),fun h=>absurd h (by decide)⟩ (h2.pk11 [0,4,5,6,7,8,9,10,1,2,3])⟩
theorem Zk4 (hc:CfA c) (hsg:sg=false) {ad:Int} (q:QD) (hq:ph c sg s q .idle) (h:Hold w0 w (sepR (ps g m c q .idle) F)) :
  Calls Tryz.prog 122 #[ptrV g,.int .u64 ad] w (Zb7 w0 g m c sg s F okQ):=by
 obtain⟨⟨K,hp,ho,M⟩,hat,hrv⟩:=hq;have hckr:=M.ck.2;have hwd:=hc.s.words;refine(Zh1 (h.pkS 8 [0,2,7,1,3,4,5,6]) hat K.st1 rfl K.ent K.log.inv ⟨by omega,by omega⟩ hc.s).mono ?_;rintro e w' ⟨rfl,⟨b1,h2⟩|⟨b,hb,b1,b2,⟨b3,st,h2⟩|⟨gr,h2⟩⟩⟩
 ·exact⟨⟨.lfr,.inr (.inr (.inr (.inr (.inl rfl))))⟩,rfl,Z0c (P:=.lfr) {q with x:={q.x with at_:=1,then_:=.func (.func 195) #[] #[ptrV b1]},b1:=b1} ⟨⟨K,hp,ho,M⟩,rfl,hrv,hsg,rfl⟩ (h2.pk9 [0,4,2,5,6,7,8,3,1])⟩
 ·exact⟨⟨.lfree,.inr (.inr (.inr (.inr (.inr (.inl rfl)))))⟩,rfl,Z0c (P:=.lfree) {q with x:={q.x with at_:=1,then_:=.func (.func 196) #[] #[ptrV b1,ptrV b2,ptrV b3]},b1:=b1,b2:=b2,b3:=b3,ad:=b,vl:=st} ⟨⟨K,hp,ho,M⟩,rfl,hrv,hsg,rfl,hb⟩ (h2.pk11 [0,6,4,7,8,9,10,5,1,2,3])⟩
 ·exact⟨⟨.rd 0,.inr (.inr (.inr (.inr (.inr (.inr (.inl rfl))))))⟩,rfl,Z0c (P:=.rd 0) {q with x:={q.x with at_:=3,addr:=c.words+b,use_:=.func (.func 198) #[] #[ptrV b1,ptrV b2],loads:=0,read:=ptrV gr},gk:=gr,ad:=c.words+b,bf:=0,vl:=0,b1:=b1,b2:=b2,fb:=some b} ⟨⟨K,hp,ho,M⟩,rfl,hrv,fun h=>absurd (hsg.symm.trans h) (by decide),rfl,rfl,rfl,⟨by show 0<=c.words+b;omega,by show c.words+b<_;omega⟩,⟨rfl,hb⟩,fun h=>absurd h (by decide)⟩ (h2.pk11 [0,6,4,7,8,9,10,5,1,2,3])⟩
theorem Zih (hc:CfA c) {v:Int} (hv:v=1\/v=2/\sg=false) (q:QD) (hq:ph c sg s q .idle) (h:Hold w0 w (sepR (ps g m c q .idle) F)) :
  Calls Tryz.prog 62 #[ptrV g,.int .i64 v] w (Zb7 w0 g m c sg s F (fun P=>P = .lend)):=by
 obtain⟨⟨K,hp,ho,M⟩,hat,hrv⟩:=hq;have key:Calls Tryz.prog 62 #[ptrV g,.int .i64 v] w fun e w'=>∃b1 b2,e = .returned (.int .i64 0)/\Hold w0 w' (sepR [atA g c {q.x with at_:=1,then_:=.func (.func 108) #[] #[ptrV b1,ptrV b2]},blkA 108 b1 #[ptrV g],blkA 3 b2 #[.int .i64 v],memA m q.C,lgA q.x.log q.L,queA 3 q.x.allocs (iL q.al),queA 3 q.x.frees (iL q.fr),queA 3 q.x.seen (iL q.sn),stA q.x.set (Z09 c.reads) q.xs,enA q.ge 0 3 q.rv] F):=by
  rcases hv with rfl|⟨rfl,_⟩
  ·exact Zjk h hat K.st1
  ·exact Zh2 h hat K.st1
 refine key.mono ?_;rintro e w' ⟨b1,b2,rfl,h2⟩;exact⟨⟨.lend,rfl⟩,rfl,Z0c (P:=.lend) {q with x:={q.x with at_:=1,then_:=.func (.func 108) #[] #[ptrV b1,ptrV b2]},b1:=b1,b2:=b2,ad:=v} ⟨⟨K,hp,ho,M⟩,rfl,hrv,rfl,hv⟩ (h2.pkS 10 [0,3,4,5,6,7,8,9,1,2])⟩
end
def mS (m:Nat) (c:Cfg) (s:Nat):Asr:=Asr.exs (fun z:(Nat->List Int) × Int × Int=>(0<=z.2.2/\z.2.2<=s)/\MI c z.2.1 z.2.2 z.2.2 z.2.1 [] z.1) (fun z=>[memA m z.1])
section
variable {w0 w:World} {R F:Asr} {g m s:Nat} {c:Cfg} {sg:Bool}
theorem Z2t {C:Nat->List Int} {ck t:Int} (ht:0<=t/\t<=s) (M:MI c ck t t ck [] C) (h:Hold w0 w (memA m C*F)):Hold w0 w (mS m c s*F):=Hold.Zlr (C,ck,t) ⟨ht,M⟩ h
theorem Zkd (h:Hold w0 w (mS m c s*F)):Hold w0 w (mS m c (s+1)*F):=by
 obtain⟨z,⟨h1,h2⟩,h3⟩:=h.Zlq;exact Z2t ⟨h1.1,by omega⟩ h2 h3
theorem clk0:(0:Int)<=0/\(0:Int)<=1000:=by decide
theorem cd0 {sg:Bool}:Zcs sg 0 0:=⟨by decide,fun h=>absurd rfl h⟩
theorem cd6 {sg:Bool} {st:Nat}:Zcs sg st 6:=⟨by decide,fun _ _=>.inr rfl⟩
theorem Zbd (hc:CfA c) {gs gl ge:Nat} (h:Hold w0 w (atA g c {Z32 gs gl 0 with state:=1,at_:=2,enter:=ptrV ge}*(enA ge 0 0 0*(stA gs (Z09 c.reads) []*(lgA gl (newL c.writes)*(mS m c s*F)))))):Hold w0 w (aS g m c sg s (.en 0)*F):=by
 have h:Hold w0 w (mS m c s*sepR [atA g c {Z32 gs gl 0 with state:=1,at_:=2,enter:=ptrV ge},enA ge 0 0 0,stA gs (Z09 c.reads) [],lgA gl (newL c.writes)] F):=h.pk5 [4,0,1,2,3];obtain⟨z,⟨ht,M⟩,h⟩:=h.Zlq;have h:Hold w0 w (sepR [memA m z.1,atA g c {Z32 gs gl 0 with state:=1,at_:=2,enter:=ptrV ge},enA ge 0 0 0,stA gs (Z09 c.reads) [],lgA gl (newL c.writes)] F):=h;have h1:=((h.nilQue 3).nilQue 3).nilQue 3;refine Z0c (P:=.en 0) {x:={Z32 gs gl 0 with state:=1,at_:=2,enter:=ptrV ge},L:=newL c.writes,al:=[],fr:=[],sn:=[],xs:=[],C:=z.1,ge:=ge,rv:=0,ck:=z.2.1,t:=z.2.2} ⟨⟨⟨rfl,rfl,rfl,⟨none,0,rfl⟩,⟨none,0,rfl⟩,⟨none,0,rfl⟩,⟨Zg7 _,fun a h=>?_⟩,hc.wr,fun b h=>(by cases h),fun b h=>(by cases h),by show 0<=2;omega,Nat.zero_le _,Nat.zero_le _,Nat.zero_le _,fun b h=>(by cases h),clk0,cd0,ht⟩,rfl,rfl,M⟩,rfl,.inl ⟨by decide,rfl⟩,rfl,rfl⟩ (h1.pk8 [4,3,7,0,1,2,6,5]);exact absurd h (by show a ∉ ([]:List Int);simp)
theorem Zlh (hc:CfA c) (hs:s<=900):Stp g m c sg s (.en 0) 2 (fun P=>P = .en 1):=by
 rintro q ⟨⟨K,hp,ho,M⟩,hat,hrv,hfx,hfL⟩;have hr:q.rv=0:=by omega
 refine⟨opA q.C 2 6 0 1 true,fun w0 w F h=>?_⟩;refine Z2v h hat (stD (l:=ps g m c q (.en 0)) (F:=F) (Q:=fun P:{P:AP // P = .en 1}=>aS g m c sg (s+1) P.1) fun w' F' h=>?_);refine(Z89 (h.pkS 8 [0,7,1,2,3,4,5,6]) K.ent M.ok ⟨by omega,by omega⟩ ⟨by decide,by decide⟩ rfl rfl).mono ?_;rintro e w'' ⟨rfl,h2⟩;exact⟨⟨.en 1,rfl⟩,rfl,Z0c (P:=.en 1) {q with C:=opC q.C 6 0 1 true} ⟨⟨K.up,hp,ho,M.side (.inr rfl)⟩,hat,.inl ⟨by decide,hr⟩,hfx,hfL⟩ (h2.pk8 [0,2,3,4,5,6,7,1])⟩
theorem s_de (hc:CfA c) (hs:s<=900):Stp g m c sg s .de 16 (fun P=>P = .pa\/(∃r,r<=8/\P = .wr r)\/∃r,r<=8/\P = .re r):=by
 rintro q ⟨⟨K,hp,hrv,htu,⟨hy,hn⟩,M⟩,hat⟩;have hckr:=M.ck.2;have hg:=(Z1z (v:=valC q.C 3 0) (d:=true) M.has3 1).trans M.ck.1;have hcl:=hc.clk;refine⟨opA q.C 1 3 0 (valC q.C 3 0) true,fun w0 w F h=>?_⟩;refine Z6n h hat (stD (l:=ps g m c q .de) (F:=F) (Q:=fun P:{P:AP // P = .pa\/(∃r,r<=8/\P = .wr r)\/∃r,r<=8/\P = .re r}=>aS g m c sg (s+1) P.1) fun w' F' h=>?_)
 cases hhl:q.hl with
 | false =>
  obtain⟨ho,hns⟩:=hn hhl;rw[hhl] at M;refine(Z4g (h.pkS 10 [0,2,1,3,4,5,6,7,8]) rfl M.ok rfl (by rw[hg];omega) hns ho).mono ?_;rintro e w'' ⟨_,rfl,h2⟩;exact⟨⟨.pa,.inl rfl⟩,rfl,Z0c (P:=.pa) {q with x:={q.x with clock:=(opA q.C 1 3 0 (valC q.C 3 0) true).got,decided:=true,at_:=12}} ⟨{K.up with ckr:=by show 0<=(opA q.C 1 3 0 (valC q.C 3 0) true).got/\_;rw[hg];exact hckr},hp,rfl,htu,M⟩ (h2.pk9 [0,2,1,3,4,5,6,7,8])⟩
 | true =>
  obtain⟨hcd,hL,hlk,⟨A,cp,ho⟩,hol,⟨n0,n8⟩,hor,hov⟩:=hy hhl;rw[hhl] at M;have M:MI c q.ck (q.t+1) q.t q.ck q.os q.C:=M;have el:lokP q=lkA q.gk 0 q.os q.old false q.s1*queA 3 q.x.orecs (iL q.os):=by unfold lokP;rw[hhl];rfl
  have h1:Hold w0 w' (sepR [atA g c q.x,lgA q.x.log q.L,memA m q.C,lkA q.gk 0 q.os q.old false q.s1,queA 3 q.x.orecs (iL q.os),queA 3 q.x.allocs (iL q.al),queA 3 q.x.frees (iL q.fr),queA 3 q.x.seen (iL q.sn),stA q.x.set (Z09 c.reads) q.xs,enA q.ge 0 3 q.rv,tuA q.gt true q.t true] F'):=by
   have h3:=h.pkS 10 [9,0,2,1,3,4,5,6,7,8];have h4:Hold w0 w' ((lkA q.gk 0 q.os q.old false q.s1*queA 3 q.x.orecs (iL q.os))*sepR [atA g c q.x,lgA q.x.log q.L,memA m q.C,queA 3 q.x.allocs (iL q.al),queA 3 q.x.frees (iL q.fr),queA 3 q.x.seen (iL q.sn),stA q.x.set (Z09 c.reads) q.xs,enA q.ge 0 3 q.rv,tuA q.gt true q.t true] F'):=by rw[<- el];exact h3
   exact(h4.imp (Imp.assoc _ _ _)).pk11 [2,3,4,0,1,5,6,7,8,9,10]
  by_cases hlt:q.ck<c.clock
  ·refine(Z3w h1 rfl M.ok rfl (by rw[hg];omega) hcd K.log.inv hL (by rw[hg];exact hlt) (by omega)).mono ?_
   rintro e w'' ⟨gk,rfl,h2⟩;have hl8:=K.cap;have hi:=K.log.inv.le;exact⟨⟨.wr q.L.addrs.length,.inr (.inl ⟨_,by omega,rfl⟩)⟩,rfl,Z0c (P:=.wr q.L.addrs.length) {q with x:={q.x with clock:=(opA q.C 1 3 0 (valC q.C 3 0) true).got,decided:=true,at_:=9,write:=ptrV gk},gw:=gk,zs:=q.L.addrs,vs:=q.L.vals} ⟨{K.up with ckr:=by show 0<=(opA q.C 1 3 0 (valC q.C 3 0) true).got/\_;rw[hg];exact hckr},hp,rfl,htu,hcd,hL,⟨A,cp,ho⟩,⟨n0,n8⟩,hor,rfl,hg,by show q.ck<1000;omega,rfl,⟨rfl,K.log.inv.vlen,hL⟩,K.log.adr,M⟩ (h2.pk12 [0,3,2,6,7,8,9,10,11,1,5])⟩
  ·have h5:Hold w0 w' (sepR [atA g c q.x,lgA q.x.log q.L,memA m q.C,lkA q.gk 0 q.os q.old false q.s1,queA 3 (.slice A q.os.length cp) (iL q.os),queA 3 q.x.allocs (iL q.al),queA 3 q.x.frees (iL q.fr),queA 3 q.x.seen (iL q.sn),stA q.x.set (Z09 c.reads) q.xs,enA q.ge 0 3 q.rv,tuA q.gt true q.t true] F'):=by rw[<- ho];exact h1
   refine(Z4h h5 rfl M.ok rfl (by rw[hg];omega) hcd hL hcl.1 (by rw[hg];omega) ho hlk rfl n0 (by omega) hol).mono ?_;rintro e w'' ⟨gr,rfl,h2⟩;exact⟨⟨.re q.os.length,.inr (.inr ⟨_,n8,rfl⟩)⟩,rfl,Z0c (P:=.re q.os.length) {q with x:={q.x with clock:=(opA q.C 1 3 0 (valC q.C 3 0) true).got,code:=6,at_:=10,release:=ptrV gr},gw:=gr,zs:=q.os,vs:=q.old,cm:=false} ⟨{K.up with cod:=cd6,ckr:=by show 0<=(opA q.C 1 3 0 (valC q.C 3 0) true).got/\_;rw[hg];exact hckr},hp,rfl,htu,rfl,⟨rfl,hol,n0⟩,hor,fun h=>absurd (show false=true from h) (by decide),fun _=>⟨rfl,hov,M⟩⟩ (h2.pk12 [0,5,4,6,7,8,9,10,11,1])⟩
theorem Zhi (q:QD) (P:AP):∃k l,ps g m c q P=clx g m c q k l:=by cases P <;> exact⟨_,_,rfl⟩
theorem Zli {q:QD} {P:AP} (h:ph c sg s q P):∃st,CFq c sg s q st:=by
 cases P <;> (first|exact⟨_,h.1⟩|exact⟨_,h.1.1⟩|exact⟨_,h.1.1.1⟩)
theorem Zkz {P:AP} (q:QD) (hq:ph c sg s q P):Imp (sepR (ps g m c q P) F) (aS g m c sg s P*F):=(Imp.fold F _).trans (Imp.on F fun w fp h=>⟨fp,⟨⟨q,hq⟩,h⟩,fun _ hb=>hb⟩)
theorem Zha (hs:s<=1000) {P:AP} (h:Hold w0 w (aS g m c sg s P*F)) :
  Calls Tryz.prog 59 #[ptrV g] w fun e w'=>∃A2 n c2 A3 c3 sn ws,ws.length<=32/\e = .returned (.tuple #[.slice A2 n c2,.slice A3 ws.length c3])/\(n=sn.length/\n<=1000)/\Hold w0 w' (queA 3 (.slice A2 n c2) (iL sn)*(queA 3 (.slice A3 ws.length c3) (iL ws)*(aS g m c sg s P*F))):=by
 obtain⟨q,hq,h⟩:=h.Zlq;obtain⟨st,K⟩:=Zli hq;obtain⟨k,l,hl⟩:=Zhi (g:=g) (m:=m) (c:=c) q P;obtain⟨A1,cp,hsn⟩:=K.sns;have hsl:=K.snl;rw[hl] at h;have h1:Hold w0 w (sepR [queA 3 (.slice A1 q.sn.length cp) (iL q.sn),atA g c q.x,memA m q.C,lgA q.x.log q.L,queA 3 q.x.allocs (iL q.al),queA 3 q.x.frees (iL q.fr)] (sepR (stA q.x.set (Z09 c.reads) q.xs::enA q.ge 0 k q.rv::l) F)):=by rw[<- hsn];exact Hold.pk6 h [5,0,1,2,3,4]
 refine(Zct (h1.pkS 6 [1,3,0,2,4,5]) rfl hsn K.log.inv rfl (by omega)).mono ?_;rintro e w' ⟨A2,c2,A3,c3,ws,h32,rfl,h2⟩;refine⟨A2,q.sn.length,c2,A3,c3,q.sn,ws,h32,rfl,⟨rfl,by omega⟩,?_⟩;have h3:Hold w0 w' (queA 3 (.slice A2 q.sn.length c2) (iL q.sn)*(queA 3 (.slice A3 ws.length c3) (iL ws)*sepR [atA g c q.x,memA m q.C,lgA q.x.log q.L,queA 3 q.x.allocs (iL q.al),queA 3 q.x.frees (iL q.fr),queA 3 q.x.seen (iL q.sn)] (sepR (stA q.x.set (Z09 c.reads) q.xs::enA q.ge 0 k q.rv::l) F))):=by
  rw[show queA 3 q.x.seen (iL q.sn)=queA 3 (.slice A1 q.sn.length cp) (iL q.sn) by rw[hsn]];exact h2.pk8 [0,1,2,5,3,6,7,4]
 have key:=Zkz (g:=g) (m:=m) (F:=F) q hq;rw[hl] at key;exact h3.imp (Imp.under _ (Imp.under _ key))
end
end Go.Proofs.YtmlfangeanmmeaaGreatDoor
namespace Go.Proofs.YtmlfangeanmmeaaGreatDoor
open Go
def Z4b (op:Nat):List UInt8:=([[],[65,73],[65,66],[65,66,67],[73],[65,73],[65,73],[73],[],[],[65,66,73],[65,66,73],[65,66,73],[65,66,73],[65,73],[65],[],[65]]:List (List UInt8)).getD op []
def Z1r (ch:UInt8) (op:Int):Bool:=(Z4b op.toNat).contains ch
def Z5f (u:Bool) (r:Int):Prop:=if u=true then 0<=r/\r<8 else r=0
def Z8w (op imm:Int):Prop :=
 if op=1\/op=10\/op=11\/op=12\/op=13 then True else if op=3 then 0<=imm/\imm<22 else if op=4\/op=5\/op=6 then 0<=imm/\imm<=64 else if op=7 then 1<=imm/\imm<=8 else if op=14 then 0<=imm/\imm<4 else imm=0
structure InsV (i:InsR):Prop where
 op:0<=i.op/\i.op<18
 a:Z5f (Z1r 65 i.op) i.a
 b:Z5f (Z1r 66 i.op) i.b
 c:Z5f (Z1r 67 i.op) i.c
 n:Z8w i.op i.imm
 imm:0<=i.imm/\i.imm<=1000
 fn:i.op=3->i.imm=0\/i.imm=1\/i.imm=5\/i.imm=8\/i.imm=11\/i.imm=12
 al:i.op=14->i.imm<=1
def plcG (op:Int):Int:=if op=7\/op=12\/op=13\/op=16\/op=17 then 2 else if op=8\/op=9\/op=10\/op=11\/op=14\/op=15 then 1 else 0
def isJ (op:Int):Bool:=op==4 || op==5 || op==6
structure ProgV (p:List InsR):Prop where
 len:p.length<=64
 ins:∀(k:Nat) i,p[k]?=some i->InsV i
 plc:∀(k:Nat) i,p[k]?=some i->(plcG i.op=1->inT p k=true)/\(plcG i.op=2->inT p k=false)
def JmpAt (p:List InsR) (k:Nat) (n:Int):Prop:=(k:Int)+1+n<=p.length/\(inT p k=true->∀(j:Nat) y,k<=j->(j:Int)<k+1+n->p[j]?=some y->y.op≠8)/\(inT p k=false->inT p ((k:Int)+1+n).toNat=false)
def ProgJ (p:List InsR):Prop:=∀(k:Nat) i,p[k]?=some i->isJ i.op=true->JmpAt p k i.imm
def bgAt (p:List InsR):Nat->Int
 | 0=>-1
 | k+1=>match p[k]? with|some i=>if i.op=7 then (k:Int) else if i.op=8 then -1 else bgAt p k|none=>bgAt p k
theorem Z3a {p:List InsR} {k:Nat} {i:InsR} (h:p[k]?=some i):bgAt p (k+1)=if i.op=7 then (k:Int) else if i.op=8 then -1 else bgAt p k:=by
 show (match p[k]? with|some i=>if i.op=7 then (k:Int) else if i.op=8 then -1 else bgAt p k|none=>bgAt p k)=_;rw[h]
theorem Z9c {p:List InsR} {k:Nat} (h:p[k]?=none):bgAt p (k+1)=bgAt p k:=by
 show (match p[k]? with|some i=>if i.op=7 then (k:Int) else if i.op=8 then -1 else bgAt p k|none=>bgAt p k)=_;rw[h]
theorem Z5v {p:List InsR} {k:Nat} (h:p[k]?=none):inT p (k+1)=inT p k:=by
 show (match p[k]? with|some i=>if i.op=7 then true else if i.op=8 then false else inT p k|none=>inT p k)=_;rw[h]
theorem Z19 (p:List InsR):∀k:Nat,-1<=bgAt p k/\bgAt p k<k/\(inT p k=true->0<=bgAt p k)/\(inT p k=false->bgAt p k=-1) /\
  (0<=bgAt p k->(∃i,p[(bgAt p k).toNat]?=some i/\i.op=7)/\∀(j:Nat) i,bgAt p k<j->j<k->p[j]?=some i->i.op≠8)
 | 0=>⟨by show (-1:Int)<=-1;decide,by show (-1:Int)<0;decide,fun h=>(by cases h),fun _=>rfl,fun h=>absurd h (by show ¬(0:Int)<=-1;decide)⟩
 | k+1 => by
  obtain⟨h1,h2,h3,h4,h5⟩:=Z19 p k
  cases hp:p[k]? with
  | none =>
   rw[Z9c hp,Z5v hp];refine⟨h1,by omega,h3,h4,fun h=>⟨(h5 h).1,fun j i hb hj hi=>?_⟩⟩;rcases Nat.lt_or_ge j k with hj2|hj2
   ·exact(h5 h).2 j i hb hj2 hi
   ·obtain rfl:j=k:=by omega
    rw[hp] at hi;cases hi
  | some i =>
   rw[Z3a hp,Z1a hp]
   by_cases h7:i.op=7
   ·rw[if_pos h7,if_pos h7]
    refine⟨by omega,by omega,fun _=>by omega,fun h=>(by cases h),fun _=>⟨⟨i,by rw[show ((k:Int)).toNat=k by omega];exact hp,h7⟩,fun j i hb hj hi=>absurd hj (by omega)⟩⟩
   ·rw[if_neg h7,if_neg h7]
    by_cases h8:i.op=8
    ·rw[if_pos h8,if_pos h8]
     exact⟨by omega,by omega,fun h=>(by cases h),fun _=>rfl,fun h=>absurd h (by decide)⟩
    ·rw[if_neg h8,if_neg h8]
     refine⟨h1,by omega,h3,h4,fun h=>⟨(h5 h).1,fun j y hb hj hi=>?_⟩⟩;rcases Nat.lt_or_ge j k with hj2|hj2
     ·exact(h5 h).2 j y hb hj2 hi
     ·obtain rfl:j=k:=by omega
      rw[hp] at hi;injection hi with hi
      rw[<- hi];exact h8
theorem Z3r {p:List InsR} {b:Nat} (hb:inT p b=true):∀{m:Nat},b<=m->(∀(j:Nat) i,b<=j->j<m->p[j]?=some i->i.op≠8)->inT p m=true
 | 0, h, _ => by obtain rfl:b=0:=by omega
                 exact hb
 | m+1,h,hn=>by
  rcases Nat.lt_or_ge m b with h1|h1
  ·obtain rfl:b=m+1:=by omega
   exact hb
  ·have ih:=Z3r hb (m:=m) h1 fun j i hj hj2 hi=>hn j i hj (by omega) hi
   cases hp:p[m]? with
   | none=>rw[Z5v hp];exact ih
   | some i =>
    rw[Z1a hp]
    by_cases h7:i.op=7
    ·rw[if_pos h7]
    ·rw[if_neg h7,if_neg (hn m i h1 (by omega) hp)];exact ih
theorem Z4a {p:List InsR} {b:Nat} {i:InsR} (hb:p[b]?=some i) (h7:i.op=7):inT p (b+1)=true:=by rw[Z1a hb,if_pos h7]
theorem Zc6 {p:List InsR} (hp:ProgV p) {a:Nat} (ha:inT p a=true):∀{m:Nat},a<=m->(∀(j:Nat) i,a<=j->j<m->p[j]?=some i->i.op≠8)->bgAt p m=bgAt p a
 | 0, h, _ => by obtain rfl:a=0:=by omega
                 rfl
 | m+1,h,hn=>by
  rcases Nat.lt_or_ge m a with h1|h1
  ·obtain rfl:a=m+1:=by omega
   rfl
  ·have hn2:∀(j:Nat) i,a<=j->j<m->p[j]?=some i->i.op≠8:=fun j i hj hj2 hi=>hn j i hj (by omega) hi
   have ih:=Zc6 hp ha h1 hn2;have hin:=Z3r ha h1 hn2
   cases hpm:p[m]? with
   | none=>rw[Z9c hpm];exact ih
   | some i =>
    have h7:i.op≠7:=by
     intro h7;have:=(hp.plc m i hpm).2 (by unfold plcG;rw[if_pos (.inl h7)]);rw[hin] at this;cases this
    rw[Z3a hpm,if_neg h7,if_neg (hn m i h1 (by omega) hpm)];exact ih
section
variable {p:List InsR}
theorem Z6b {b k:Nat} (hk:b+1<=k) (hkl:k<p.length) (h8:(p[k]'hkl).op=8) (hno:∀j (hj:j<p.length),b+1<=j->j<k->(p[j]'hj).op≠8):Z0h p (b:Int)=(k:Int):=by
 have e:(p.drop ((b:Int).toNat+1)).findIdx? (fun i=>i.op==8)=some (k - (b+1)):=by
  rw[show ((b:Int).toNat+1)=b+1 by omega,List.findIdx?_eq_some_iff_getElem];refine⟨by rw[List.length_drop];omega,?_,fun j hj=>?_⟩
  ·simp only[List.getElem_drop,beq_iff_eq]
   rw[<- h8];congr 2;omega
  ·simp only[List.getElem_drop,beq_iff_eq]
   exact hno _ _ (by omega) (by omega)
 unfold Z0h;rw[e];show (b:Int)+1+((k - (b+1):Nat):Int)=_;omega
theorem Z7y {b:Nat} (hno:∀j (hj:j<p.length),b+1<=j->(p[j]'hj).op≠8):Z0h p (b:Int)=(p.length:Int):=by
 have e:(p.drop ((b:Int).toNat+1)).findIdx? (fun i=>i.op==8)=none:=by
  rw[show ((b:Int).toNat+1)=b+1 by omega,List.findIdx?_eq_none_iff];intro x hx;obtain⟨j,hj,rfl⟩:=List.getElem_of_mem hx;rw[List.getElem_drop];rw[List.length_drop] at hj;exact beq_eq_false_iff_ne.2 (hno _ _ (by omega))
 unfold Z0h;rw[e]
theorem Z1b (hf:inT p p.length=false) {b:Nat} {i:InsR} (hi:p[b]?=some i) (h7:i.op=7) :
  ∃j:Nat,Z0h p (b:Int)=j/\b<j/\j<p.length/\(∃y,p[j]?=some y/\y.op=8)/\inT p (j+1)=false/\(∀(m:Nat) y,b<=m->m<j->p[m]?=some y->y.op≠8):=by
 have hb:=(List.getElem?_eq_some_iff.1 hi).1
 by_cases hex:∃j,∃hj:j<p.length,b+1<=j/\(p[j]'hj).op=8
 ·obtain⟨j,⟨hj,hbj,h8⟩,hmin⟩:∃j,(∃hj:j<p.length,b+1<=j/\(p[j]'hj).op=8)/\∀m,m<j->¬∃hj:m<p.length,b+1<=m/\(p[m]'hj).op=8:=by
   have:=Classical.not_not.2 hex;obtain⟨j,hj⟩:=hex
   induction j using Nat.strongRecOn with
   | ind j ih =>
    by_cases h:∃m,m<j/\∃hj:m<p.length,b+1<=m/\(p[m]'hj).op=8
    ·obtain⟨m,hm,hh⟩:=h
     exact ih m hm hh
    ·exact⟨j,hj,fun m hm hh=>h ⟨m,hm,hh⟩⟩
  refine⟨j,Z6b hbj hj h8 fun m hm h1 h2 h3=>hmin m h2 ⟨hm,h1,h3⟩,by omega,hj,⟨_,List.getElem?_eq_getElem hj,h8⟩,?_,fun m y h1 h2 hy h3=>?_⟩
  ·rw[Z1a (List.getElem?_eq_getElem hj),if_neg (by rw[h8];decide),if_pos h8]
  ·rcases Nat.lt_or_ge b m with h4|h4
   ·obtain⟨hm,e⟩:=List.getElem?_eq_some_iff.1 hy
    exact hmin m h2 ⟨hm,by omega,by rw[e];exact h3⟩
   ·obtain rfl:m=b:=by omega
    rw[hi] at hy;injection hy with hy
    rw[<- hy,h7] at h3;exact absurd h3 (by decide)
 ·have:=Z3r (Z4a hi h7) (m:=p.length) (by omega) fun m y h1 h2 hy h3=>hex ⟨m,h2,h1,by
   obtain⟨_,e⟩:=List.getElem?_eq_some_iff.1 hy;rw[e];exact h3⟩
  rw[hf] at this;cases this
end
end Go.Proofs.YtmlfangeanmmeaaGreatDoor
namespace Go.Proofs.YtmlfangeanmmeaaGreatDoor
open Go.RowKit
section
variable {w0 w:World} {R R':Asr} {t n cp:Nat} {c:Cfg} {x:ThR} {A:Option Addr} {p:Int}
theorem Zba (h:Hold w0 w (thA t c x*R)) (h0:0<=x.count/\x.count<=1000000) :
  Calls Tryz.prog 66 #[ptrV t] w fun e w'=>∃g gs gl ge,e = .returned (.tuple #[])/\Hold w0 w' (thA t c {x with attempt:=ptrV g,seen:=.slice none 0 0,count:=x.count+1}*(atA g c {Z32 gs gl x.id with state:=1,at_:=2,enter:=ptrV ge}*(enA ge x.id 0 0*(stA gs (Z09 c.reads) []*(lgA gl (newL c.writes)*R))))):=by
 obtain⟨k,hk⟩:∃k,k=x.count:=⟨_,rfl⟩;obtain⟨d,hd⟩:∃d,d=x.id:=⟨_,rfl⟩;rw[<- hk] at h0 |-;have HX:=hid (And.intro hk hd);clear hk hd;replace h:=h.drew;go_enter Tryz.func66,Tryz.ntmps66;go_upto_region 0 with fail
 refine Z01 [] (by kernel_rfl) ?_;generalize hW:w.drew=W at h |-;clear hW;refine Z04 (fun w'=>w'.cell? ⟨t,29,none⟩=some (.int .i64 d)) (fun _ _=>trivial) _ _ _ _ ?_;have hid0:W.cell? ⟨t,29,none⟩=some (.int .i64 d):=by rw[HX.out.2];exact h.th_id
 refine' wby [true,true,true,true,true,false,true,true,true,true] 32 hid0 ?_;refine wbi 5 (fuel:=9) (fun QB hQB hQX=>?_);go_wp2_with (refine Z0l rfl 32 _ rfl t 16 116 46 _ c.cells rfl Tryz.isAgg32 13 Tryz.sizeOf32 h rfl (by decide) ?_);go_wp2_with fail;refine hQB.out _ _ hid0 ?_;clear hQB hQX QB;refine wbi 10 (fuel:=8) (fun QB hQB hQX=>?_);go_wp2_with fail;refine(Zkw w0 W _ c d h).mono ?_;rintro e w1 ⟨g,gs,gl,rfl,h1'⟩;have h1:Hold w0 w1 (thA t c x*(atA g c (Z32 gs gl d)*(stA gs (Z09 c.reads) []*(lgA gl (newL c.writes)*R)))):=h1'.pk4 [3,0,1,2];have hs1:w1.cell? ⟨t,29,none⟩=some (.int .i64 d):=by rw[HX.out.2];exact h1.th_id
 clear h h1' hid0;go_wp2_with fail;refine hQB.out _ _ hs1 ?_;clear hQB hQX QB;refine' wby [false,false,false,false,false,false,false,false,false,false,false,true,true,true] 32 hs1 ?_;refine wbi 14 (fuel:=4) (fun QB hQB hQX=>?_);have p1:=h1.Zlw;have z1:=h1.thZ 0;have H2:=hid (h1.th_attempt_set (ptrV g));have hs2:Hid ((w1.setCell ⟨t,0,none⟩ (ptrV g)).cell? ⟨t,29,none⟩=some (.int .i64 d)):=hid (by rw[HX.out.2];exact H2.out.th_id);clear h1;go_wp2_with fail;refine hQB.out _ _ hs2.out ?_;clear hQB hQX QB p1 z1 hs1;have h2:=H2.out;have hs1:=hs2.out;generalize hW:World.setCell _ _ _=W2 at h2 hs1 |-;clear hW H2 hs2;refine' wby [false,false,false,false,false,false,false,false,false,false,false,false,false,false,false,true,true,true] 32 hs1 ?_;refine wbi 18 (fuel:=0) (fun QB hQB hQX=>?_);have p1:=h2.th_seen;have z1:=h2.thZ 11;have H3:=hid (h2.th_seen_set (.slice none 0 0));have hs2:Hid ((W2.setCell ⟨t,11,none⟩ (.slice none 0 0)).cell? ⟨t,29,none⟩=some (.int .i64 d)):=hid (by rw[HX.out.2];exact H3.out.th_id);clear h2;go_wp2_with fail;refine hQB.out _ _ hs2.out ?_;clear hQB hQX QB p1 z1 hs1 hs2;refine Z02 (by kernel_rfl) ?_ _;have h3:=H3.out;generalize hW:World.setCell _ _ _=W3 at h3 |-;clear hW H3;have p1:=h3.th_count;rw[show ({x with attempt:=ptrV g,seen:=.slice none 0 0}:ThR).count=x.count from rfl,<- HX.out.1] at p1;have z1:=h3.thZ 45;have H4:=hid (h3.th_count_set (k+1));clear h3;go_upto_region 2 with fail
 have h4:=H4.out;generalize hW:World.setCell _ _ _=W4 at h4 |-;clear hW H4 p1 z1;have q:=h4.Zlw;have HB:=hid (Zh3 h4.swap rfl rfl);clear h4;go_wp2_with fail;refine HB.out.mono ?_;rintro e w5 ⟨ge,rfl,h5⟩;have H5:Hid (Hold w0 w5 (thA t c {x with attempt:=ptrV g,seen:=.slice none 0 0,count:=k+1}*(atA g c {Z32 gs gl d with state:=1,at_:=2,enter:=ptrV ge}*(enA ge d 0 0*(stA gs (Z09 c.reads) []*(lgA gl (newL c.writes)*R)))))):=hid (h5.pk3 [2,0,1]);clear HB h5 q;rw[HX.out.2] at H5;go_wp2_with fail
 go_end0
 exact⟨g,gs,gl,ge,rfl,H5.out⟩
end
end Go.Proofs.YtmlfangeanmmeaaGreatDoor
