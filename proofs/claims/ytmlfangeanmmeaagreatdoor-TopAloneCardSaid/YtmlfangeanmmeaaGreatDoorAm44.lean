/-
 What the proof of TopAlone leans on, part 44 of 49: Qh, Qi, Qj, Za, Zb, Zc. No statement of its own.
-/
import Derived.Test.YtmlfangeanmmeaaGreatDoorAm40
import Derived.Test.YtmlfangeanmmeaaGreatDoorAm43
set_option maxHeartbeats 16000000
set_option maxRecDepth 8000
set_option linter.unusedVariables false
namespace Go.Proofs.YtmlfangeanmmeaaGreatDoor
open Go.RowKit
section
variable {w0 w:World} {R F:Asr} {t g m s k E u a:Nat} {c:Cfg} {sg:Bool} {p:List InsR} {i:InsR} {q:TD} {P P':AP} {ph:Int}
abbrev StGo (w0:World) (t m:Nat) (c:Cfg) (p:List InsR) (s:Nat) (q:TD) (T:TP):Prop:=∀w F R,Hold w0 w (F*sepR (tps t m c p s q T) R)->Calls Tryz.prog 19 #[ptrV t,ptrV m] w (StZ w0 t c F (GoQ w0 t m c p s (q.b+tE T) (tmu p q T - 1) R))
theorem Zcw (h:Hold w0 w (aS g m c sg s .idle*F)):Hold w0 w (aS g m c sg (s+1) .idle*F):=by
 obtain⟨q,⟨⟨K,h1,h2,h3⟩,h4,h5⟩,h⟩:=Zcx h;exact Z0c (P:=.idle) q ⟨⟨K.up,h1,h2,h3⟩,h4,h5⟩ h
def OkR (i:InsR) (P:AP):Prop:=bzA P=true/\gdA P=true/\(∀j,P ≠ .en j)/\P.msr<=55/\(i.op=8->endP P=true)
theorem Zk9 (h8:i.op≠8) (h:okQ P):OkR i P:=by
 rcases h with rfl|rfl|rfl|rfl|rfl|rfl|rfl|rfl <;> exact⟨rfl,rfl,fun j h=>(by cases h),by decide,fun h=>absurd h h8⟩
theorem Zin:OkR i .lend:=⟨rfl,rfl,fun j h=>(by cases h),by decide,fun _=>rfl⟩
theorem k_lt (K:TC c p s k q) (hd:q.x.done=false):k<p.length:=by
 have h1:=K.dn;rw[hd] at h1;have h2:=K.kl;have h3:(k:Int)≠(p.length:Int):=beq_eq_false_iff_ne.1 h1.symm;omega
theorem Z9r (hc:CfA c) (hp:PgA p) (hF:Z17 w0) (hs:s<=899) (hq:tph c p s q (.txn k P)) (hb:bzA P=true):StGo w0 t m c p s q (.txn k P):=by
 obtain⟨K,ha,hfe,hdr,hst,hsn,hbg,hB,htx,hcm⟩:=hq;intro w F R h;have hkl:=hB.lt hp;have hi:=List.getElem?_eq_getElem hkl;have hdn:q.x.done=false:=by rw[K.dn];exact beq_eq_false_iff_ne.2 (by omega)
 have hne2:∀ph P',NxA P ph P'->ph≠2:=fun ph P' hn=>by
  rcases htx with⟨rfl|rfl,-⟩|⟨h1,-⟩
  ·rcases hn with⟨h1,_⟩|⟨_,_,h1⟩|⟨_,_,h1⟩|⟨_,_,h1,_⟩
   ·cases h1
   ·omega
   ·omega
   ·exact h1.1
  ·rcases hn with⟨h1,_⟩|⟨_,_,h1⟩|⟨_,_,h1⟩|⟨_,_,h1,_⟩
   ·cases h1
   ·omega
   ·omega
   ·exact h1.1
  ·rcases h1 with rfl|⟨_,h1,_⟩
   ·cases hb
   ·exact Zg6 h1 hn
 have hg:gdA P=true:=by
  rcases htx with⟨rfl|rfl,-⟩|⟨rfl|⟨_,_,h1⟩,-⟩
  ·rfl
  ·rfl
  ·rfl
  ·exact h1
 refine Z3d (R:=sepR [obsA q.x.obs q.obs,limA q.gl c q.es,obsA q.x.seen q.seen,aS q.g m c false s P] R) h K.code K.pc hi hdn (fun ph X Y h=>h.1) (.inr ⟨hfe,.inl ⟨ha,fun F w h=>?_,fun F w h=>?_⟩⟩)
 ·have h1:=Z6i (Hold.pk7 h [6,0,1,2,3,4,5])
  rwa [hb] at h1
 ·refine Zb1 (E:=q.b+1) hc hp hF hs K.up K.esl K.obl ha hfe hdr hst hsn hbg hB hi hb hg ?_ hcm (fun ph P' hn=>by rw[if_neg (hne2 ph P' hn)]) ?_ ?_ (Hold.pk7 h [0,1,6,2,3,4,5])
  ·rcases htx with⟨rfl|rfl,h1⟩|⟨h1,h2⟩
   ·exact .inl ⟨⟨1,rfl⟩,h1⟩
   ·exact .inl ⟨⟨2,rfl⟩,h1⟩
   ·rcases h1 with rfl|⟨_,h1,_⟩
    ·cases hb
    ·exact .inr ⟨h1,h2⟩
  ·rcases htx with⟨rfl|rfl,h1⟩|⟨h1,h2⟩
   ·exact Nat.le_refl _
   ·exact Nat.le_refl _
   ·rcases h1 with rfl|⟨_,h1,_⟩
    ·cases hb
    ·rw[Z9n h1 (Zjg hb)];omega
  ·intro h1
   rw[Z9n h1 (Zjg hb)];omega
theorem Z9q (hc:CfA c) (hp:PgA p) (hF:Z17 w0) (hs:s<=899) (hq:tph c p s q (.txn k .idle)):StGo w0 t m c p s q (.txn k .idle):=by
 obtain⟨K,ha,hfe,hdr,hst,hsn,hbg,hB,htx,hcm⟩:=hq;intro w F R h;have hkl:=hB.lt hp;have hi:=List.getElem?_eq_getElem hkl;have hlt:q.bg<k:=by
  rcases htx with⟨h1|h1,-⟩|⟨-,h2⟩
  ·cases h1
  ·cases h1
  ·exact h2
 have hin:=hB.in_ hp hlt;have hV:=hp.v.ins k _ hi;have hop:=hp.v.in_op hi hin;have hws:=Z3n hi;have hiw:=Z5u (p[k]'hkl).op;generalize p[k]'hkl=i at hi hV hop hws hiw;have hdn:q.x.done=false:=by rw[K.dn];exact beq_eq_false_iff_ne.2 (by omega)
 have hr:=hV.regs;have hpl:=hp.v.len;have hpc:=K.pc;have h18:=hV.op;refine Z3d (R:=sepR [obsA q.x.obs q.obs,limA q.gl c q.es,obsA q.x.seen q.seen,aS q.g m c false s .idle] R) h K.code K.pc hi hdn (fun ph X Y h=>h.1) (.inr ⟨hfe,.inr (.inr ⟨.inr ⟨ha,hst,fun F w h=>?_⟩,fun F w h=>?_⟩)⟩)
 ·exact Z6i (Hold.pk7 h [6,0,1,2,3,4,5])
 ·by_cases hloc:i.op<7
  ·refine Zhs (g:=q.g) (n:=p.length) (R:=sepR [Z0a (.slice q.A p.length q.cp) p,obsA q.x.obs q.obs,limA q.gl c q.es,obsA q.x.seen q.seen,aS q.g m c false s .idle] R) h (by omega) hr hV.imm hV.fn K.code ⟨by omega,by omega⟩ (.inr ha) ?_
   intro rg pc hpcc;have him:=hV.imm;obtain⟨k',hk',hB',hle⟩:∃k':Nat,pc=(k':Int)/\BgI p q.bg k'/\k+1<=k':=by
    rcases hpcc with h1|⟨hj,h1⟩
    ·exact⟨k+1,by omega,hB.next hp hi (by omega),Nat.le_refl _⟩
    ·exact⟨k+1+i.imm.toNat,by omega,hB.jump hp hlt (hp.j k i hi hj) him.1,by omega⟩
   refine⟨K.id0,{q with x:={q.x with regs:=rg,pc:=pc,done:=pc==(p.length:Int)}},.txn k' .idle,rfl,⟨K.up.go (Nat.le_of_lt (hB'.lt hp)) ⟨rfl,rfl,rfl,rfl⟩ ⟨rfl,rfl,rfl,rfl,rfl,rfl⟩ hk' (by show (pc==(p.length:Int))=_;rw[hk']) K.ob K.up.obl,ha,hfe,hdr,hst,⟨hsn.1,by have:=hsn.2;show q.obs.length+q.seen.length<=_;omega,by have:=hsn.2;show q.seen.length<=_;omega⟩,hbg,hB',.inr ⟨.inl rfl,by show q.bg<k';omega⟩,fun _ _ _ hz=>(by cases hz)⟩,rfl,?_,fun w G h=>?_⟩
   ·have:=Z3y p hle
    show wsum p k'+3*q.es.length+52<=wsum p k+3*q.es.length+52 - 1;omega
   ·have h1:=Zcw (Hold.pk6 h [5,0,1,2,3,4])
    exact h1.pk6 [1,2,3,4,5,0]
  ·have h64:insW i.op=64:=Z7t (by omega) hop.2.2.2.2
   refine Zkq (Q1:=fun j:{P:AP // OkR i P}=>aS q.g m c false s j.1*(Z0a (.slice q.A p.length q.cp) p*(obsA q.x.obs q.obs*(limA q.gl c q.es*(obsA q.x.seen q.seen*R))))) h (by omega) ?_ ?_
   ·intro F w h
    have cv:∀{f args},(∀q' w' F',ph c false s q' .idle->Hold w0 w' (sepR (ps q.g m c q' .idle) F')->Calls Tryz.prog f args w' fun e w''=>∃P:{P:AP // OkR i P},e = .returned (.int .i64 0)/\Hold w0 w'' (aS q.g m c false s P.1*F')) ->
      RqG w0 (thA t c q.x) (aS q.g m c false s .idle*(F*(Z0a (.slice q.A p.length q.cp) p*(obsA q.x.obs q.obs*(limA q.gl c q.es*(obsA q.x.seen q.seen*R)))))) (fun j:{P:AP // OkR i P}=>aS q.g m c false s j.1*(F*(Z0a (.slice q.A p.length q.cp) p*(obsA q.x.obs q.obs*(limA q.gl c q.es*(obsA q.x.seen q.seen*R)))))) f args:=fun H F2 w2 h2=>by
     obtain⟨q',hq',h3⟩:=Zcx (h2.pk3 [2,0,1]);refine(H q' _ _ hq' h3).mono ?_;rintro e w'' ⟨P,rfl,h4⟩;exact⟨P,rfl,h4.pk3 [1,2,0]⟩
    have qk:∀{e w'' F'},i.op≠8->Zb7 w0 q.g m c false s F' okQ e w''->∃P:{P:AP // OkR i P},e = .returned (.int .i64 0)/\Hold w0 w'' (aS q.g m c false s P.1*F'):=fun h8 ⟨P,h1,h2⟩=>⟨⟨P.1,Zk9 h8 P.2⟩,h1,h2⟩;have qe:∀{e w'' F'},Zb7 w0 q.g m c false s F' (fun P=>P = .lend) e w''->∃P:{P:AP // OkR i P},e = .returned (.int .i64 0)/\Hold w0 w'' (aS q.g m c false s P.1*F'):=fun⟨P,h1,h2⟩=>⟨⟨P.1,by rw[P.2];exact Zin⟩,h1,h2⟩;have nos:∀{X:Prop},(false=true->X):=fun h=>by cases h
    refine(Zi4 (g:=q.g) (i:=i) (Q:=fun j:{P:AP // OkR i P}=>aS q.g m c false s j.1*(F*(Z0a (.slice q.A p.length q.cp) p*(obsA q.x.obs q.obs*(limA q.gl c q.es*(obsA q.x.seen q.seen*R)))))) (Hold.pk7 h [1,6,0,2,3,4,5]) ha (by omega) ⟨hr.1,hr.2.1⟩ hV.imm
     (fun ho=>cv fun q' w' F' hq' h3=>(Zhg hc (Zb6 _ _ _) q' hq' nos h3).mono fun e w h=>qk (by omega) h)
     (fun ho=>cv fun q' w' F' hq' h3=>(Zdl hc (Zb6 _ _ _) q' hq' nos h3).mono fun e w h=>qk (by omega) h)
     (fun ho=>cv fun q' w' F' hq' h3=>(Zii hc rfl (by have:=hV.al ho;have:=hV.imm;omega) q' hq' h3).mono fun e w h=>qk (by omega) h)
     (fun ho=>cv fun q' w' F' hq' h3=>(Zk4 hc rfl q' hq' h3).mono fun e w h=>qk (by omega) h)
     (fun ho=>cv fun q' w' F' hq' h3=>(Zih hc (.inl rfl) q' hq' h3).mono fun e w h=>qe h)
     (fun ho=>cv fun q' w' F' hq' h3=>(Zih hc (.inr ⟨rfl,rfl⟩) q' hq' h3).mono fun e w h=>qe h)).mono ?_
    rintro e w' ⟨j,h1,h2⟩;exact⟨j,h1,h2.pk3 [2,0,1]⟩
   ·rintro F ⟨P,hP⟩ w h
    refine Zb1 (E:=q.b+1) hc hp hF hs K.up K.esl K.obl ha hfe hdr hst hsn hbg hB hi hP.1 hP.2.1 (.inr ⟨hP.2.2.1,hlt⟩) (fun i' hi' h8 _=>?_) (fun ph P' hn=>by rw[if_neg (Zg6 hP.2.2.1 hn)]) ?_ (fun _=>?_) h
    ·rw[hi] at hi'
     rw[<- Option.some.inj hi'] at h8;exact hP.2.2.2.2 h8
    ·have:=hP.2.2.2.1
     show _<=wsum p k+3*q.es.length+52 - 1;omega
    ·have:=hP.2.2.2.1
     show _<=wsum p k+3*q.es.length+52 - 1;omega
end
section
variable {w0 w:World} {R F:Asr} {t g m s k E u a:Nat} {c:Cfg} {sg:Bool} {p:List InsR} {i:InsR} {q:TD} {P P':AP} {ph:Int}
theorem Zka (h:P = .en 1\/P = .en 2\/∀j,P ≠ .en j) (hn:NxA P ph P'):ph≠2:=by
 rcases h with rfl|rfl|h
 ·rcases hn with⟨h1,_⟩|⟨_,_,h1⟩|⟨_,_,h1⟩|⟨_,_,h1,_⟩
  ·cases h1
  ·omega
  ·omega
  ·exact h1.1
 ·rcases hn with⟨h1,_⟩|⟨_,_,h1⟩|⟨_,_,h1⟩|⟨_,_,h1,_⟩
  ·cases h1
  ·omega
  ·omega
  ·exact h1.1
 ·exact Zg6 h hn
theorem Z9t (hc:CfA c) (hp:PgA p) (hs:s<=899) (hq:tph c p s q (.str k a P)) (hb:bzA P=true):StGo w0 t m c p s q (.str k a P):=by
 obtain⟨K,ha,hfe,hdr,hst,hak,⟨i,hi,hop,htg⟩,hin,hP⟩:=hq;intro w F R h;have hkl:=(List.getElem?_eq_some_iff.1 hi).1;have hdn:q.x.done=false:=by rw[K.dn];exact beq_eq_false_iff_ne.2 (by omega)
 have hcs:((a=0/\∃j,P = .en j)\/(1<=a/\∀j,P ≠ .en j))/\gdA P=true/\(P = .en 1\/P = .en 2\/∀j,P ≠ .en j):=by
  rcases hP with⟨h0,rfl|rfl|rfl⟩|⟨h1,rfl|⟨_,h2,h3⟩⟩
  ·exact⟨.inl ⟨h0,1,rfl⟩,rfl,.inl rfl⟩
  ·exact⟨.inl ⟨h0,2,rfl⟩,rfl,.inr (.inl rfl)⟩
  ·cases hb
  ·cases hb
  ·exact⟨.inr ⟨h1,h2⟩,h3,.inr (.inr h2)⟩
 refine Z3d (R:=sepR [obsA q.x.obs q.obs,limA q.gl c q.es,aS q.g m c true s P] R) h K.code K.pc hi hdn (fun ph X Y h=>h.1) (.inr ⟨hfe,.inl ⟨ha,fun F w h=>?_,fun F w h=>?_⟩⟩)
 ·have h1:=Z6i (Hold.pk6 h [5,0,1,2,3,4])
  rwa [hb] at h1
 ·exact Zb2 (E:=q.b+1) hc hp hs K.up K.esl K.obl ha hfe hdr hst ⟨hak.1,by omega,hak.2.2⟩ hi ⟨hop,htg⟩ hin hb hcs.2.1 hcs.1 (fun ph P' hn=>by rw[if_neg (Zka hcs.2.2 hn)]) (Nat.le_refl _) (Hold.pk6 h [0,1,5,2,3,4])
def OkS (P P':AP):Prop:=bzA P'=true/\gdA P'=true/\(∀j,P' ≠ .en j)/\P'.msr<=P.msr
theorem Z9s (hc:CfA c) (hp:PgA p) (hs:s<=899) (hq:tph c p s q (.str k a P)) (hb:bzA P=false):StGo w0 t m c p s q (.str k a P):=by
 obtain⟨K,ha,hfe,hdr,hst,hak,⟨i,hi,hop,htg⟩,hin,hP⟩:=hq;intro w F R h;have hkl:=(List.getElem?_eq_some_iff.1 hi).1;have hdn:q.x.done=false:=by rw[K.dn];exact beq_eq_false_iff_ne.2 (by omega)
 have hP2:(a=0/\P = .idle0)\/(1<=a/\P = .idle):=by
  rcases hP with⟨h0,rfl|rfl|rfl⟩|⟨h1,rfl|⟨h2,_⟩⟩
  ·cases hb
  ·cases hb
  ·exact .inl ⟨h0,rfl⟩
  ·exact .inr ⟨h1,rfl⟩
  ·rw[hb] at h2;cases h2
 have hr:=(hp.v.ins k i hi).regs;have him:=(hp.v.ins k i hi).imm;have hsx:∀{P'},okQ P'->OkS .idle0 P':=fun h=>by
  rcases h with rfl|rfl|rfl|rfl|rfl|rfl|rfl|rfl <;> exact⟨rfl,rfl,fun j h=>(by cases h),by decide⟩
 have hse:OkS .idle .lend:=⟨rfl,rfl,fun j h=>(by cases h),by decide⟩;refine Z3d (R:=sepR [obsA q.x.obs q.obs,limA q.gl c q.es,aS q.g m c true s P] R) h K.code K.pc hi hdn (fun ph X Y h=>h.1) (.inr ⟨hfe,.inr (.inl ⟨ha,hst,fun F w h=>?_,fun x2 R2=>x2={q.x with asked:=(a:Int)+1}/\∃P',OkS P P'/\R2=sepR [obsA q.x.obs q.obs,limA q.gl c q.es,aS q.g m c true s P'] R,fun F w h=>?_,?_⟩)⟩)
 ·have h1:=Z6i (Hold.pk6 h [5,0,1,2,3,4])
  rwa [hb] at h1
 ·have cv:∀{f args},(∀q' w' F',ph c true s q' P->Hold w0 w' (sepR (ps q.g m c q' P) F')->Calls Tryz.prog f args w' fun e w''=>∃P':{P':AP // OkS P P'},e = .returned (.int .i64 0)/\Hold w0 w'' (aS q.g m c true s P'.1*F')) ->
    RqG w0 (thA t c {q.x with asked:=(a:Int)+1}) (sepR [Z0a (.slice q.A p.length q.cp) p,obsA q.x.obs q.obs,limA q.gl c q.es,aS q.g m c true s P] R) (fun j:{P':AP // OkS P P'}=>sepR [Z0a (.slice q.A p.length q.cp) p,obsA q.x.obs q.obs,limA q.gl c q.es,aS q.g m c true s j.1] R) f args:=fun H F2 w2 h2=>by
   obtain⟨q',hq',h3⟩:=Zcx (Hold.pk6 h2 [5,0,1,2,3,4]);refine(H q' _ _ hq' h3).mono ?_;rintro e w'' ⟨P',rfl,h4⟩;exact⟨P',rfl,h4.pk6 [1,2,3,4,5,0]⟩
  refine(Zi7 (g:=q.g) (a:=a) (Q1:=fun j:{P':AP // OkS P P'}=>sepR [Z0a (.slice q.A p.length q.cp) p,obsA q.x.obs q.obs,limA q.gl c q.es,aS q.g m c true s j.1] R) (R:=sepR [Z0a (.slice q.A p.length q.cp) p,obsA q.x.obs q.obs,limA q.gl c q.es,aS q.g m c true s P] R) h hop ⟨hr.1,hr.2.1⟩ him ha hak.1 (by omega) ?_ ?_ ?_).mono ?_
  ·intro ha1
   obtain⟨h1,rfl⟩:1<=a/\P = .idle:=hP2.elim (fun h=>by omega) id;exact cv fun q' w' F' hq' h3=>(Zih hc (.inl rfl) q' hq' h3).mono fun e w ⟨P',h1,h2⟩=>⟨⟨P'.1,by rw[P'.2];exact hse⟩,h1,h2⟩
  ·intro ha0 h12
   obtain⟨h1,rfl⟩:a=0/\P = .idle0:=hP2.elim id (fun h=>by omega);exact cv fun q' w' F' hq' h3=>(Zhg hc (Z5y _ _) q' ⟨hq'.1,hq'.2.1,hq'.2.2.1⟩ (fun _=>⟨htg,hq'.2.2.2.1,hq'.2.2.2.2⟩) h3).mono fun e w ⟨P',h1,h2⟩=>⟨⟨P'.1,hsx P'.2⟩,h1,h2⟩
  ·intro ha0 h13
   obtain⟨h1,rfl⟩:a=0/\P = .idle0:=hP2.elim id (fun h=>by omega);exact cv fun q' w' F' hq' h3=>(Zdl hc (Z5y _ _) q' ⟨hq'.1,hq'.2.1,hq'.2.2.1⟩ (fun _=>⟨htg,hq'.2.2.2.2⟩) h3).mono fun e w ⟨P',h1,h2⟩=>⟨⟨P'.1,hsx P'.2⟩,h1,h2⟩
  ·rintro e w' ⟨j,rfl,h2⟩
   exact⟨rfl,_,_,⟨rfl,j.1,j.2,rfl⟩,h2⟩
 ·rintro x2 R2 ⟨rfl,P',hP',rfl⟩ F w h
  have K1:TC c p (s+1) k {q with x:={q.x with asked:=(a:Int)+1}}:={K.up with code:=K.code};refine Zb2 (a:=a+1) (q:={q with x:={q.x with asked:=(a:Int)+1}}) (E:=q.b+1) hc hp hs K1 K.esl K.obl ha hfe hdr hst ⟨rfl,by omega,hak.2.2⟩ hi ⟨hop,htg⟩ hin hP'.1 hP'.2.1 (.inr ⟨by omega,hP'.2.2.1⟩) (fun ph P' hn=>by rw[if_neg (Zg6 hP'.2.2.1 hn)]) ?_ (Hold.pk6 h [0,1,5,2,3,4]);have:=hP'.2.2.2;show wsum p (k+1)+3*q.es.length+P'.msr<=wsum p (k+1)+3*q.es.length+P.msr+1 - 1;omega
theorem Zl5 (hc:CfA c) (hp:PgA p) (hs:s<=899) (hq:tph c p s q (.dr k)):StGo w0 t m c p s q (.dr k):=by
 obtain⟨K,ha,hfe,hdr,hst,⟨hkl,hin⟩,hdi,htk,M⟩:=hq;intro w F R h;have hi:=List.getElem?_eq_getElem hkl;have hdn:q.x.done=false:=by rw[K.dn];exact beq_eq_false_iff_ne.2 (by omega)
 have hpl:=hp.v.len;have hpc:=K.pc;have hck:=M.ck.2;obtain⟨z,l,hqs⟩:∃z l,q.qs=z::l:=by
  cases hl:q.qs with
  | nil=>rw[hl] at hdi;exact hdi.elim
  | cons z l=>exact⟨z,l,rfl⟩
 rw[hqs] at hdi;obtain⟨hat,hhd,h0s,hbs⟩:=hdi;have hbz:=hbs z (List.mem_cons_self ..);have hn4:=nbl4 hc.s;have h01:=Zes c z.b;have H7:=M.has7 h01;have HH:=M.hd _ h01;have hR:drR q.qs=(3 - z.at_.toNat)+drR l:=by rw[hqs];rfl
 have hl0:∀y∈l,y.at_=0:=h0s;obtain⟨N,hN⟩:∃N,N=drR q.qs:=⟨_,rfl⟩;rw[<- hN] at hR;refine Z3d (g:=0) (R:=sepR [obsA q.x.obs q.obs,limA q.gl c q.es,drA c q.d q.qs,memA m q.C] R) h K.code K.pc hi hdn (fun ph X Y h=>h.1) (.inl ⟨⟨q.gf,hfe⟩,fun F w h=>?_⟩);have drl:∀(z':DM) (C':Nat->List Int),z'.b=z.b->(0<=z'.at_/\z'.at_<=3)->(1<=z'.at_->z'.at_<=2->z'.hd=valC C' 7 (clsS c z.b))->z.at_<z'.at_->(drN z' l=[]\/drI c C' (drN z' l))/\drR (drN z' l)+1<=N:=fun z' C' hb h03 hh hlt=>by
  by_cases h3:z'.at_=3
  ·rw[show drN z' l=l from if_pos h3]
   refine⟨?_,by omega⟩
   cases l with
   | nil=>exact .inl rfl
   | cons y l =>
    refine .inr ⟨by rw[hl0 y (List.mem_cons_self ..)];decide,fun h=>?_,fun y' hy'=>hl0 y' (List.mem_cons_of_mem _ hy'),fun y' hy'=>hbs y' (List.mem_cons_of_mem _ hy')⟩;rw[hl0 y (List.mem_cons_self ..)] at h;omega
  ·rw[show drN z' l=z'::l from if_neg h3]
   refine⟨.inr ⟨⟨h03.1,by omega⟩,fun h=>by rw[hb];exact hh h (by omega),hl0,fun y hy=>?_⟩,?_⟩
   ·rcases List.mem_cons.1 hy with rfl|hy
    ·rw[hb];exact hbz
    ·exact hbs y (List.mem_cons_of_mem _ hy)
   ·show (3 - z'.at_.toNat)+drR l+1<=_
    omega
 refine Zb9 (K:=fun qs es' C'=>es'=q.es/\(qs=[]\/drI c C' qs)/\drR qs+1<=N/\MI c q.ck q.tk q.tk q.ck [] C') (D:=drA c q.d q.qs) (es:=q.es) (C:=q.C) (n:=p.length) (cp:=q.cp) (A:=q.A) (obs:=q.obs) (R:=Z0a (.slice q.A p.length q.cp) p*R) (Hold.pk7 h [0,1,5,4,6,3,2]) (.inr ?_) hc.s K.lim M.ok M.has3 ⟨by rw[M.ck.1];exact M.ck.2.1,by rw[M.ck.1];exact M.ck.2.2⟩ ⟨by have:=K.esl;omega,K.esr⟩ K.code ⟨by omega,by omega⟩ (by have:=K.obl;omega) ?_ ?_
 ·rw[hqs]
  obtain h0|h0|h0:z.at_=0\/z.at_=1\/z.at_=2:=by omega
  ·have hg:(opA q.C 1 7 (clsS c z.b) (valC q.C 7 (clsS c z.b)) true).got=valC q.C 7 (clsS c z.b):=Z1z H7 1
   have hdl:=drl {z with at_:=1,hd:=(opA q.C 1 7 (clsS c z.b) (valC q.C 7 (clsS c z.b)) true).got} q.C rfl ⟨by show (0:Int)<=1;decide,by show (1:Int)<=3;decide⟩ (fun _ _=>hg) (by show z.at_<1;omega);refine⟨q.d,z,{z with at_:=1,hd:=(opA q.C 1 7 (clsS c z.b) (valC q.C 7 (clsS c z.b)) true).got},l,opA q.C 1 7 (clsS c z.b) (valC q.C 7 (clsS c z.b)) true,q.C,hdr,rfl,rfl,⟨rfl,hdl.1,hdl.2,M⟩,fun F w' h=>?_⟩;have h1:Hold w0 w' (puA z.g (clsS c z.b) z.b 0 z.hd*(memA m q.C*F)):=by rw[<- h0];exact h
   exact(Zbj _ _ _ _ _ _ _ _ _ _ h1 M.ok (by omega) rfl).mono fun e w h=>h
  ·have he:=hhd (by omega)
   rw[<- he] at HH;have M2:MI c q.ck q.tk q.tk q.ck [] (opC q.C 8 z.b (z.hd%65536) true):=M.link hbz.1 hbz.2 HH.2;have he2:z.hd=valC (opC q.C 8 z.b (z.hd%65536) true) 7 (clsS c z.b):=by rw[Z0y (by decide)];exact he
   have hdl:=drl {z with at_:=2} (opC q.C 8 z.b (z.hd%65536) true) rfl ⟨by show (0:Int)<=2;decide,by show (2:Int)<=3;decide⟩ (fun _ _=>he2) (by show z.at_<2;omega);refine⟨q.d,z,{z with at_:=2},l,opA q.C 2 8 z.b (z.hd%65536) true,opC q.C 8 z.b (z.hd%65536) true,hdr,rfl,rfl,⟨rfl,hdl.1,hdl.2,M2⟩,fun F w' h=>?_⟩;have h1:Hold w0 w' (puA z.g (clsS c z.b) z.b 1 z.hd*(memA m q.C*F)):=by rw[<- h0];exact h
   exact(Zbi _ _ _ _ _ _ _ _ _ _ _ h1 M.ok (by omega) HH.1 rfl rfl).mono fun e w h=>h
  ·have he:=hhd (by omega)
   rw[<- he] at HH;have hv:=Zak hc.s HH.1 (l:=z.b+1) (k:=clsS c z.b) (.inr (by rw[Int.add_sub_cancel];exact⟨hbz,rfl⟩));rw[Int.add_sub_cancel] at hv;have hbe:(valC q.C 7 (clsS c z.b)==z.hd)=true:=beq_iff_eq.2 he.symm;have M2:MI c q.ck q.tk q.tk q.ck [] (opC q.C 7 (clsS c z.b) (Z2a z.hd z.b) (valC q.C 7 (clsS c z.b)==z.hd)):=by rw[hbe];exact M.head h01 hv
   have hdl:=drl {z with at_:=3} (opC q.C 7 (clsS c z.b) (Z2a z.hd z.b) (valC q.C 7 (clsS c z.b)==z.hd)) rfl ⟨by show (0:Int)<=3;decide,by show (3:Int)<=3;decide⟩ (fun _ h=>absurd h (by show ¬(3:Int)<=2;decide)) (by show z.at_<3;omega);refine⟨q.d,z,{z with at_:=3},l,opA q.C 3 7 (clsS c z.b) (Z2a z.hd z.b) (valC q.C 7 (clsS c z.b)==z.hd),opC q.C 7 (clsS c z.b) (Z2a z.hd z.b) (valC q.C 7 (clsS c z.b)==z.hd),hdr,rfl,rfl,⟨rfl,hdl.1,hdl.2,M2⟩,fun F w' h=>?_⟩;have h1:Hold w0 w' (puA z.g (clsS c z.b) z.b 2 z.hd*(memA m q.C*F)):=by rw[<- h0];exact h
   exact(Z54 _ _ _ _ _ _ _ _ _ _ _ h1 M.ok (by omega) HH.1 (by rw[hbe];exact Z5s H7 3) rfl rfl).mono fun e w h=>h
 ·rintro ph es' C' ov hph ⟨rfl,-,hle,M2⟩
  refine⟨K.id0,{q with x:={q.x with fence:=.pointer none,drain:=.pointer none,obs:=ov,pc:=q.x.pc+1,done:=q.x.pc+1==(p.length:Int)},obs:=q.obs++[⟨q.x.pc,6,0⟩]},.out (k+1),rfl,⟨K.up.next hkl ⟨rfl,rfl,rfl,rfl⟩ ⟨rfl,rfl,rfl,rfl,rfl,rfl⟩ rfl rfl ?_ ?_,ha,rfl,rfl,hst,hin⟩,by rw[if_neg hph];rfl,?_,fun w G h=>?_⟩
  ·have h1:=K.ob.add ⟨q.x.pc,6,0⟩ (fun h=>absurd h.1 (by show ¬(6:Int)=3;decide))
   have h2:begO c.strong ⟨q.x.pc,6,0⟩=false:=by unfold begO;cases c.strong <;> rfl
   rw[h2] at h1;exact h1
  ·have:=K.obl
   show (q.obs++[(⟨q.x.pc,6,0⟩:ObR)]).length<=_;rw[List.length_append];show _+1<=_;omega
  ·show wsum p (k+1)+3*q.es.length<=wsum p (k+1)+3*q.es.length+drR q.qs - 1
   omega
  ·have h1:=Z2t (m:=m) (c:=c) (s:=s+1) (t:=q.tk) (ck:=q.ck) (C:=C') ⟨htk.1,by omega⟩ M2 (h.pk5 [3,0,1,2,4])
   exact h1.pk5 [1,4,2,3,0]
 ·rintro ph d z' qs es' C' hph ⟨rfl,hdi',hle,M2⟩
  have hdi2:drI c C' (z'::qs):=hdi'.elim (fun h=>by cases h) id;refine⟨K.id0,{q with x:={q.x with drain:=ptrV d},d:=d,qs:=z'::qs,C:=C'},.dr k,rfl,⟨{K.up with code:=K.code},ha,hfe,rfl,hst,⟨hkl,hin⟩,hdi2,⟨htk.1,by show q.tk<=_;omega⟩,M2⟩,by rw[if_neg hph];rfl,?_,fun w G h=>h.pk6 [0,5,4,2,1,3]⟩;show wsum p (k+1)+3*q.es.length+drR (z'::qs)<=wsum p (k+1)+3*q.es.length+drR q.qs - 1;omega
end
theorem Zbn (lim:Int):∀es:List (Int × Int),(outE lim es).length+(Z2h lim es).length=es.length
 | []=>rfl
 | e::es=>by
  have ih:=Zbn lim es;unfold outE Z2h at ih |-
  by_cases h:e.2<=lim
  ·rw[List.filter_cons_of_pos (by simpa using h),List.filter_cons_of_neg (by simp;omega)]
   simp only[List.length_cons];omega
  ·rw[List.filter_cons_of_neg (by simpa using h),List.filter_cons_of_pos (by simp;omega)]
   simp only[List.length_cons];omega
theorem Z98:∀l:List DM,(∀y∈l,y.at_=0)->drR l=3*l.length
 | [],_=>rfl
 | z::l,h=>by
  have ih:=Z98 l fun y hy=>h y (List.mem_cons_of_mem _ hy);have h0:=h z (List.mem_cons_self ..);show (3 - z.at_.toNat)+drR l=3*(l.length+1);rw[h0,ih];show 3 - 0+_=_;omega
theorem Zhc:∀(gs:List Nat) (es:List (Int × Int)) (y:DM),y∈List.zipWith qOf gs es->y.at_=0/\∃e∈es,y.b=e.1
 | [],_,y,h=>by cases h
 | _::_,[],y,h=>by cases h
 | g::gs,e::es,y,h=>by
  rcases List.mem_cons.1 h with rfl|h
  ·exact⟨rfl,e,List.mem_cons_self ..,rfl⟩
  ·obtain⟨h1,e',he,h2⟩:=Zhc gs es y h
   exact⟨h1,e',List.mem_cons_of_mem _ he,h2⟩
section
variable {w0 w:World} {R F:Asr} {t g m s k E u a:Nat} {c:Cfg} {sg:Bool} {p:List InsR} {i:InsR} {q:TD} {P P':AP} {ph:Int}
abbrev ExGo (w0:World) (t m:Nat) (c:Cfg) (p:List InsR) (s k:Nat) (q:TD) (i:InsR):Prop:=∀F w R,Hold w0 w (F*sepR (tps t m c p s q (.out k)) R)->Calls Tryz.prog 39 #[ptrV t,ptrV m,i.val] w (AdZ w0 t c F (GoQ w0 t m c p s q.b (wsum p k+3*q.es.length - 1) R))
theorem Ziv (h:Hold w0 w (mS m c s*F)):∃(C:Nat->List Int) (ck tk:Int),(0<=tk/\tk<=s)/\MI c ck tk tk ck [] C/\Hold w0 w (memA m C*F):=by
 obtain⟨z,⟨h1,h2⟩,h3⟩:=h.Zlq;exact⟨z.1,z.2.1,z.2.2,h1,h2,h3⟩
theorem Zcr (hp:PgA p) (hs:s<=899) (hq:tph c p s q (.out k)) (hi:p[k]?=some i) (hop:i.op<7\/i.op=17):ExGo w0 t m c p s k q i:=by
 obtain⟨K,ha,hfe,hdr,hst,hin⟩:=hq;intro F w R h;have hkl:=(List.getElem?_eq_some_iff.1 hi).1;have hV:=hp.v.ins k i hi;have hws:=Z3n hi;have hiw:=Z5u i.op;have hpl:=hp.v.len;have hpc:=K.pc;have h18:=hV.op;refine Zhs (g:=0) (n:=p.length) (R:=sepR [Z0a (.slice q.A p.length q.cp) p,obsA q.x.obs q.obs,limA q.gl c q.es,mS m c s] R) h (by omega) hV.regs hV.imm hV.fn K.code ⟨by omega,by omega⟩ (.inl ha) ?_;intro rg pc hpcc;have him:=hV.imm;obtain⟨k',hk',hin',hle,hl'⟩:∃k':Nat,pc=(k':Int)/\inT p k'=false/\k+1<=k'/\k'<=p.length:=by
  rcases hpcc with h1|⟨hj,h1⟩
  ·exact⟨k+1,by omega,by rw[Z1a hi,if_neg (by omega),if_neg (by omega)];exact hin,Nat.le_refl _,hkl⟩
  ·have hJ:=hp.j k i hi hj
   have h2:=hJ.2.2 hin;rw[show ((k:Int)+1+i.imm).toNat=k+1+i.imm.toNat by omega] at h2;exact⟨k+1+i.imm.toNat,by omega,h2,by omega,by have:=hJ.1;omega⟩
 refine⟨K.id0,{q with x:={q.x with regs:=rg,pc:=pc,done:=pc==(p.length:Int)}},.out k',rfl,⟨K.up.go hl' ⟨rfl,rfl,rfl,rfl⟩ ⟨rfl,rfl,rfl,rfl,rfl,rfl⟩ hk' (by show (pc==(p.length:Int))=_;rw[hk']) K.ob K.up.obl,ha,hfe,hdr,hst,hin'⟩,rfl,?_,fun w G h=>?_⟩
 ·have:=Z3y p hle
  show wsum p k'+3*q.es.length<=wsum p k+3*q.es.length - 1;omega
 ·have h1:=Zkd (Hold.pk5 h [4,0,1,2,3])
  exact h1.pk5 [1,2,3,4,0]
theorem Z96 (hc:CfA c) (hp:PgA p) (hF:Z17 w0) (hs:s<=899) (hq:tph c p s q (.out k)) (hi:p[k]?=some i) (hop:i.op=7):ExGo w0 t m c p s k q i:=by
 obtain⟨K,ha,hfe,hdr,hst,hin⟩:=hq;intro F w R h;have hkl:=(List.getElem?_eq_some_iff.1 hi).1;have hws:=Z3n hi;have h64:insW i.op=64:=Z7t (by omega) (by omega);have hcn:=K.cnt;have htr:=K.tri;refine Zgq (R:=sepR [Z0a (.slice q.A p.length q.cp) p,obsA q.x.obs q.obs,limA q.gl c q.es,mS m c s] R) h hop ⟨htr.1,by omega⟩ ⟨hcn.1,by omega⟩ ?_;intro F g gs gl ge w h;have e1:atA g c {Z32 gs gl q.x.id with state:=1,at_:=2,enter:=ptrV ge}=atA g c {Z32 gs gl 0 with state:=1,at_:=2,enter:=ptrV ge}:=by rw[K.id0]
 have e2:enA ge q.x.id 0 0=enA ge 0 0 0:=by rw[K.id0]
 rw[e1,e2] at h;have h1:=Zbd (sg:=false) hc (Hold.pk10 h [2,3,4,5,9,0,1,6,7,8]);have h2:=h1.nilRowS 55 3;have K1:TC c p (s+1) k {q with x:={q.x with begin_:=q.x.pc,saved:=q.x.regs,tries:=q.x.tries+1,attempt:=ptrV g,seen:=.slice none 0 0,count:=q.x.count+1},seen:=[],bg:=k,g:=g}:={K.up with code:=K.code,cnt:=⟨by show 0<=q.x.count+1;omega,by show q.x.count+1<=_;omega⟩,tri:=⟨by show 0<=q.x.tries+1;omega,by show q.x.tries+1<=_;omega⟩};have hB:BgI p k k:=by
  obtain⟨j,h1,h2,-⟩:=Z1b hp.f hi hop;exact⟨i,hi,hop,Nat.le_refl _,by omega⟩
 refine Zb1 (q:={q with x:={q.x with begin_:=q.x.pc,saved:=q.x.regs,tries:=q.x.tries+1,attempt:=ptrV g,seen:=.slice none 0 0,count:=q.x.count+1},seen:=[],bg:=k,g:=g}) (P:=.en 0) (i:=i) hc hp hF hs K1 K.esl K.obl rfl hfe hdr hst ⟨SeenI.nil,by have:=K.obl;show q.obs.length+0<=_;omega,Nat.zero_le _⟩ K.pc hB hi rfl rfl (.inl ⟨⟨0,rfl⟩,rfl⟩) (fun i' hi' h8 _=>?_) (fun ph P' hn=>?_) ?_ (fun h=>absurd rfl (h 0)) (Hold.pk7 h2 [2,3,1,4,5,6,0])
 ·rw[hi] at hi'
  rw[<- Option.some.inj hi'] at h8;omega
 ·rcases hn with⟨_,_,rfl⟩|⟨h,_⟩|⟨h,_⟩|⟨_,h,_⟩
  ·rfl
  ·cases h
  ·cases h
  ·exact absurd rfl (h 0)
 ·show wsum p (k+1)+3*q.es.length+59<=wsum p k+3*q.es.length - 1
  omega
theorem Zjh {sg:Bool} {pc v:Int} {kd:Int} (h:kd=7/\v=7\/(kd=4\/kd=5)/\sg=false):begO sg ⟨pc,kd,v⟩=false:=by
 unfold begO;rcases h with⟨rfl,rfl⟩|⟨rfl|rfl,rfl⟩
 ·cases sg <;> rfl
 ·rfl
 ·rfl
theorem Z94 (hc:CfA c) (hp:PgA p) (hF:Z17 w0) (hs:s<=899) (hq:tph c p s q (.out k)) (hi:p[k]?=some i) (hop:i.op=12\/i.op=13):ExGo w0 t m c p s k q i:=by
 have hq0:=hq;obtain⟨K,ha,hfe,hdr,hst,hin⟩:=hq;intro F w R h;have hkl:=(List.getElem?_eq_some_iff.1 hi).1;have hV:=hp.v.ins k i hi;have hws:=Z3n hi;have h64:insW i.op=64:=Z7t (by omega) (by omega);have hpl:=hp.v.len;have hpc:=K.pc;have hcn:=K.cnt;have hr:=hV.regs;have hob:∀{kd v:Int},(kd=7/\v=7\/(kd=4\/kd=5)/\c.strong=false)->ObsI c.strong (q.obs++[⟨q.x.pc,kd,v⟩]) q.b:=fun {kd v} h=>by
  have h1:=K.ob.add ⟨q.x.pc,kd,v⟩ (fun h'=>by have h2:kd=3:=h'.1;omega);rw[Zjh h] at h1;exact h1
 have hol:∀o:ObR,(q.obs++[o]).length<=2*(s+1):=fun o=>by
  rw[List.length_append];have:=K.obl;show _+1<=_;omega
 have hin':inT p (k+1)=false:=by rw[Z1a hi,if_neg (by omega),if_neg (by omega)];exact hin
 refine Zgo (R:=sepR [Z0a (.slice q.A p.length q.cp) p,obsA q.x.obs q.obs,limA q.gl c q.es,mS m c s] R) h hop ?_;intro F w h
 by_cases htg:tgR q.x i<c.words
 ·cases hsg:c.strong with
  | true =>
   refine Zdp h hop ⟨hr.1,hr.2.1⟩ hV.imm hc.s.words htg hsg ⟨hcn.1,by omega⟩ ?_;intro F g gs gl ge w h;have e1:atA g c {Z32 gs gl q.x.id with state:=1,at_:=2,enter:=ptrV ge}=atA g c {Z32 gs gl 0 with state:=1,at_:=2,enter:=ptrV ge}:=by rw[K.id0]
   have e2:enA ge q.x.id 0 0=enA ge 0 0 0:=by rw[K.id0]
   rw[e1,e2] at h;have h1:=Zbd (sg:=true) hc (Hold.pk10 h [2,3,4,5,9,0,1,6,7,8]);have K1:TC c p (s+1) k {q with x:={q.x with strong:=true,asked:=0,attempt:=ptrV g,seen:=.slice none 0 0,count:=q.x.count+1},g:=g}:={K.up with code:=K.code,cnt:=⟨by show 0<=q.x.count+1;omega,by show q.x.count+1<=_;omega⟩};refine Zb2 (a:=0) (q:={q with x:={q.x with strong:=true,asked:=0,attempt:=ptrV g,seen:=.slice none 0 0,count:=q.x.count+1},g:=g}) (P:=.en 0) (i:=i) hc hp hs K1 K.esl K.obl rfl hfe hdr rfl ⟨rfl,Nat.zero_le _,hsg⟩ hi ⟨hop,htg⟩ hin rfl rfl (.inl ⟨rfl,0,rfl⟩) (fun ph P' hn=>?_) ?_ (Hold.pk6 h1 [1,2,0,3,4,5])
   ·rcases hn with⟨_,_,rfl⟩|⟨h,_⟩|⟨h,_⟩|⟨_,h,_⟩
    ·rfl
    ·cases h
    ·cases h
    ·exact absurd rfl (h 0)
   ·show wsum p (k+1)+3*q.es.length+59<=wsum p k+3*q.es.length - 1
    omega
  | false =>
   obtain⟨C,ck,tk,htk,M,h1⟩:=Ziv (Hold.pk6 h [5,0,1,2,3,4]);refine Zik (C:=C) (n:=p.length) (cp:=q.cp) (A:=q.A) (obs:=q.obs) (R:=sepR [Z0a (.slice q.A p.length q.cp) p,limA q.gl c q.es] R) (Hold.pk6 h1 [1,2,0,4,3,5]) hop ⟨hr.1,hr.2.1⟩ hV.imm hc.s.words htg hsg K.id0 M.ok K.code ⟨by omega,by omega⟩ (by have:=K.obl;omega) ?_;intro rg ov kd v C' hkd hC';refine⟨K.id0,{q with x:={q.x with regs:=rg,obs:=ov,pc:=q.x.pc+1,done:=q.x.pc+1==(p.length:Int)},obs:=q.obs++[⟨q.x.pc,kd,v⟩]},.out (k+1),rfl,⟨K.up.next hkl ⟨rfl,rfl,rfl,rfl⟩ ⟨rfl,rfl,rfl,rfl,rfl,rfl⟩ rfl rfl (hob (.inr ⟨hkd,hsg⟩)) (hol _),ha,hfe,hdr,hst,hin'⟩,rfl,?_,fun w G h=>?_⟩
   ·show wsum p (k+1)+3*q.es.length<=wsum p k+3*q.es.length - 1
    omega
   ·have M':MI c ck tk tk ck [] C':=by
     rcases hC' with rfl|⟨ad,v,rfl⟩
     ·exact M
     ·exact M.side (.inl rfl)
    have h2:=Z2t (m:=m) (c:=c) (s:=s+1) (t:=tk) (ck:=ck) (C:=C') ⟨htk.1,by omega⟩ M' (Hold.pk5 h [1,0,2,3,4]);exact h2.pk5 [1,3,2,4,0]
 ·refine Zk6 (n:=p.length) (cp:=q.cp) (A:=q.A) (obs:=q.obs) (R:=sepR [Z0a (.slice q.A p.length q.cp) p,limA q.gl c q.es,mS m c s] R) (Hold.pk6 h [0,1,3,2,4,5]) hop ⟨hr.1,hr.2.1⟩ hV.imm hc.s.words (by omega) K.code ⟨by omega,by omega⟩ (by have:=K.obl;omega) ?_
  intro rg ov;refine⟨K.id0,{q with x:={q.x with regs:=rg,obs:=ov,pc:=q.x.pc+1,done:=q.x.pc+1==(p.length:Int)},obs:=q.obs++[⟨q.x.pc,7,7⟩]},.out (k+1),rfl,⟨K.up.next hkl ⟨rfl,rfl,rfl,rfl⟩ ⟨rfl,rfl,rfl,rfl,rfl,rfl⟩ rfl rfl (hob (.inl ⟨rfl,rfl⟩)) (hol _),ha,hfe,hdr,hst,hin'⟩,rfl,?_,fun w G h=>?_⟩
  ·show wsum p (k+1)+3*q.es.length<=wsum p k+3*q.es.length - 1
   omega
  ·have h2:=Zkd (Hold.pk5 h [4,0,1,2,3])
   exact h2.pk5 [1,3,2,4,0]
theorem Z95 (hc:CfA c) (hp:PgA p) (hs:s<=899) (hq:tph c p s q (.out k)) (hi:p[k]?=some i) (hop:i.op=16):ExGo w0 t m c p s k q i:=by
 obtain⟨K,ha,hfe,hdr,hst,hin⟩:=hq;intro F w R h;have hkl:=(List.getElem?_eq_some_iff.1 hi).1;have hV:=hp.v.ins k i hi;have hws:=Z3n hi;have h64:insW i.op=64:=Z7t (by omega) (by omega);have hpl:=hp.v.len;have hpc:=K.pc;have hin':inT p (k+1)=false:=by rw[Z1a hi,if_neg (by omega),if_neg (by omega)];exact hin
 refine Zgp (R:=sepR [Z0a (.slice q.A p.length q.cp) p,obsA q.x.obs q.obs,limA q.gl c q.es,mS m c s] R) h hop K.id0 K.th1 ?_;intro F gf w h;obtain⟨C,ck,tk,htk,M,h1⟩:=Ziv (Hold.pk7 h [6,0,1,2,3,4,5]);have hm:∀z∈Z2h (valC C 3 0) q.es,z∈q.es:=fun z hz=>(List.mem_filter.1 hz).1;have hm2:∀z∈outE (valC C 3 0) q.es,z∈q.es:=fun z hz=>(List.mem_filter.1 hz).1;have hok:=Zbn (valC C 3 0) q.es;refine Zb9 (K:=fun qs es' C'=>C'=C/\(∀y∈qs,y.at_=0/\0<=y.b/\y.b<(nbl c:Nat))/\(∀z∈es',z∈q.es)/\qs.length+es'.length=q.es.length) (D:=feA gf 0 1 false 0 0) (x:={q.x with fence:=ptrV gf}) (es:=q.es) (C:=C) (n:=p.length) (cp:=q.cp) (A:=q.A) (obs:=q.obs) (R:=Z0a (.slice q.A p.length q.cp) p*R) (Hold.pk7 h1 [1,2,3,6,0,5,4]) (.inl ⟨hdr,⟨gf,rfl,rfl⟩,fun gs hgs=>⟨rfl,fun y hy=>?_,hm,?_⟩⟩) hc.s K.lim M.ok M.has3 ⟨by rw[M.ck.1];exact M.ck.2.1,by rw[M.ck.1];exact M.ck.2.2⟩ ⟨by have:=K.esl;omega,K.esr⟩ K.code ⟨by show 0<=q.x.pc;omega,by show q.x.pc<=_;omega⟩ (by have:=K.obl;omega) ?_ ?_
 ·obtain⟨h0,e,he,hb⟩:=Zhc gs _ y hy
  exact⟨h0,by rw[hb];exact K.esr e (hm2 e he)⟩
 ·rw[List.length_zipWith];omega
 ·rintro ph es' C' ov hph ⟨rfl,-,hes,hle⟩
  have hle:0+es'.length=q.es.length:=hle;refine⟨K.id0,{q with x:={q.x with fence:=.pointer none,drain:=.pointer none,obs:=ov,pc:=q.x.pc+1,done:=q.x.pc+1==(p.length:Int)},obs:=q.obs++[⟨q.x.pc,6,0⟩],es:=es'},.out (k+1),rfl,⟨{K.up with code:=K.code,esr:=fun z hz=>K.esr z (hes z hz),esl:=?_,pc:=?_,kl:=hkl,dn:=?_,ob:=?_,obl:=?_},ha,rfl,rfl,hst,hin'⟩,by rw[if_neg hph];rfl,?_,fun w G h=>?_⟩
  ·have:=K.esl;show es'.length<=_;omega
  ·show q.x.pc+1=_;omega
  ·show (q.x.pc+1==(p.length:Int))=_;rw[K.pc,pc_next]
  ·have h1:=K.ob.add ⟨q.x.pc,6,0⟩ (fun h=>absurd h.1 (by show ¬(6:Int)=3;decide))
   have h2:begO c.strong ⟨q.x.pc,6,0⟩=false:=by unfold begO;cases c.strong <;> rfl
   rw[h2] at h1;exact h1
  ·have:=K.obl
   show (q.obs++[(⟨q.x.pc,6,0⟩:ObR)]).length<=_;rw[List.length_append];show _+1<=_;omega
  ·show wsum p (k+1)+3*es'.length<=wsum p k+3*q.es.length - 1
   omega
  ·have h1:=Z2t (m:=m) (c:=c) (s:=s+1) (t:=tk) (ck:=ck) (C:=C') ⟨htk.1,by omega⟩ M (h.pk5 [3,0,1,2,4])
   exact h1.pk5 [1,4,2,3,0]
 ·rintro ph d z' qs es' C' hph ⟨rfl,hqs,hes,hle⟩
  have hle:qs.length+1+es'.length=q.es.length:=hle;have hz:=hqs z' (List.mem_cons_self ..);have hdi:drI c C' (z'::qs):=⟨by rw[hz.1];decide,fun h=>by rw[hz.1] at h;omega,fun y hy=>(hqs y (List.mem_cons_of_mem _ hy)).1,fun y hy=>(hqs y hy).2⟩;refine⟨K.id0,{q with x:={q.x with fence:=ptrV gf,drain:=ptrV d},d:=d,gf:=gf,qs:=z'::qs,C:=C',es:=es',ck:=ck,tk:=tk},.dr k,rfl,⟨{K.up with code:=K.code,esr:=fun z hz=>K.esr z (hes z hz),esl:=?_},ha,rfl,rfl,hst,⟨hkl,hin'⟩,hdi,⟨htk.1,by show tk<=_;omega⟩,M⟩,by rw[if_neg hph];rfl,?_,fun w G h=>h.pk6 [0,5,4,2,1,3]⟩
  ·have:=K.esl;show es'.length<=_;omega
  ·have:=Z98 (z'::qs) fun y hy=>(hqs y hy).1
   have h3:(z'::qs).length=qs.length+1:=rfl;show wsum p (k+1)+3*es'.length+drR (z'::qs)<=wsum p k+3*q.es.length - 1;omega
theorem Zjv (hc:CfA c) (hp:PgA p) (hF:Z17 w0) (hs:s<=899) (hq:tph c p s q (.out k)) (hd:q.x.done=false):StGo w0 t m c p s q (.out k):=by
 have hq0:=hq;obtain⟨K,ha,hfe,hdr,hst,hin⟩:=hq;intro w F R h;have hkl:=k_lt K hd;have hi:=List.getElem?_eq_getElem hkl;have hop:=hp.v.out_op hi hin;have h18:=(hp.v.ins k _ hi).op;generalize p[k]'hkl=i at hi hop h18;have key:ExGo w0 t m c p s k q i:=by
  by_cases h7:i.op<7\/i.op=17
  ·exact Zcr hp hs hq0 hi h7
  ·by_cases h8:i.op=7
   ·exact Z96 hc hp hF hs hq0 hi h8
   ·by_cases h9:i.op=16
    ·exact Z95 hc hp hs hq0 hi h9
    ·exact Z94 hc hp hF hs hq0 hi (by omega)
 exact Z3d (g:=0) (R:=sepR [obsA q.x.obs q.obs,limA q.gl c q.es,mS m c s] R) h K.code K.pc hi hd (fun ph X Y h=>h.1) (.inr ⟨hfe,.inr (.inr ⟨.inl ha,fun F w h=>key F w R h⟩)⟩)
theorem st_any (hc:CfA c) (hp:PgA p) (hF:Z17 w0) (hs:s<=899) {T:TP} (hq:tph c p s q T) (hd:q.x.done=false):StGo w0 t m c p s q T:=by
 cases T with
 | out k=>exact Zjv hc hp hF hs hq hd
 | txn k P =>
  cases hb:bzA P with
  | true=>exact Z9r hc hp hF hs hq hb
  | false =>
   have h1:P = .idle:=by
    rcases hq.2.2.2.2.2.2.2.2.1 with⟨h|h,_⟩|⟨h|⟨h,_⟩,_⟩
    ·rw[h] at hb;cases hb
    ·rw[h] at hb;cases hb
    ·exact h
    ·rw[hb] at h;cases h
   subst h1;exact Z9q hc hp hF hs hq
 | str k a P =>
  cases hb:bzA P with
  | true=>exact Z9t hc hp hs hq hb
  | false=>exact Z9s hc hp hs hq hb
 | dr k=>exact Zl5 hc hp hs hq
theorem Zfn {d:Bool} (h:Hold w0 w (tA t m c p s E u d*F)):∃q T,(tph c p s q T/\E=q.b+tE T/\tmu p q T<=u/\d=q.x.done)/\Hold w0 w (sepR (tps t m c p s q T) F):=by
 obtain⟨⟨q,T⟩,h1,h2⟩:=h.Zlq;exact⟨q,T,h1,h2⟩
theorem Zi8 (hc:CfA c) (hp:PgA p) (hF:Z17 w0) (hs:s<=899) (h:Hold w0 w (F*(tA t m c p s E u false*R))) :
  Calls Tryz.prog 19 #[ptrV t,ptrV m] w fun e w'=>∃ph att a v l d,e = .returned (.tuple #[stV 0 ph att a,v,.bool true])/\List.length l<=1/\Hold w0 w' (evA v l*(F*(tA t m c p (s+1) (E+(if ph=2 then 1 else 0)) (u - 1) d*R))):=by
 obtain⟨q,T,⟨hq,rfl,hu,hd⟩,h1⟩:=Zfn (h.pk2 [1,0]);refine(st_any hc hp hF hs hq hd.symm w Asr.emp (F*R) (h1.imp (Imp.Zlv _))).mono ?_;rintro e w' ⟨ph,att,a,v,l,X,Y,⟨-,q',T',rfl,hq',hE',hu',hY⟩,rfl,hl,h2⟩;have h2b:Hold w0 w' (evA v l*(thA t c q'.x*Y)):=h2.pk3 [0,1];have h3:=hY w' (evA v l*thA t c q'.x) h2b.join;have h4:Hold w0 w' (evA v l*sepR (tps t m c p (s+1) q' T') (F*R)):=by
  have h5:=h3.part
  cases T' <;> exact h5
 obtain⟨d,h5⟩:=Zfo (E:=q.b+tE T+(if ph=2 then 1 else 0)) (u:=u - 1) hq' hE'.symm (by omega) (h4.imp (Imp.into _ _ _));exact⟨ph,att,a,v,l,d,rfl,hl,h5.pk3 [1,2,0]⟩
end
theorem Z8y:(Tryz.prog.info? 52).map (fun i=>(i.zero,i.size,i.bytes))=some (some (.agg #[.int .i64 0,.int .i64 0,.int .i64 0,.int .i64 0,.int .i64 0,.int .i64 0,.int .u64 0,.int .u64 0,.bool false]),9,72):=by kernel_rfl
theorem Z6x:(Tryz.prog.info? 87).map (fun i=>(i.zero,i.size,i.bytes))=some (some (.agg #[.int .i64 0,.int .i64 0,.int .i64 0,.int .i64 0,.slice none 0 0,.slice none 0 0]),6,80):=by kernel_rfl
theorem Z42 (x:Asr):∀l:List Asr,Imp (sepR l Asr.emp*x) (sepR (l++[x]) Asr.emp)
 | []=>Imp.comm _ _
 | a::l=>(Imp.assoc _ _ _).trans (Imp.under _ (Z42 x l))
theorem Zgr {w0 w:World} {R:Asr} {v:Value} {es:List EvR} {e:EvR} (h:Hold w0 w (rowT 87 6 v (es.length+1) (es.flatMap EvR.cells++e.cells)*(sepR (es.map EvR.objs) Asr.emp*(e.objs*R)))):Hold w0 w (evA v (es++[e])*R):=by
 unfold evA;rw[List.length_append,List.flatMap_append,List.map_append];have h2:=(h.pk3 [1,2,0]).join;have h3:=(h2.imp (Imp.on _ (Z42 e.objs (es.map EvR.objs)))).pk2 [1,0];have e1:[e].flatMap EvR.cells=e.cells:=by simp
 rw[e1];exact h3.join
section
variable {w0 w:World} {R:Asr} {gm m t ns nt ct:Nat} {id:Int} {At:Option Addr} {thv stv evv:Value} {ss ths:List Value} {es:List EvR} {k:Nat}
def Zjp {ι:Type} (w0:World) (Q:ι->Asr) (id:Int) (ph att:ι->Int) (a:ι->Acc) (e:Ending) (w':World):Prop:=∃i v l,e = .returned (.tuple #[stV id (ph i) (att i) (a i),v,.bool true])/\List.length l<=1/\Hold w0 w' (evA v l*Q i)
def Zl0 {ι:Type} (w0:World) (gm m:Nat) (thv:Value) (ths:List Value) (ns:Nat) (ss:List Value) (ne:Nat) (Q:ι->Asr) (id:Int) (ph att:ι->Int) (a:ι->Acc) (e:Ending) (w':World):Prop :=
 ∃i stv evv es,e = .returned (.bool true)/\es.length<=ne+1/\Hold w0 w' (blkA 78 gm #[ptrV m,thv,stv,evv]*(queA 81 thv ths*(rowT 52 9 stv (ns+1) (ss++(stC id (ph i) (att i) (a i)).toList)*(evA evv es*Q i))))
theorem Ziu {ι:Type} {Q:ι->Asr} {ph att:ι->Int} {a:ι->Acc} (h:Hold w0 w (blkA 78 gm #[ptrV m,thv,stv,evv]*(queA 81 thv ths*(rowT 52 9 stv ns ss*(evA evv es*R))))) (hk:ths[k]?=some (ptrV t)) (hk2:k<1000) (hns:ns<=1000) (hne:es.length<=1000)
  (hs:∀F w',Hold w0 w' (F*R)->Calls Tryz.prog 19 #[ptrV t,ptrV m] w' (Zjp w0 (fun i=>F*Q i) id ph att a)) :
  Calls Tryz.prog 12 #[ptrV gm,.int .i64 (k:Int)] w (Zl0 w0 gm m thv ths ns ss es.length Q id ph att a):=by
 have hkl:k<ths.length:=(List.getElem?_eq_some_iff.1 hk).1;obtain⟨At,ct,rfl⟩:=h.drop.Zlu;obtain⟨ad,rfl,hct⟩:∃ad,At=some ad/\ths.length<=ct:=by
  obtain⟨fp,h1⟩:=h.drop.get;obtain⟨_,h3,_,b,h4,_⟩:=queReads h1;obtain⟨ad2,hA,_⟩:=h4.cellAt (k:=k) (by omega);exact⟨ad2,hA,h3⟩
 obtain⟨As,cs,hst⟩:=(h.pk4 [2]).Zlt;have HST:=hid hst;clear hst;obtain⟨n,hn⟩:∃n,n=ths.length:=⟨_,rfl⟩;rw[<- hn] at hkl h hct |-;have e1:decide ((k:Int)<0)=false:=decide_eq_false (by omega);have e2:decide ((n:Int)<=(k:Int))=false:=decide_eq_false (by omega);have e2':decide (n<=k)=false:=decide_eq_false (by omega);have k0:(0:Int)<=(k:Int):=by omega
 have k1:(k:Int)<(n:Int):=by omega
 have HS:=hid hs;have HK:=hid hk;have q1:=h.blk.some_ (i:=1) rfl;have h1:Hold w0 w (Asr.emp*((blkA 78 gm #[ptrV m,.slice (some ad) n ct,stv,evv]*(queA 81 (.slice (some ad) n ct) ths*(rowT 52 9 stv ns ss*evA evv es)))*R)) :=
  ((((h.pk4 [2,3,0,1]).join.pk3 [2,0,1]).join.pk2 [1,0]).join.imp (Imp.Zlv _))
 have H:=hid h1;clear h h1 hs hk hn hkl;have hS2:∀w' X Y,Hold w0 w' (X*((blkA 78 gm #[ptrV m,.slice (some ad) n ct,stv,evv]*(queA 81 (.slice (some ad) n ct) ths*(rowT 52 9 stv ns ss*evA evv es)))*Y))->w'.cell? ⟨gm,0,none⟩=some (ptrV m)/\w'.cell? ⟨gm,1,none⟩=some (.slice (some ad) n ct)/\w'.cell? (ad.add k)=some (ptrV t):=by
  intro w' X Y h;have h1:=h.drop.part;exact⟨h1.blk.some_ (i:=0) rfl,h1.blk.some_ (i:=1) rfl,h1.drop.part.queAt HK.out⟩
 have HS2:=hid hS2;clear hS2;go_enter Tryz.func12,Tryz.ntmps12;go_upto_region 3 with fail
 go_cut [5,6,7] (fun s5 s6 s7 wx=>∃gs j l,s5 = .pointer (some ⟨gs,0,none⟩)/\s7 = .bool true/\l.length<=1/\Hold w0 wx (blkA 52 gs (stC id (ph j) (att j) (a j))*((blkA 78 gm #[ptrV m,.slice (some ad) n ct,stv,evv]*(queA 81 (.slice (some ad) n ct) ths*(rowT 52 9 stv ns ss*evA evv es)))*(evA s6 l*Q j))))
 case first =>
  have h:=H.out.drew;clear q1 H;refine Z01 [] (by kernel_rfl) ?_;generalize hW:w.drew=Wc at h |-;clear hW;refine Z04 (fun w'=>w'.cell? ⟨gm,0,none⟩=some (ptrV m)/\w'.cell? ⟨gm,1,none⟩=some (.slice (some ad) n ct)/\w'.cell? (ad.add k)=some (ptrV t)) (fun _ _=>trivial) _ _ _ _ ?_;refine' wbk [true,true,true,true,true,true,true,true,true,true,true] 76 (HS2.out _ _ _ h) (fun wq hq=>?_) ?_;rotate_left
  ·simp only[Z08]
   obtain⟨q1,q2,q3⟩:=hq
   repeat (go_big_quiet_step (fail))
   exact wpQuiet_nil rfl
  refine Z0f [false,false,false,false,false,false,false,false,false,false,false,true] [false,false,false,false,false,false,false,false,false,false,false,false,false,false,false,false,true] (fuel:=8) (by rfl) (by rfl) (by rfl) (by rfl) (by kernel_rfl) (fun QB hQB hQX=>?_) (fun QB hQB hQX=>?_)
  ·simp only[Z08]
   go_wp2_with fail;refine(HS.out _ _ h.join).mono ?_;rintro e Wc ⟨j,v,l,rfl,hl,h⟩;replace h:=((h.pk2 [1,0]).part);go_wp2_with fail;refine hQB.out _ _ (HS2.out _ _ _ h) ?_;clear hQB hQX QB;refine' wby [false,false,false,false,false,false,false,false,false,false,false,false,true,true,true,true] 76 (HS2.out _ _ _ h) ?_;refine wbi 16 (fuel:=3) (fun QB hQB hQX=>?_);have H:=hid ((h.newBlk (t:=52) (cs:=#[.int .i64 0,.int .i64 0,.int .i64 0,.int .i64 0,.int .i64 0,.int .i64 0,.int .u64 0,.int .u64 0,.bool false])).join);clear h;go_wp2_with fail;refine hQB.out _ _ (HS2.out _ _ _ H.out) ?_;clear hQB hQX QB;have h:=H.out;generalize hW:Wc.alloc _=W2 at h |-;generalize Wc.heap.size=gs at h |-;clear hW H;obtain⟨Wc,rfl⟩:∃W',W'=W2:=⟨_,rfl⟩;refine wbi 17 (fuel:=2) (fun QB hQB hQX=>?_);go_wp2_with (refine Z00 rfl 52 _ _ rfl gs _ _ (stC id (ph j) (att j) (a j)) rfl rfl _ Tryz.sizeOf52 h.part rfl rfl rfl ?_;intro w5 h6);refine hQB.out _ _ (HS2.out _ _ _ h6.join) ?_;clear hQB hQX QB;refine' wby [false,false,false,false,false,false,false,false,false,false,false,false,false,false,false,false,false,false,true,true] 76 (HS2.out _ _ _ h6.join) ?_;refine Z02 (by kernel_rfl) ?_ _;go_wp2_with fail;go_meet;exact⟨gs,j,l,rfl,rfl,hl,h6.imp (Imp.under _ (Imp.drop _ _))⟩
  ·simp only[Z08]
   have H:=hid ((h.newBlk (t:=52) (cs:=#[.int .i64 0,.int .i64 0,.int .i64 0,.int .i64 0,.int .i64 0,.int .i64 0,.int .u64 0,.int .u64 0,.bool false])).join);clear h;go_wp2_with fail;refine hQB.out _ _ (HS2.out _ _ _ H.out) ?_;clear hQB hQX QB;have h:=H.out;generalize hW:Wc.alloc _=W2 at h |-;generalize Wc.heap.size=gs at h |-;clear hW H;obtain⟨Wc,rfl⟩:∃W',W'=W2:=⟨_,rfl⟩;refine wbi 11 (fuel:=7) (fun QB hQB hQX=>?_);go_wp2_with fail;refine(HS.out _ _ h.join).mono ?_;rintro e Wc ⟨j,v,l,rfl,hl,h⟩;replace h:=((h.pk2 [1,0]).part);go_wp2_with fail;refine hQB.out _ _ (HS2.out _ _ _ h) ?_;clear hQB hQX QB;refine' wby [false,false,false,false,false,false,false,false,false,false,false,false,true,true,true,true] 76 (HS2.out _ _ _ h) ?_;refine wbi 17 (fuel:=2) (fun QB hQB hQX=>?_);go_wp2_with (refine Z00 rfl 52 _ _ rfl gs _ _ (stC id (ph j) (att j) (a j)) rfl rfl _ Tryz.sizeOf52 h.part rfl rfl rfl ?_;intro w5 h6);refine hQB.out _ _ (HS2.out _ _ _ h6.join) ?_;clear hQB hQX QB;refine' wby [false,false,false,false,false,false,false,false,false,false,false,false,false,false,false,false,false,false,true,true] 76 (HS2.out _ _ _ h6.join) ?_;refine Z02 (by kernel_rfl) ?_ _;go_wp2_with fail;go_meet;exact⟨gs,j,l,rfl,rfl,hl,h6.imp (Imp.under _ (Imp.drop _ _))⟩
 case rest =>
 clear H q1 HS2
 rename World=>w3
 obtain⟨gs,j,l,rfl,rfl,hl,h⟩:=hcut;obtain⟨v,hv⟩:∃v,v=u6:=⟨_,rfl⟩;rw[<- hv] at h |-;clear hv;replace h:Hold w0 w3 (evA v l*(blkA 52 gs (stC id (ph j) (att j) (a j))*(blkA 78 gm #[ptrV m,.slice (some ad) n ct,stv,evv]*(queA 81 (.slice (some ad) n ct) ths*(rowT 52 9 stv ns ss*(evA evv es*Q j)))))):=(((h.imp (Imp.under _ (Imp.assoc _ _ _))).imp (Imp.under _ (Imp.under _ (Imp.assoc _ _ _)))).imp (Imp.under _ (Imp.under _ (Imp.under _ (Imp.assoc _ _ _))))).pk6 [5,0,1,2,3,4];obtain⟨A,c,rfl⟩:=h.part.Zlt;obtain⟨nl,hnl⟩:∃nl,nl=l.length:=⟨_,rfl⟩;rw[<- hnl] at h |-;have HL:=hid (And.intro hl hnl);have H:=hid h;clear h hl hnl;go_wp2_with fail;go_loopw [45] (fun i wr=>(∃evv' es',i = .int .i64 (nl:Int)/\es'.length<=es.length+1/\Hold w0 wr (blkA 52 gs (stC id (ph j) (att j) (a j))*(blkA 78 gm #[ptrV m,.slice (some ad) n ct,stv,evv']*(queA 81 (.slice (some ad) n ct) ths*(rowT 52 9 stv ns ss*(evA evv' es'*Q j))))))\/(∃e gv,l=[e]/\A=some ⟨gv,0,none⟩/\i = .int .i64 0/\Hold w0 wr (rowT 87 6 (.slice A nl c) nl e.cells*(e.objs*(blkA 52 gs (stC id (ph j) (att j) (a j))*(blkA 78 gm #[ptrV m,.slice (some ad) n ct,stv,evv]*(queA 81 (.slice (some ad) n ct) ths*(rowT 52 9 stv ns ss*(evA evv es*Q j))))))))) (fun i _=>nl - (intOf i).toNat)
 case atStart =>
  obtain⟨hl,hnl⟩:=HL.out;have h:=H.out
  cases l with
  | nil =>
   obtain rfl:nl=0:=hnl;exact .inl ⟨evv,es,rfl,by omega,h.part.drop.drop⟩
  | cons e l =>
   obtain rfl:l=[]:=List.length_eq_zero_iff.1 (by rw[List.length_cons] at hl;omega);obtain rfl:nl=1:=hnl;replace h:Hold w0 w3 (rowT 87 6 (.slice A 1 c) 1 (e.cells++[])*((e.objs*Asr.emp)*(blkA 52 gs (stC id (ph j) (att j) (a j))*(blkA 78 gm #[ptrV m,.slice (some ad) n ct,stv,evv]*(queA 81 (.slice (some ad) n ct) ths*(rowT 52 9 stv ns ss*(evA evv es*Q j))))))):=h.part;rw[List.append_nil] at h;obtain⟨gv,hA,-,-⟩:=h.rowSBlk (by decide) (by decide);exact .inr ⟨e,gv,rfl,hA,rfl,h.imp (Imp.under _ ((Imp.assoc _ _ _).trans (Imp.under _ (Imp.drop _ _))))⟩
 case round =>
  clear H;rcases hrel with⟨evv',es',rfl,hes,h⟩|⟨e,gv,hle,rfl,rfl,h⟩
  ·clear HL
   have e6:decide ((nl:Int)<(nl:Int))=false:=decide_eq_false (by omega);have e6':decide (nl<nl)=false:=decide_eq_false (by omega);have H:=hid h;clear h;go_upto_region 12 with fail
   have h:=H.out;clear H;obtain⟨iS,hiS,zo0,zo1,zo2⟩:∃i,Tryz.prog.info? 52=some i/\i.zero=some (.agg #[.int .i64 0,.int .i64 0,.int .i64 0,.int .i64 0,.int .i64 0,.int .i64 0,.int .u64 0,.int .u64 0,.bool false])/\i.size=9/\i.bytes=72:=by
    have hi:=Z8y;revert hi
    cases Tryz.prog.info? 52 with
    | none=>intro hi;cases hi
    | some i =>
     intro hi;simp only[Option.map_some,Option.some.injEq,Prod.mk.injEq] at hi;exact⟨i,rfl,hi.1,hi.2.1,hi.2.2⟩
   have hS4:∀w' R',Hold w0 w' (blkA 52 gs (stC id (ph j) (att j) (a j))*(blkA 78 gm #[ptrV m,.slice (some ad) n ct,stv,evv']*R'))->w'.cell? ⟨gm,2,none⟩=some stv/\w'.cell? ⟨gs,0,none⟩=some (.int .i64 id)/\w'.cell? ⟨gs,1,none⟩=some (.int .i64 (ph j))/\w'.cell? ⟨gs,2,none⟩=some (.int .i64 (att j))/\w'.cell? ⟨gs,3,none⟩=some (.int .i64 (a j).kind)/\w'.cell? ⟨gs,4,none⟩=some (.int .i64 (a j).cell)/\w'.cell? ⟨gs,5,none⟩=some (.int .i64 (a j).index)/\w'.cell? ⟨gs,6,none⟩=some (.int .u64 (a j).got)/\w'.cell? ⟨gs,7,none⟩=some (.int .u64 (a j).put)/\w'.cell? ⟨gs,8,none⟩=some (.bool (a j).done):=fun w' R' h =>
    ⟨h.drop.blk.some_ (i:=2) rfl,h.blk.some_ (i:=0) rfl,h.blk.some_ (i:=1) rfl,h.blk.some_ (i:=2) rfl,h.blk.some_ (i:=3) rfl,h.blk.some_ (i:=4) rfl,h.blk.some_ (i:=5) rfl,h.blk.some_ (i:=6) rfl,h.blk.some_ (i:=7) rfl,h.blk.some_ (i:=8) rfl⟩
   have HS4:=hid hS4;clear hS4;replace h:=h.drew;refine Z01 [10] (by kernel_rfl) ?_;generalize hW:wr.drew=W3 at h |-;clear hW;refine Z04 (fun w'=>w'.cell? ⟨gm,2,none⟩=some stv/\w'.cell? ⟨gs,0,none⟩=some (.int .i64 id)/\w'.cell? ⟨gs,1,none⟩=some (.int .i64 (ph j))/\w'.cell? ⟨gs,2,none⟩=some (.int .i64 (att j))/\w'.cell? ⟨gs,3,none⟩=some (.int .i64 (a j).kind)/\w'.cell? ⟨gs,4,none⟩=some (.int .i64 (a j).cell)/\w'.cell? ⟨gs,5,none⟩=some (.int .i64 (a j).index)/\w'.cell? ⟨gs,6,none⟩=some (.int .u64 (a j).got)/\w'.cell? ⟨gs,7,none⟩=some (.int .u64 (a j).put)/\w'.cell? ⟨gs,8,none⟩=some (.bool (a j).done)) (fun _ _=>trivial) _ _ _ _ ?_;refine' wbk [true,true,true,true,true,true] 76 (HS4.out _ _ h) (fun wq hq=>?_) ?_;rotate_left
   ·simp only[Z08]
    obtain⟨q0,q1,q2,q3,q4,q5,q6,q7,q8,q9⟩:=hq
    repeat (go_big_quiet_step (fail))
    exact wpQuiet_nil rfl
   refine wbi 6 (fuel:=4) (fun QB hQB hQX=>?_);go_wp2_with fail;refine hQB.out _ _ (HS4.out _ _ (h.alloc _)) ?_;clear hQB hQX QB;refine wbi 7 (fuel:=3) (fun QB hQB hQX=>?_);go_wp2_with (at_builtin;refine Z0s rfl _ _ 38 rfl 52 iS (.agg #[.int .i64 0,.int .i64 0,.int .i64 0,.int .i64 0,.int .i64 0,.int .i64 0,.int .u64 0,.int .u64 0,.bool false]) 9 72 Tryz.underlying38 hiS zo0 zo1 zo2 rfl (by decide) stv ns ss [.int .i64 id,.int .i64 (ph j),.int .i64 (att j),.int .i64 (a j).kind,.int .i64 (a j).cell,.int .i64 (a j).index,.int .u64 (a j).got,.int .u64 (a j).put,.bool (a j).done] _ rfl (h.pk4 [3,0,1,2]) _ rfl rfl rfl rfl (by omega) (by decide) ?_);intro A9 c9 y9 h9;have h8:=h9.pk4 [1,2,3,0];clear h9 h;go_wp2_with fail;refine hQB.out _ _ (HS4.out _ _ h8) ?_;clear hQB hQX QB;refine' wbz [false,false,false,false,false,false,false,false,true,true] 76 (HS4.out _ _ h8) ?_;refine wbj 10 (fuel:=0) (fun QB hQB hQX=>?_);have p1:=(HS4.out _ _ h8).1;have z1:=h8.drop.blk.frozen 2;have H9:=hid (h8.drop.Zlp 2 (.slice A9 (ns+1) c9));clear h8;go_wp2_with fail;refine hQB.out _ _ ?_;clear hQB hQX QB p1 z1 HS4;refine Z06 (by kernel_rfl) ?_;refine Z02 (by kernel_rfl) ?_ _;go_wp2_with fail;go_ret;exact⟨j,.slice A9 (ns+1) c9,evv',es',rfl,hes,H9.out.pk4 [0,1,2,3]⟩
  ·have hn1:nl=1:=by have:=HL.out.2;rw[hle] at this;exact this
   have HN1:=hid hn1;have e5:decide ((0:Int)<(nl:Int))=true:=decide_eq_true (by omega);have e5':decide (0<nl)=true:=decide_eq_true (by omega);have k5:(0:Int)<(nl:Int):=by omega
   obtain⟨gv2,hA,hcv,hc1⟩:=h.rowSBlk (by decide) (by omega);obtain rfl:gv=gv2:=by injection hA with hA;injection hA
   obtain⟨eat,eth,ekd,ewd,erd,ewr,ers,ews,ehb⟩:=e;replace h:Hold w0 wr (rowT 87 6 (.slice (some ⟨gv,0,none⟩) nl c) nl [.int .i64 eat,.int .i64 eth,.int .i64 ekd,.int .i64 ewd,erd,ewr]*(queA 3 erd (ers.map (Value.int .i64))*(queA 3 ewr (ews.map (Value.int .i64))*(blkA 52 gs (stC id (ph j) (att j) (a j))*(blkA 78 gm #[ptrV m,.slice (some ad) n ct,stv,evv]*(queA 81 (.slice (some ad) n ct) ths*(rowT 52 9 stv ns ss*(evA evv es*Q j)))))))):=h.imp (Imp.under _ (Imp.assoc _ _ _));obtain⟨A1,n1,c1,rfl⟩:∃A n c,erd = .slice A n c:=by obtain⟨A,c,h⟩:=h.drop.Zlu;exact⟨A,_,c,h⟩
   obtain⟨A2,n2,c2,rfl⟩:∃A n c,ewr = .slice A n c:=by obtain⟨A,c,h⟩:=h.drop.drop.Zlu;exact⟨A,_,c,h⟩
   have HCV:=hid hcv;have H:=hid h;clear h hcv hle HL hn1;go_upto_region 9 with(refine Z3i rfl 87 _ rfl ⟨gv,0,none⟩ #[.int .i64 eat,.int .i64 eth,.int .i64 ekd,.int .i64 ewd,.slice A1 n1 c1,.slice A2 n2 c2] rfl Tryz.isAgg87 6 Tryz.sizeOf87 ?_ rfl ?_)
   ·exact HCV.out
   have h:=((H.out.drop.newBlk (t:=87) (cs:=#[.int .i64 eat,.int .i64 eth,.int .i64 ekd,.int .i64 ewd,.slice A1 n1 c1,.slice A2 n2 c2])).pk8 [0,4,7,1,2,3,5,6]);generalize hW:World.alloc _ _=W at h |-;generalize wr.heap.size=gn at h |-;clear hW H HCV;have p2:W.cell? ⟨gm,2,none⟩=some (.slice As ns cs):=by have:=h.drop.blk.some_ (i:=2) (u:=stv) rfl;rw[HST.out] at this;exact this
   have qn:=h.blk.some_ (i:=0) rfl;have zn:=h.blk.frozen 0;have H:=hid (h.Zlp 0 (.int .i64 (ns:Int)));clear h;go_upto_region 10 with fail
   have h:=H.out;generalize hW:World.setCell _ _ _=W2 at h |-;clear hW H p2 qn zn;replace h:Hold w0 W2 (blkA 87 gn #[.int .i64 (ns:Int),.int .i64 eth,.int .i64 ekd,.int .i64 ewd,.slice A1 n1 c1,.slice A2 n2 c2]*(blkA 78 gm #[ptrV m,.slice (some ad) n ct,stv,evv]*(rowT 87 6 evv es.length (es.flatMap EvR.cells)*(sepR (es.map EvR.objs) Asr.emp*(queA 3 (.slice A1 n1 c1) (ers.map (Value.int .i64))*(queA 3 (.slice A2 n2 c2) (ews.map (Value.int .i64))*(blkA 52 gs (stC id (ph j) (att j) (a j))*(queA 81 (.slice (some ad) n ct) ths*(rowT 52 9 stv ns ss*Q j))))))))):=h.imp (Imp.under _ (Imp.under _ (Imp.assoc _ _ _)));obtain⟨iE,hiE,zo0,zo1,zo2⟩:∃i,Tryz.prog.info? 87=some i/\i.zero=some (.agg #[.int .i64 0,.int .i64 0,.int .i64 0,.int .i64 0,.slice none 0 0,.slice none 0 0])/\i.size=6/\i.bytes=80:=by
    have hi:=Z6x;revert hi
    cases Tryz.prog.info? 87 with
    | none=>intro hi;cases hi
    | some i =>
     intro hi;simp only[Option.map_some,Option.some.injEq,Prod.mk.injEq] at hi;exact⟨i,rfl,hi.1,hi.2.1,hi.2.2⟩
   have hS4:∀w' R',Hold w0 w' (blkA 87 gn #[.int .i64 (ns:Int),.int .i64 eth,.int .i64 ekd,.int .i64 ewd,.slice A1 n1 c1,.slice A2 n2 c2]*(blkA 78 gm #[ptrV m,.slice (some ad) n ct,stv,evv]*R'))->w'.cell? ⟨gm,3,none⟩=some evv/\w'.cell? ⟨gn,0,none⟩=some (.int .i64 (ns:Int))/\w'.cell? ⟨gn,1,none⟩=some (.int .i64 eth)/\w'.cell? ⟨gn,2,none⟩=some (.int .i64 ekd)/\w'.cell? ⟨gn,3,none⟩=some (.int .i64 ewd)/\w'.cell? ⟨gn,4,none⟩=some (.slice A1 n1 c1)/\w'.cell? ⟨gn,5,none⟩=some (.slice A2 n2 c2):=fun w' R' h =>
    ⟨h.drop.blk.some_ (i:=3) rfl,h.blk.some_ (i:=0) rfl,h.blk.some_ (i:=1) rfl,h.blk.some_ (i:=2) rfl,h.blk.some_ (i:=3) rfl,h.blk.some_ (i:=4) rfl,h.blk.some_ (i:=5) rfl⟩
   have HS4:=hid hS4;clear hS4;replace h:=h.drew;refine Z01 [10] (by kernel_rfl) ?_;generalize hW:W2.drew=W3 at h |-;clear hW;refine Z04 (fun w'=>w'.cell? ⟨gm,3,none⟩=some evv/\w'.cell? ⟨gn,0,none⟩=some (.int .i64 (ns:Int))/\w'.cell? ⟨gn,1,none⟩=some (.int .i64 eth)/\w'.cell? ⟨gn,2,none⟩=some (.int .i64 ekd)/\w'.cell? ⟨gn,3,none⟩=some (.int .i64 ewd)/\w'.cell? ⟨gn,4,none⟩=some (.slice A1 n1 c1)/\w'.cell? ⟨gn,5,none⟩=some (.slice A2 n2 c2)) (fun _ _=>trivial) _ _ _ _ ?_;refine' wbk [true,true,true,true,true,true] 76 (HS4.out _ _ h) (fun wq hq=>?_) ?_;rotate_left
   ·simp only[Z08]
    obtain⟨q1,q2,q3,q4,q5,q6,q7⟩:=hq
    repeat (go_big_quiet_step (fail))
    exact wpQuiet_nil rfl
   refine wbi 6 (fuel:=4) (fun QB hQB hQX=>?_);go_wp2_with fail;refine hQB.out _ _ (HS4.out _ _ (h.alloc _)) ?_;clear hQB hQX QB;refine wbi 7 (fuel:=3) (fun QB hQB hQX=>?_);go_wp2_with (at_builtin;refine Z0s rfl _ _ 39 rfl 87 iE (.agg #[.int .i64 0,.int .i64 0,.int .i64 0,.int .i64 0,.slice none 0 0,.slice none 0 0]) 6 80 Tryz.underlying39 hiE zo0 zo1 zo2 rfl (by decide) evv es.length (es.flatMap EvR.cells) [.int .i64 (ns:Int),.int .i64 eth,.int .i64 ekd,.int .i64 ewd,.slice A1 n1 c1,.slice A2 n2 c2] _ rfl (h.pk3 [2,0,1]) _ rfl rfl rfl rfl (by omega) (by decide) ?_);intro A9 c9 y9 h9;have h8:=h9.pk3 [1,2,0];clear h9 h;go_wp2_with fail;refine hQB.out _ _ (HS4.out _ _ h8) ?_;clear hQB hQX QB;refine' wbz [false,false,false,false,false,false,false,false,true,true] 76 (HS4.out _ _ h8) ?_;refine wbj 10 (fuel:=0) (fun QB hQB hQX=>?_);have p1:=(HS4.out _ _ h8).1;have z1:=h8.drop.blk.frozen 3;have H9:=hid (h8.drop.Zlp 3 (.slice A9 (es.length+1) c9));clear h8;go_wp2_with fail;refine hQB.out _ _ ?_;clear hQB hQX QB p1 z1 HS4;refine Z06 (by kernel_rfl) ?_;refine Z02 (by kernel_rfl) ?_ _;go_wp2_with fail;go_roundw
   case rel =>
    refine .inl ⟨.slice A9 (es.length+1) c9,es++[⟨(ns:Int),eth,ekd,ewd,.slice A1 n1 c1,.slice A2 n2 c2,ers,ews,ehb⟩],by rw[HN1.out];rfl,by rw[List.length_append];exact Nat.le_refl _,?_⟩;exact(Zgr (((H9.out.pk5 [3,4,0,1,2]).join).pk4 [2,3,0,1])).pk5 [2,1,3,4,0]
   case measure=>have:=HN1.out;simp[intOf];omega
end
section
variable {w0 w:World} {R:Asr} {gm m t ns nt ct:Nat} {At:Option Addr} {thv stv evv:Value} {ss ths:List Value} {es:List EvR} {k:Nat}
theorem Zgb (h:Hold w0 w (blkA 78 gm #[ptrV m,thv,stv,evv]*(queA 81 thv ths*(rowT 52 9 stv ns ss*(evA evv es*R))))) (hk:ths[k]?=some (ptrV t)) (hk2:k<1000)
  (hs:∀F w',Hold w0 w' (F*R)->Calls Tryz.prog 19 #[ptrV t,ptrV m] w' fun e w''=>e = .returned (.tuple #[stV 0 0 0 acc0,.slice none 0 0,.bool false])/\Hold w0 w'' (F*R)) :
  Calls Tryz.prog 12 #[ptrV gm,.int .i64 (k:Int)] w fun e w'=>e = .returned (.bool false)/\Hold w0 w' (blkA 78 gm #[ptrV m,thv,stv,evv]*(queA 81 thv ths*(rowT 52 9 stv ns ss*(evA evv es*R)))):=by
 have hkl:k<ths.length:=(List.getElem?_eq_some_iff.1 hk).1;obtain⟨At,ct,rfl⟩:=h.drop.Zlu;obtain⟨ad,rfl,hct⟩:∃ad,At=some ad/\ths.length<=ct:=by
  obtain⟨fp,h1⟩:=h.drop.get;obtain⟨_,h3,_,b,h4,_⟩:=queReads h1;obtain⟨ad2,hA,_⟩:=h4.cellAt (k:=k) (by omega);exact⟨ad2,hA,h3⟩
 obtain⟨As,cs,hst⟩:=(h.pk4 [2]).Zlt;have HST:=hid hst;clear hst;obtain⟨n,hn⟩:∃n,n=ths.length:=⟨_,rfl⟩;rw[<- hn] at hkl h hct |-;have e1:decide ((k:Int)<0)=false:=decide_eq_false (by omega);have e2:decide ((n:Int)<=(k:Int))=false:=decide_eq_false (by omega);have e2':decide (n<=k)=false:=decide_eq_false (by omega);have k0:(0:Int)<=(k:Int):=by omega
 have k1:(k:Int)<(n:Int):=by omega
 have HS:=hid hs;have HK:=hid hk;have q1:=h.blk.some_ (i:=1) rfl;have h1:Hold w0 w (Asr.emp*((blkA 78 gm #[ptrV m,.slice (some ad) n ct,stv,evv]*(queA 81 (.slice (some ad) n ct) ths*(rowT 52 9 stv ns ss*evA evv es)))*R)) :=
  ((((h.pk4 [2,3,0,1]).join.pk3 [2,0,1]).join.pk2 [1,0]).join.imp (Imp.Zlv _))
 have H:=hid h1;clear h h1 hs hk hn hkl;have hS2:∀w' X Y,Hold w0 w' (X*((blkA 78 gm #[ptrV m,.slice (some ad) n ct,stv,evv]*(queA 81 (.slice (some ad) n ct) ths*(rowT 52 9 stv ns ss*evA evv es)))*Y))->w'.cell? ⟨gm,0,none⟩=some (ptrV m)/\w'.cell? ⟨gm,1,none⟩=some (.slice (some ad) n ct)/\w'.cell? (ad.add k)=some (ptrV t):=by
  intro w' X Y h;have h1:=h.drop.part;exact⟨h1.blk.some_ (i:=0) rfl,h1.blk.some_ (i:=1) rfl,h1.drop.part.queAt HK.out⟩
 have HS2:=hid hS2;clear hS2;go_enter Tryz.func12,Tryz.ntmps12;go_upto_region 3 with fail
 go_cut [5,6,7] (fun s5 s6 s7 wx=>s7 = .bool false/\Hold w0 wx ((blkA 78 gm #[ptrV m,.slice (some ad) n ct,stv,evv]*(queA 81 (.slice (some ad) n ct) ths*(rowT 52 9 stv ns ss*evA evv es)))*R))
 case first =>
  have h:=H.out.drew;clear q1 H;refine Z01 [] (by kernel_rfl) ?_;generalize hW:w.drew=Wc at h |-;clear hW;refine Z04 (fun w'=>w'.cell? ⟨gm,0,none⟩=some (ptrV m)/\w'.cell? ⟨gm,1,none⟩=some (.slice (some ad) n ct)/\w'.cell? (ad.add k)=some (ptrV t)) (fun _ _=>trivial) _ _ _ _ ?_;refine' wbk [true,true,true,true,true,true,true,true,true,true,true] 76 (HS2.out _ _ _ h) (fun wq hq=>?_) ?_;rotate_left
  ·simp only[Z08]
   obtain⟨q1,q2,q3⟩:=hq
   repeat (go_big_quiet_step (fail))
   exact wpQuiet_nil rfl
  refine Z0f [false,false,false,false,false,false,false,false,false,false,false,true] [false,false,false,false,false,false,false,false,false,false,false,false,false,false,false,false,true] (fuel:=8) (by rfl) (by rfl) (by rfl) (by rfl) (by kernel_rfl) (fun QB hQB hQX=>?_) (fun QB hQB hQX=>?_)
  ·simp only[Z08]
   go_wp2_with fail;refine(HS.out _ _ h.join).mono ?_;rintro e Wc ⟨rfl,h⟩;replace h:=h.part;go_wp2_with fail;refine hQB.out _ _ (HS2.out _ _ _ h) ?_;clear hQB hQX QB;refine' wby [false,false,false,false,false,false,false,false,false,false,false,false,true,true,true,true] 76 (HS2.out _ _ _ h) ?_;refine wbi 16 (fuel:=3) (fun QB hQB hQX=>?_);have H:=hid ((h.newBlk (t:=52) (cs:=#[.int .i64 0,.int .i64 0,.int .i64 0,.int .i64 0,.int .i64 0,.int .i64 0,.int .u64 0,.int .u64 0,.bool false])).join);clear h;go_wp2_with fail;refine hQB.out _ _ (HS2.out _ _ _ H.out) ?_;clear hQB hQX QB;have h:=H.out;generalize hW:Wc.alloc _=W2 at h |-;generalize Wc.heap.size=gs at h |-;clear hW H;obtain⟨Wc,rfl⟩:∃W',W'=W2:=⟨_,rfl⟩;refine wbi 17 (fuel:=2) (fun QB hQB hQX=>?_);go_wp2_with (refine Z00 rfl 52 _ _ rfl gs _ _ (stC 0 0 0 acc0) rfl rfl _ Tryz.sizeOf52 h.part rfl rfl rfl ?_;intro w5 h6);refine hQB.out _ _ (HS2.out _ _ _ h6.join) ?_;clear hQB hQX QB;refine' wby [false,false,false,false,false,false,false,false,false,false,false,false,false,false,false,false,false,false,true,true] 76 (HS2.out _ _ _ h6.join) ?_;refine Z02 (by kernel_rfl) ?_ _;go_wp2_with fail;go_meet;exact⟨rfl,h6.drop.drop⟩
  ·simp only[Z08]
   have H:=hid ((h.newBlk (t:=52) (cs:=#[.int .i64 0,.int .i64 0,.int .i64 0,.int .i64 0,.int .i64 0,.int .i64 0,.int .u64 0,.int .u64 0,.bool false])).join);clear h;go_wp2_with fail;refine hQB.out _ _ (HS2.out _ _ _ H.out) ?_;clear hQB hQX QB;have h:=H.out;generalize hW:Wc.alloc _=W2 at h |-;generalize Wc.heap.size=gs at h |-;clear hW H;obtain⟨Wc,rfl⟩:∃W',W'=W2:=⟨_,rfl⟩;refine wbi 11 (fuel:=7) (fun QB hQB hQX=>?_);go_wp2_with fail;refine(HS.out _ _ h.join).mono ?_;rintro e Wc ⟨rfl,h⟩;replace h:=h.part;go_wp2_with fail;refine hQB.out _ _ (HS2.out _ _ _ h) ?_;clear hQB hQX QB;refine' wby [false,false,false,false,false,false,false,false,false,false,false,false,true,true,true,true] 76 (HS2.out _ _ _ h) ?_;refine wbi 17 (fuel:=2) (fun QB hQB hQX=>?_);go_wp2_with (refine Z00 rfl 52 _ _ rfl gs _ _ (stC 0 0 0 acc0) rfl rfl _ Tryz.sizeOf52 h.part rfl rfl rfl ?_;intro w5 h6);refine hQB.out _ _ (HS2.out _ _ _ h6.join) ?_;clear hQB hQX QB;refine' wby [false,false,false,false,false,false,false,false,false,false,false,false,false,false,false,false,false,false,true,true] 76 (HS2.out _ _ _ h6.join) ?_;refine Z02 (by kernel_rfl) ?_ _;go_wp2_with fail;go_meet;exact⟨rfl,h6.drop.drop⟩
 case rest =>
 clear H q1 HS2
 rename World=>w3
 obtain⟨rfl,h⟩:=hcut;have H:=hid h;clear h;go_wp2_with fail;refine bodyPost_ret (results_tmp rfl _ _ _) rfl ?_;exact⟨rfl,(((H.out.imp (Imp.assoc _ _ _)).imp (Imp.under _ (Imp.assoc _ _ _))).imp (Imp.under _ (Imp.under _ (Imp.assoc _ _ _))))⟩
end
structure TZ where
 pc:Int
 regs:Nat->Int
 outcome:Int
 obs:List ObR
 es:List (Int × Int)
 B:Nat
structure TQ where
 A:Option Addr
 cp:Nat
 ov:Value
 gl:Nat
 saved:Nat->Int
 begin_:Int
 tries:Int
 asked:Int
 seen:Value
 count:Int
def startZ:TZ:=⟨0,fun _=>0,0,[],[],0⟩
def updZ (f:Nat->TZ) (i:Nat) (T:TZ):Nat->TZ:=fun j=>if j=i then T else f j
theorem updZ_self {f:Nat->TZ} {i:Nat} {T:TZ}:updZ f i T i=T:=if_pos rfl
theorem Zd3 {f:Nat->TZ} {i j:Nat} {T:TZ} (h:j≠i):updZ f i T j=f j:=if_neg h
structure MZ where
 C:Nat->List Int
 th:Nat->TZ
 steps:List StR
def thR (p:List InsR) (n id:Int) (T:TZ) (q:TQ):ThR :=
 {attempt:=.pointer none,begin_:=q.begin_,saved:=q.saved,tries:=q.tries,seen:=q.seen,strong:=false,asked:=q.asked,fence:=.pointer none,drain:=.pointer none,id:=id,threads:=n,code:=.slice q.A p.length q.cp,pc:=T.pc,regs:=T.regs,outcome:=T.outcome,done:=T.pc==(p.length:Int),limbo:=ptrV q.gl,obs:=q.ov,count:=q.count}
def thS (t:Nat) (c:Cfg) (p:List InsR) (n id:Int) (T:TZ):Asr :=
 Asr.exs (fun q:TQ=>(0<=q.count/\q.count<=T.B)/\(0<=q.tries/\q.tries<=T.B)) (fun q=>[thA t c (thR p n id T q),Z0a (.slice q.A p.length q.cp) p,obsA q.ov T.obs,limA q.gl c T.es])
def stL (l:List StR):List Value:=l.flatMap fun x=>(stC x.th x.phase x.att x.acc).toList
theorem Zfp (l:List StR) (x:StR):stL (l++[x])=stL l++(stC x.th x.phase x.att x.acc).toList:=by unfold stL;rw[List.flatMap_append];simp
def thsF (ts:List Nat) (c:Cfg) (ps:Nat->List InsR) (n:Nat) (th:Nat->TZ) (i:Nat):Asr:=thS (ts.getD i 0) c (ps i) (n:Int) (i:Int) (th i)
def thsL (ts:List Nat) (c:Cfg) (ps:Nat->List InsR) (n:Nat) (th:Nat->TZ):List Asr:=(List.range n).map (thsF ts c ps n th)
theorem Zl3 {ts:List Nat} {c:Cfg} {ps:Nat->List InsR} {n:Nat} {th:Nat->TZ} {i j:Nat} {T:TZ} (h:j≠i):thsF ts c ps n th j=thsF ts c ps n (updZ th i T) j:=congrArg (thS (ts.getD j 0) c (ps j) (n:Int) (j:Int)) (Zd3 h).symm
theorem Zhz {ts:List Nat} {c:Cfg} {ps:Nat->List InsR} {n:Nat} {th:Nat->TZ} {i:Nat} {T:TZ}:thS (ts.getD i 0) c (ps i) (n:Int) (i:Int) T=thsF ts c ps n (updZ th i T) i:=congrArg (thS (ts.getD i 0) c (ps i) (n:Int) (i:Int)) updZ_self.symm
theorem Zi2 {ts:List Nat} {c:Cfg} {ps:Nat->List InsR} {n:Nat} {th:Nat->TZ} {i:Nat} (hi:i<n):(thsL ts c ps n th)[i]?=some (thsF ts c ps n th i):=by
 unfold thsL;rw[List.getElem?_map,List.getElem?_range hi,Option.map_some]
theorem Zfl {ts:List Nat} {c:Cfg} {ps:Nat->List InsR} {n:Nat} {th:Nat->TZ} {i:Nat} {T:TZ}:(thsL ts c ps n th).set i (thsF ts c ps n (updZ th i T) i)=thsL ts c ps n (updZ th i T):=by
 apply List.ext_getElem?;intro j;unfold thsL;rw[List.getElem?_set]
 by_cases hij:i=j
 ·subst hij
  by_cases hi:i<n
  ·rw[if_pos rfl,if_pos (by rw[List.length_map,List.length_range];exact hi),List.getElem?_map,List.getElem?_range hi,Option.map_some]
  ·rw[if_pos rfl,if_neg (by rw[List.length_map,List.length_range];exact hi),List.getElem?_eq_none (by rw[List.length_map,List.length_range];omega)]
 ·rw[if_neg hij,List.getElem?_map,List.getElem?_map]
  by_cases hj:j<n
  ·rw[List.getElem?_range hj,Option.map_some,Option.map_some]
   exact congrArg some (Zl3 (fun h=>hij h.symm))
  ·rw[List.getElem?_eq_none (by rw[List.length_range];omega),Option.map_none,Option.map_none]
structure MQ where
 m:Nat
 thv:Value
 stv:Value
 evv:Value
 ts:List Nat
 es:List EvR
def mcS (gm:Nat) (c:Cfg) (ps:Nat->List InsR) (n:Nat) (M:MZ):Asr :=
 Asr.exs (fun q:MQ=>q.ts.length=n/\q.es.length<=M.steps.length) (fun q=>[blkA 78 gm #[ptrV q.m,q.thv,q.stv,q.evv],queA 81 q.thv (q.ts.map ptrV),rowT 52 9 q.stv M.steps.length (stL M.steps),evA q.evv q.es,sepR (thsL q.ts c ps n M.th) Asr.emp,memA q.m M.C])
section
variable {w0 w:World} {R:Asr} {gm n B:Nat} {c:Cfg} {ps:Nat->List InsR} {M:MZ} {i:Nat}
theorem Zi3 {ts:List Nat} {th:Nat->TZ} {T:TZ} (hi:i<n) (h:Hold w0 w (thS (ts.getD i 0) c (ps i) (n:Int) (i:Int) T*(sepR ((thsL ts c ps n th).set i Asr.emp) Asr.emp*R))):Hold w0 w (sepR (thsL ts c ps n (updZ th i T)) Asr.emp*R):=by
 have e:thS (ts.getD i 0) c (ps i) (n:Int) (i:Int) T=thsF ts c ps n (updZ th i T) i:=Zhz;rw[e] at h;have h2:=h.join.imp (Imp.on R (Imp.putAt (thsF ts c ps n (updZ th i T) i) Asr.emp ((thsL ts c ps n th).set i Asr.emp) i (by rw[List.getElem?_set,if_pos rfl,if_pos (by unfold thsL;simpa using hi)])));rwa [List.set_set,Zfl] at h2
theorem Zd2 (th:Nat->TZ) (i:Nat):updZ th i (th i)=th:=by
 funext j
 by_cases h:j=i
 ·subst h;rw[updZ_self]
 ·rw[Zd3 h]
end
end Go.Proofs.YtmlfangeanmmeaaGreatDoor
