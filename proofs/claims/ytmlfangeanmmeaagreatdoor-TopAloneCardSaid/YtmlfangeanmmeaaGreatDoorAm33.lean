/-
 What the proof of TopAlone leans on, part 33 of 49: Na2, Qp, Qc, Of, Og, Th3, Th4, Oh. No statement of its own.
-/
import Derived.Test.YtmlfangeanmmeaaGreatDoorAm2
import Derived.Test.YtmlfangeanmmeaaGreatDoorAm8
import Derived.Test.YtmlfangeanmmeaaGreatDoorAm10
import Derived.Test.YtmlfangeanmmeaaGreatDoorAm22
import Derived.Test.YtmlfangeanmmeaaGreatDoorAm23
import Derived.Test.YtmlfangeanmmeaaGreatDoorAm28
import Derived.Test.YtmlfangeanmmeaaGreatDoorAm31
import Derived.Test.YtmlfangeanmmeaaGreatDoorAm32
set_option maxHeartbeats 16000000
set_option maxRecDepth 8000
set_option linter.unusedVariables false
namespace Go.Proofs.YtmlfangeanmmeaaGreatDoor
open Go
theorem Zec {op:Int} (h:isJ op=true):op≠7/\op≠8:=by
 unfold isJ at h;simp only[Bool.or_eq_true,beq_iff_eq] at h;omega
def SpanR (p:List InsR) (a b c:Int):Prop :=
 (0<=b->(∃i,p[b.toNat]?=some i/\i.op=7)/\b<=a/\a<=c/\c<=p.length/\∀(j:Nat) i,b<j->(j:Int)<c->p[j]?=some i->i.op≠8)/\(b<0->inT p a.toNat=false)
section
variable {p p':List InsR} {k:Nat} {i:InsR} {n:Int}
def SpanI (p:List InsR) (a:Int) (k:Nat):Prop:=∀(j:Nat) y,j<k->p[j]?=some y->y.op=8->0<=bgAt p j->bgAt p j<=a->¬a<=j
theorem SpanI.none {a:Int} (hp:ProgV p) (hf:inT p p.length=false) (ha:0<=a/\a<=p.length) (h:SpanI p a p.length):inT p a.toNat=false:=by
 cases hin:inT p a.toNat with
 | false=>rfl
 | true =>
  exfalso;have hb:=(Z19 p a.toNat);have h0:=hb.2.2.1 hin;have hno:∀m:Nat,a.toNat<=m->∀(j:Nat) y,a.toNat<=j->j<m->p[j]?=some y->y.op≠8:=by
   intro m
   induction m with
   | zero=>exact fun _ j y _ hj=>absurd hj (Nat.not_lt_zero _)
   | succ m ih =>
    intro ham j y hj hjm hy h8;rcases Nat.lt_or_ge a.toNat (m+1) with h1|h1
    ·have ihm:=ih (by omega)
     rcases Nat.lt_or_ge j m with h2|h2
     ·exact ihm j y hj h2 hy h8
     ·obtain rfl:j=m:=by omega
      have e:=Zc6 hp hin hj ihm;have hl:=(List.getElem?_eq_some_iff.1 hy).1;exact h j y hl hy h8 (by rw[e];exact h0) (by rw[e];have:=hb.2.1;omega) (by omega)
    ·omega
  have:=Z3r hin (m:=p.length) (by omega) (hno p.length (by omega));rw[hf] at this;cases this
theorem SpanR.at {a:Int} {j:Nat} {y:InsR} (hy:p[j]?=some y) (h0:0<=bgAt p j) (h1:bgAt p j<=a) (h2:a<=j):SpanR p a (bgAt p j) j:=by
 have hs:=Z19 p j;have hl:=(List.getElem?_eq_some_iff.1 hy).1;exact⟨fun h=>⟨(hs.2.2.2.2 h0).1,h1,h2,by omega,fun m z hm hm2 hz=>(hs.2.2.2.2 h0).2 m z hm (by omega) hz⟩,fun h=>absurd h0 (by omega)⟩
theorem JmpAt.reaches (hp:ProgV p) (hi:p[k]?=some i) (hj:isJ i.op=true) (hn:0<=n) (hl:(k:Int)+1+n<=p.length) {b c:Int} (hS:SpanR p k b c) (h1:0<=b->(k:Int)+1+n<=c)
  (h2:b<0->∃b' c',SpanR p ((k:Int)+1+n) b' c'/\(b'<0\/b'=(k:Int)+1+n)):JmpAt p k n:=by
 have hjn:=Zec hj;rcases Int.lt_or_le b 0 with hb|hb
 ·have hin:=hS.2 hb
  rw[show ((k:Int)).toNat=k by omega] at hin;refine⟨hl,fun h=>(by rw[hin] at h;cases h),fun _=>?_⟩;obtain⟨b',c',hS',h3⟩:=h2 hb;rcases h3 with h3|h3
  ·exact hS'.2 h3
  ·obtain⟨⟨y,hy,h7⟩,_⟩:=hS'.1 (by omega)
   rw[h3] at hy;exact(hp.plc _ y hy).2 (by unfold plcG;rw[if_pos (.inl h7)])
 ·obtain⟨⟨y,hy,h7⟩,h3,h4,h5,h6⟩:=hS.1 hb
  have hbk:b.toNat<k:=by
   rcases Nat.lt_or_ge b.toNat k with h|h
   ·exact h
   ·obtain e:b.toNat=k:=by omega
    rw[e,hi] at hy;injection hy with hy
    rw[hy] at hjn;exact absurd h7 hjn.1
  have hc:=h1 hb;have hin:inT p k=true:=Z3r (Z4a hy h7) (by omega) fun j z hj1 hj2 hz=>h6 j z (by omega) (by omega) hz;exact⟨hl,fun _ j z hj1 hj2 hz=>h6 j z (by omega) (by omega) hz,fun h=>by rw[hin] at h;cases h⟩
theorem JmpAt.commit (h:JmpAt p k n) (hp:ProgV p) (hf:inT p p.length=false) (hi:p[k]?=some i) (hj:isJ i.op=true) (hin:inT p k=true):(k:Int)+1+n<=Z0h p (bgAt p k)/\(k:Int)<Z0h p (bgAt p k):=by
 have hb:=Z19 p k;have h0:=hb.2.2.1 hin;obtain⟨⟨y,hy,h7⟩,hno⟩:=hb.2.2.2.2 h0;obtain⟨j,e,hbj,hjl,⟨z,hz,h8⟩,_,hmin⟩:=Z1b hf hy h7;rw[show (((bgAt p k).toNat:Nat):Int)=bgAt p k by omega] at e;have hkj:k<j:=by
  rcases Nat.lt_or_ge k j with h1|h1
  ·exact h1
  ·rcases Nat.lt_or_ge j k with h2|h2
   ·exact absurd h8 (hno j z (by omega) h2 hz)
   ·obtain rfl:j=k:=by omega
    rw[hi] at hz;injection hz with hz
    rw[<- hz] at h8;exact absurd h8 (Zec hj).2
 rw[e];refine⟨?_,by omega⟩;rcases Int.lt_or_le (j:Int) ((k:Int)+1+n) with h1|h1
 ·exact absurd h8 (h.2.1 hin j z (by omega) h1 hz)
 ·exact h1
theorem JmpAt.into (h:JmpAt p k n) (hn:0<=n) (hf:inT p p.length=false) (hin:inT p k=false) {b:Nat} {y:InsR} (hb:k<b) (hb2:(b:Int)<(k:Int)+1+n) (hy:p[b]?=some y) (h7:y.op=7):Z0h p (b:Int)<(k:Int)+1+n:=by
 obtain⟨j,e,hbj,hjl,_,_,hmin⟩:=Z1b hf hy h7;rw[e];rcases Int.lt_or_le (j:Int) ((k:Int)+1+n) with h1|h1
 ·exact h1
 ·have h2:=Z3r (Z4a hy h7) (m:=((k:Int)+1+n).toNat) (by omega) fun m z h3 h4 hz=>hmin m z (by omega) (by omega) hz
  rw[h.2.2 hin] at h2;cases h2
theorem Z3s (h:∀k:Nat,(p'[k]?).map InsR.op=(p[k]?).map InsR.op):∀k,inT p' k=inT p k
 | 0=>rfl
 | k+1=>by
  have ih:=Z3s h k;have hk:=h k
  cases h1:p[k]? with
  | none =>
   rw[h1] at hk;rw[Z5v h1,Z5v (by simpa using hk)];exact ih
  | some i =>
   rw[h1] at hk;obtain⟨i',h2,h3⟩:∃i',p'[k]?=some i'/\i'.op=i.op:=by simpa using hk
   rw[Z1a h1,Z1a h2,h3,ih]
theorem JmpAt.ops (h:∀k:Nat,(p'[k]?).map InsR.op=(p[k]?).map InsR.op) (hl:p'.length=p.length) (H:JmpAt p k n):JmpAt p' k n:=by
 refine⟨by rw[hl];exact H.1,fun h1 j y hj hj2 hy=>?_,fun h1=>?_⟩
 ·have hk:=h j
  rw[hy] at hk;obtain⟨z,hz,e⟩:∃z,p[j]?=some z/\z.op=y.op:=by
   cases hz:p[j]? with
   | none=>rw[hz] at hk;cases hk
   | some z=>rw[hz] at hk;injection hk with hk;exact⟨z,rfl,hk.symm⟩
  rw[<- e];exact H.2.1 (by rw[<- Z3s h];exact h1) j z hj hj2 hz
 ·rw[Z3s h];exact H.2.2 (by rw[<- Z3s h];exact h1)
theorem Z5z (hi:p[k]?=some i) (v:Int):∀j:Nat,((p.set k {i with imm:=v})[j]?).map InsR.op=(p[j]?).map InsR.op:=by
 intro j;rw[List.getElem?_set]
 by_cases hj:k=j
 ·subst hj
  rw[if_pos rfl,if_pos (List.getElem?_eq_some_iff.1 hi).1,hi];rfl
 ·rw[if_neg hj]
theorem ProgV.set (hp:ProgV p) (hi:p[k]?=some i) (hj:isJ i.op=true) {v:Int} (hv:v=0\/v=1):ProgV (p.set k {i with imm:=v}):=by
 have hop:=Z5z hi v;refine⟨by rw[List.length_set];exact hp.len,fun j y hy=>?_,fun j y hy=>?_⟩
 ·rw[List.getElem?_set] at hy
  split at hy
  ·split at hy
   ·injection hy with hy
    have h:=hp.ins k i hi;have h4:i.op=4\/i.op=5\/i.op=6:=by
     unfold isJ at hj;simp only[Bool.or_eq_true,beq_iff_eq] at hj;omega
    rw[<- hy];refine⟨h.op,h.a,h.b,h.c,?_,?_,fun h3=>absurd (show i.op=3 from h3) (by omega),fun h3=>absurd (show i.op=14 from h3) (by omega)⟩
    ·show Z8w i.op v
     unfold Z8w;rw[if_neg (by omega),if_neg (by omega),if_pos h4];omega
    ·show 0<=v/\v<=1000
     omega
   ·cases hy
  ·exact hp.ins j y hy
 ·have h:=hop j
  rw[hy] at h;obtain⟨z,hz,e⟩:∃z,p[j]?=some z/\z.op=y.op:=by
   cases hz:p[j]? with
   | none=>rw[hz] at h;cases h
   | some z=>rw[hz] at h;injection h with h;exact⟨z,rfl,h.symm⟩
  rw[Z3s hop,<- e];exact hp.plc j z hz
theorem JmpAt.zero (hi:p[k]?=some i) (hj:isJ i.op=true):JmpAt p k 0:=by
 have hl:=(List.getElem?_eq_some_iff.1 hi).1;have hjn:=Zec hj;refine⟨by omega,fun _ j y h1 h2 hy=>?_,fun h=>?_⟩
 ·obtain rfl:j=k:=by omega
  rw[hi] at hy;injection hy with hy
  rw[<- hy];exact hjn.2
 ·rw[show ((k:Int)+1+0).toNat=k+1 by omega,Z1a hi,if_neg hjn.1,if_neg hjn.2];exact h
theorem ProgJ.set0 (hp:ProgJ p) (hi:p[k]?=some i) (hj:isJ i.op=true):ProgJ (p.set k {i with imm:=0}):=by
 intro j y hy hjy;refine JmpAt.ops (Z5z hi 0) (List.length_set) ?_;rw[List.getElem?_set] at hy
 split at hy
 ·rename_i e
  split at hy
  ·injection hy with hy
   subst e;rw[<- hy];exact JmpAt.zero hi hj
  ·cases hy
 ·exact hp j y hy hjy
theorem Z7w (p:List InsR) (x:InsR):∀{k:Nat},k<=p.length->inT (p++[x]) k=inT p k
 | 0,_=>rfl
 | k+1,h=>by
  have hk:k<p.length:=h;have h1:(p++[x])[k]?=some p[k]:=by rw[List.getElem?_append_left hk];exact List.getElem?_eq_getElem hk
  rw[Z1a h1,Z1a (List.getElem?_eq_getElem hk),Z7w p x (Nat.le_of_lt hk)]
theorem Zf4 {p:List InsR} {x:InsR} {k:Nat} {i:InsR} (h:(p++[x])[k]?=some i):(k<p.length/\p[k]?=some i)\/(k=p.length/\i=x):=by
 rcases Nat.lt_or_ge k p.length with h1|h1
 ·rw[List.getElem?_append_left h1] at h;exact .inl ⟨h1,h⟩
 ·have h2:=(List.getElem?_eq_some_iff.1 h).1
  rw[List.length_append] at h2;obtain rfl:k=p.length:=by simp at h2;omega
  rw[List.getElem?_append_right (Nat.le_refl _),Nat.sub_self] at h;injection h with h
  exact .inr ⟨rfl,h.symm⟩
structure MkI (p:List InsR) (o:Bool) (js:List Int):Prop where
 v:ProgV p
 o:inT p p.length=o
 z:∀(k:Nat) i,p[k]?=some i->isJ i.op=true->i.imm=0
 j:∀j∈js,0<=j/\∃i,p[j.toNat]?=some i/\isJ i.op=true
theorem MkI.nil:MkI [] false []:=⟨⟨Nat.zero_le _,fun k i h=>by simp at h,fun k i h=>by simp at h⟩,rfl,fun k i h=>by simp at h,fun j h=>by cases h⟩
theorem MkI.push {o:Bool} {js:List Int} (h:MkI p o js) (hl:p.length<64) {x:InsR} (hx:InsV x) (h1:plcG x.op=1->o=true) (h2:plcG x.op=2->o=false) (hz:isJ x.op=true->x.imm=0) :
  MkI (p++[x]) (if x.op=7 then true else if x.op=8 then false else o) (if isJ x.op=true then js++[(p.length:Int)] else js):=by
 have hlast:(p++[x])[p.length]?=some x:=by simp
 refine⟨⟨by simp;omega,fun k i hi=>?_,fun k i hi=>?_⟩,?_,fun k i hi hj=>?_,fun j hj=>?_⟩
 ·rcases Zf4 hi with⟨_,h3⟩|⟨_,rfl⟩
  ·exact h.v.ins k i h3
  ·exact hx
 ·rcases Zf4 hi with⟨h4,h3⟩|⟨rfl,rfl⟩
  ·rw[Z7w p x (Nat.le_of_lt h4)];exact h.v.plc k i h3
  ·rw[Z7w p i (Nat.le_refl _),h.o];exact⟨h1,h2⟩
 ·rw[show (p++[x]).length=p.length+1 by simp,Z1a hlast,Z7w p x (Nat.le_refl _),h.o]
 ·rcases Zf4 hi with⟨_,h3⟩|⟨_,rfl⟩
  ·exact h.z k i h3 hj
  ·exact hz hj
 ·have hold:∀j∈js,0<=j/\∃i,(p++[x])[j.toNat]?=some i/\isJ i.op=true:=fun j hj=>by
   obtain⟨h3,i,h4,h5⟩:=h.j j hj;exact⟨h3,i,by rw[List.getElem?_append_left (List.getElem?_eq_some_iff.1 h4).1];exact h4,h5⟩
  split at hj
  ·rename_i hjx
   rcases List.mem_append.1 hj with h3|h3
   ·exact hold j h3
   ·obtain rfl:j=(p.length:Int):=by simpa using h3
    exact⟨Int.natCast_nonneg _,x,by rw[show ((p.length:Int)).toNat=p.length by omega];exact hlast,hjx⟩
  ·exact hold j hj
theorem MkI.jmps {o:Bool} {js:List Int} (h:MkI p o js):ProgJ p:=fun k i hi hj=>by rw[h.z k i hi hj];exact JmpAt.zero hi hj
structure MkJ (p:List InsR) (js:List Int):Prop where
 v:ProgV p
 f:inT p p.length=false
 g:ProgJ p
 j:∀j∈js,0<=j/\∃i,p[j.toNat]?=some i/\isJ i.op=true
theorem MkI.done {js:List Int} (h:MkI p false js):MkJ p js:=⟨h.v,h.o,h.jmps,h.j⟩
theorem Zic (hi:p[k]?=some i) (v:Int) {j:Int} (h:∃y,p[j.toNat]?=some y/\isJ y.op=true):∃y,(p.set k {i with imm:=v})[j.toNat]?=some y/\isJ y.op=true:=by
 obtain⟨y,hy,hj⟩:=h;have h1:=Z5z hi v j.toNat;rw[hy] at h1
 cases hz:(p.set k {i with imm:=v})[j.toNat]? with
 | none=>rw[hz] at h1;cases h1
 | some z=>rw[hz] at h1;injection h1 with h1;exact⟨z,rfl,by rw[h1];exact hj⟩
theorem MkJ.set {js:List Int} (h:MkJ p js) (hi:p[k]?=some i) (hj:isJ i.op=true) {v:Int} (hv:v=0\/v=1) (hg:ProgJ (p.set k {i with imm:=v})):MkJ (p.set k {i with imm:=v}) js :=
 ⟨h.v.set hi hj hv,by rw[List.length_set,Z3s (Z5z hi v)];exact h.f,hg,fun j hj=>⟨(h.j j hj).1,Zic hi v (h.j j hj).2⟩⟩
end
def insW (op:Int):Nat:=if op<7\/op=17 then 1 else 64
def Zd0:List InsR->Nat
 | []=>0
 | i::p=>insW i.op+Zd0 p
def wsum (p:List InsR) (k:Nat):Nat:=Zd0 (p.drop k)
theorem Z5u (op:Int):1<=insW op/\insW op<=64:=by unfold insW;split <;> omega
theorem Z7t {op:Int} (h:7<=op) (h2:op≠17):insW op=64:=by unfold insW;rw[if_neg (by omega)]
theorem Z3n {p:List InsR} {k:Nat} {i:InsR} (h:p[k]?=some i):wsum p k=insW i.op+wsum p (k+1):=by
 obtain⟨hk,hi⟩:=List.getElem?_eq_some_iff.1 h;unfold wsum;rw[List.drop_eq_getElem_cons hk,hi];rfl
theorem Zfd {p:List InsR} {k:Nat} (h:p.length<=k):wsum p k=0:=by unfold wsum;rw[List.drop_eq_nil_of_le h];rfl
theorem Zcz (p:List InsR) (k:Nat):wsum p (k+1)<=wsum p k:=by
 by_cases h:k<p.length
 ·rw[Z3n (List.getElem?_eq_getElem h)];omega
 ·rw[Zfd (k:=k+1) (by omega)];omega
theorem Z3y (p:List InsR) {a:Nat}:∀{b:Nat},a<=b->wsum p b<=wsum p a
 | 0, h => by obtain rfl:a=0:=by omega
              exact Nat.le_refl _
 | b+1,h=>by
  by_cases hb:a=b+1
  ·subst hb;exact Nat.le_refl _
  ·have:=Z3y p (a:=a) (b:=b) (by omega)
   have:=Zcz p b;omega
theorem Zb8:∀p:List InsR,Zd0 p<=64*p.length
 | []=>Nat.le_refl _
 | i::p=>by
  have:=Zb8 p;have:=(Z5u i.op).2;show insW i.op+Zd0 p<=64*(p.length+1);omega
theorem Zcy {p:List InsR} {k:Nat} (hk:k<=p.length) (h:wsum p k=0):k=p.length:=by
 by_cases hl:k<p.length
 ·have h1:=Z3n (List.getElem?_eq_getElem hl)
  have:=Z5u (p[k]'hl).op;omega
 ·omega
def begO (sg:Bool) (o:ObR):Bool:=o.kind==3 || (sg && (o.kind==4 || o.kind==5)) || (sg && o.kind==7 && o.val==6)
def begN (sg:Bool) (l:List ObR):Nat:=(l.filter (begO sg)).length
theorem Z84 (sg:Bool) (a b:List ObR):begN sg (a++b)=begN sg a+begN sg b:=by unfold begN;rw[List.filter_append,List.length_append]
structure ObsI (sg:Bool) (l:List ObR) (b:Nat):Prop where
 ok:∀o∈l,¬(o.kind=3/\o.val=5)
 n:begN sg l=b
theorem ObsI.nil (sg:Bool):ObsI sg [] 0:=⟨fun o h=>(by cases h),rfl⟩
theorem ObsI.add {sg:Bool} {l:List ObR} {b:Nat} (h:ObsI sg l b) (o:ObR) (ho:¬(o.kind=3/\o.val=5)):ObsI sg (l++[o]) (b+(begO sg o).toNat):=by
 refine⟨fun x hx=>?_,?_⟩
 ·rcases List.mem_append.1 hx with h1|h1
  ·exact h.ok x h1
  ·rw[List.mem_singleton.1 h1];exact ho
 ·rw[Z84,h.n]
  congr 1
  unfold begN
  cases hb:begO sg o <;> simp[hb]
def SeenI (l:List ObR):Prop:=∀o∈l,o.kind=1\/o.kind=2
theorem SeenI.nil:SeenI []:=fun o h=>by cases h
theorem SeenI.add {l:List ObR} (h:SeenI l) (o:ObR) (ho:o.kind=1\/o.kind=2):SeenI (l++[o]):=fun x hx=>by
 rcases List.mem_append.1 hx with h1|h1
 ·exact h x h1
 ·rw[List.mem_singleton.1 h1];exact ho
theorem ObsI.seen {sg:Bool} {l s:List ObR} {b:Nat} (h:ObsI sg l b) (hs:SeenI s):ObsI sg (l++s) b:=by
 refine⟨fun x hx=>?_,?_⟩
 ·rcases List.mem_append.1 hx with h1|h1
  ·exact h.ok x h1
  ·have:=hs x h1
   omega
 ·rw[Z84,h.n]
  have e:s.filter (begO sg)=[]:=by
   apply List.filter_eq_nil_iff.2;intro o ho;have:=hs o ho;unfold begO;rcases this with h1|h1 <;> simp[h1]
  unfold begN;rw[e];rfl
theorem ProgV.in_op {p:List InsR} (hp:ProgV p) {k:Nat} {i:InsR} (hi:p[k]?=some i) (h:inT p k=true):i.op≠7/\i.op≠12/\i.op≠13/\i.op≠16/\i.op≠17:=by
 have h2:=(hp.plc k i hi).2;refine⟨?_,?_,?_,?_,?_⟩ <;> (intro e;have:=h2 (by unfold plcG;rw[e];rfl);rw[h] at this;cases this)
theorem ProgV.out_op {p:List InsR} (hp:ProgV p) {k:Nat} {i:InsR} (hi:p[k]?=some i) (h:inT p k=false):i.op≠8/\i.op≠9/\i.op≠10/\i.op≠11/\i.op≠14/\i.op≠15:=by
 have h2:=(hp.plc k i hi).1;refine⟨?_,?_,?_,?_,?_,?_⟩ <;> (intro e;have:=h2 (by unfold plcG;rw[e];rfl);rw[h] at this;cases this)
theorem InsV.regs {i:InsR} (h:InsV i):(0<=i.a/\i.a<8)/\(0<=i.b/\i.b<8)/\(0<=i.c/\i.c<8):=by
 have key:∀u r,Z5f u r->0<=r/\r<8:=fun u r h=>by
  unfold Z5f at h
  split at h
  ·exact h
  ·omega
 exact⟨key _ _ h.a,key _ _ h.b,key _ _ h.c⟩
end Go.Proofs.YtmlfangeanmmeaaGreatDoor
namespace Go.Proofs.YtmlfangeanmmeaaGreatDoor
open Go.RowKit
def bzA:AP->Bool
 | .idle0 | .idle | .fin=>false
 | _=>true
def gdA:AP->Bool
 | .en k | .rd k | .pop k=>decide (k<=2)
 | _=>true
def endP:AP->Bool
 | .lend | .lk _ _ | .tk | .tw | .ck _ | .de | .wr _ | .re _ | .st | .pa | .pu _ | .lv | .fin=>true
 | _=>false
def Low (P:AP) (n:Nat):Prop:=P.msr<n/\(∀j,P ≠ .en j)/\P ≠ .idle0/\gdA P=true
def NxA (P:AP) (ph:Int) (P':AP):Prop :=
 (P = .en 0/\P' = .en 1/\ph=2)\/(P = .en 1/\P' = .en 2/\ph=3)\/(P = .en 2/\P' = .idle0/\ph=4) \/
 (bzA P=true/\(∀j,P ≠ .en j)/\(ph≠2/\ph≠3/\(ph=16->bzA P'=true))/\Low P' P.msr/\(endP P=true->endP P'=true))
theorem nj {P0:AP} {n:Nat} (h1:P0.msr<n) (h2:∀j,P0 ≠ .en j) (h3:P0 ≠ .idle0) (h4:gdA P0=true:=by rfl):Low P0 n:=⟨h1,h2,h3,h4⟩
section
variable {w0 w:World} {R F:Asr} {g m s:Nat} {c:Cfg} {sg:Bool}
theorem Zlj {q:QD} {P:AP} (h:ph c sg s q P):(q.x.at_ != 0)=bzA P:=by
 have key:∀(k:Int),q.x.at_=k->(q.x.at_ != 0)=(k != 0):=fun k hk=>by rw[hk]
 cases P with
 | en k=>exact key 2 h.2.1
 | idle0=>exact key 0 h.2.1
 | idle=>exact key 0 h.2.1
 | lrd=>exact key 1 h.2.1
 | lget=>exact key 1 h.2.1
 | lwr=>exact key 1 h.2.1
 | lal=>exact key 1 h.2.1
 | lfr=>exact key 1 h.2.1
 | lfree=>exact key 1 h.2.1
 | lend=>exact key 1 h.2.1
 | rd k=>exact key 3 h.2.1
 | pop k=>exact key 4 h.2.1
 | lk r b=>exact key 5 h.2.2.2.1
 | tk=>exact key 6 h.2
 | tw=>exact key 6 h.2
 | ck r=>exact key 7 h.2.1
 | de=>exact key 8 h.2
 | wr r=>exact key 9 h.2.2.1
 | re r=>exact key 10 h.2.2.1
 | st=>exact key 11 h.2.2.1
 | pa=>exact key 12 h.2.2.1
 | pu r=>exact key 13 h.2.1
 | lv=>exact key 14 h.2.1
 | fin=>exact key 0 h.2.1
theorem Z8g {P:AP} (h:Hold w0 w (aS g m c sg s P*F)):∃q k l,ph c sg s q P/\ps g m c q P=clx g m c q k l/\Hold w0 w (sepR (ps g m c q P) F):=by
 obtain⟨q,hq,h⟩:=h.Zlq;obtain⟨k,l,hl⟩:=Zhi (g:=g) (m:=m) (c:=c) q P;exact⟨q,k,l,hq,hl,h⟩
theorem Z6i {P:AP} (h:Hold w0 w (aS g m c sg s P*F)):Calls Tryz.prog 36 #[ptrV g] w fun e w'=>e = .returned (.bool (bzA P))/\w=w':=by
 obtain⟨q,k,l,hq,hl,h⟩:=Z8g h;rw[hl] at h;have h1:=Zf1 (x:=q.x) h;rwa [Zlj hq] at h1
theorem Zjo {P:AP} (h:Hold w0 w (aS g m c sg s P*F)):∃v,Calls Tryz.prog 60 #[ptrV g] w fun e w'=>e = .returned (.int .i64 v)/\w=w':=by
 obtain⟨q,k,l,hq,hl,h⟩:=Z8g h;rw[hl] at h;exact⟨_,Z6g (x:=q.x) h⟩
theorem Z72 {P:AP} (h:Hold w0 w (aS g m c sg s P*F)):∃v,Calls Tryz.prog 58 #[ptrV g] w fun e w'=>e = .returned (.bool v)/\w=w':=by
 obtain⟨q,k,l,hq,hl,h⟩:=Z8g h;rw[hl] at h;exact⟨_,Z9f (x:=q.x) h⟩
def RP (P:AP) (r:Nat):Prop:=(∃b,P = .lk r b)\/P = .ck r\/P = .re r\/P = .wr r\/P = .pu r
theorem Zk7 {q:QD} {P:AP} (h:ph c sg s q P) (r:Nat) (hr:RP P r):0<r:=by
 rcases hr with⟨b,rfl⟩|rfl|rfl|rfl|rfl
 ·obtain⟨_,_,_,_,_,_,_,_,_,_,_,⟨_,h⟩,_⟩:=h;exact h
 ·obtain⟨_,_,_,⟨_,h⟩,_⟩:=h;exact h
 ·obtain⟨_,_,_,_,_,⟨_,_,h⟩,_⟩:=h;exact h
 ·obtain⟨_,_,_,_,_,_,_,_,_,_,_,_,_,⟨_,_,h⟩,_⟩:=h;exact h
 ·obtain⟨_,_,_,_,_,⟨h1,h2,h3⟩,_⟩:=h;omega
def Zfa (w0:World) (g m:Nat) (c:Cfg) (sg:Bool) (s:Nat) (P:AP) (F:Asr) (e:Ending) (w':World):Prop:=∃a p P',NxA P p P'/\e = .returned (.tuple #[Acc.val a,.int .i64 p])/\Hold w0 w' (aS g m c sg (s+1) P'*F)
theorem Stp.nx {P:AP} {p:Int} {ok:AP->Prop} (h:Stp g m c sg s P p ok) (hk:∀P',ok P'->NxA P p P') (hh:Hold w0 w (aS g m c sg s P*F)):Calls Tryz.prog 57 #[ptrV g,ptrV m] w (Zfa w0 g m c sg s P F):=by
 obtain⟨q,hq,hh⟩:=hh.Zlq;obtain⟨a,ha⟩:=h q hq;refine(ha _ _ _ hh).mono ?_;rintro e w' ⟨⟨P',hP'⟩,h3,h4⟩;exact⟨a,p,P',hk P' hP',h3,h4⟩
theorem StN.nx {P:AP} {ok:AP->Prop} (h:StN g m c sg s P ok) (hb:bzA P=true) (hne:∀j,P ≠ .en j) (hk:∀P',(∀r,RP P r->0<r)->ok P'->Low P' P.msr/\(endP P=true->endP P'=true)) (hh:Hold w0 w (aS g m c sg s P*F)):Calls Tryz.prog 57 #[ptrV g,ptrV m] w (Zfa w0 g m c sg s P F):=by
 obtain⟨q,hq,hh⟩:=hh.Zlq;obtain⟨a,p,hp,ha⟩:=h q hq;refine(ha _ _ _ hh).mono ?_;rintro e w' ⟨⟨P',hP'⟩,h3,h4⟩;have k1:=hk P' (Zk7 hq) hP';exact⟨a,p,P',.inr (.inr (.inr ⟨hb,hne,⟨hp.1,hp.2.1,fun h=>absurd h hp.2.2⟩,k1⟩)),h3,h4⟩
theorem Z2u {P:AP} (hP:okA P) {n:Nat} (h:52<n):Low P n:=by
 rcases hP with rfl|rfl|rfl|⟨r,hr,rfl⟩
 ·exact⟨h,fun j h=>(by cases h),fun h=>(by cases h),rfl⟩
 ·exact⟨by show 34<n;omega,fun j h=>(by cases h),fun h=>(by cases h),rfl⟩
 ·exact⟨by show 1<n;omega,fun j h=>(by cases h),fun h=>(by cases h),rfl⟩
 ·exact⟨by show 1+r<n;omega,fun j h=>(by cases h),fun h=>(by cases h),rfl⟩
theorem Zjn (hc:CfA c) (hs:s<=900) {P:AP} (hb:bzA P=true) (hg:gdA P=true) (h:Hold w0 w (aS g m c sg s P*F)):Calls Tryz.prog 57 #[ptrV g,ptrV m] w (Zfa w0 g m c sg s P F):=by
 cases P with
 | idle0=>cases hb
 | idle=>cases hb
 | fin=>cases hb
 | en k =>
  have hk:k<=2:=of_decide_eq_true hg;obtain rfl|rfl|rfl:k=0\/k=1\/k=2:=by omega
  ·exact(Zlh hc hs).nx (fun P' h=>.inl ⟨rfl,h,rfl⟩) h
  ·exact(Zlg hc (by omega)).nx (fun P' h=>.inr (.inl ⟨rfl,h,rfl⟩)) h
  ·exact(Zlf hc (by omega)).nx (fun P' h=>.inr (.inr (.inl ⟨rfl,h,rfl⟩))) h
 | lrd=>exact((Zla hc hs).n (by decide)).nx rfl (fun j h=>by cases h) (fun P' hr0 h=>⟨Z2u h (by decide),fun h=>(by first|rfl|cases h)⟩) h
 | lget=>exact((Zk1 hc hs).n (by decide)).nx rfl (fun j h=>by cases h) (fun P' hr0 h=>⟨Z2u h (by decide),fun h=>(by first|rfl|cases h)⟩) h
 | lwr=>exact((Zl9 hc hs).n (by decide)).nx rfl (fun j h=>by cases h) (fun P' hr0 h=>⟨Z2u h (by decide),fun h=>(by first|rfl|cases h)⟩) h
 | lal=>exact((Zle hc hs).n (by decide)).nx rfl (fun j h=>by cases h) (fun P' hr0 h=>⟨Z2u h (by decide),fun h=>(by first|rfl|cases h)⟩) h
 | lfr=>exact((Zld hc hs).n (by decide)).nx rfl (fun j h=>by cases h) (fun P' hr0 h=>⟨Z2u h (by decide),fun h=>(by first|rfl|cases h)⟩) h
 | lfree=>exact((Zie hc hs).n (by decide)).nx rfl (fun j h=>by cases h) (fun P' hr0 h=>⟨Z2u h (by decide),fun h=>(by first|rfl|cases h)⟩) h
 | lend=>exact((Zk2 hc hs).n (by decide)).nx rfl (fun j h=>by cases h) (fun P' hr0 h=>by
   rcases h with rfl|⟨r,hr,rfl⟩
   ·exact⟨nj (by decide) (fun j h=>by cases h) (fun h=>by cases h),fun h=>(by first|rfl|cases h)⟩
   ·exact⟨nj (by show 2*r+34 - 0<51;omega) (fun j h=>by cases h) (fun h=>by cases h),fun h=>(by first|rfl|cases h)⟩) h
 | rd k =>
  have hk:k<=2:=of_decide_eq_true hg;obtain rfl|rfl|rfl:k=0\/k=1\/k=2:=by omega
  ·exact((Zl8 hc hs).n (by decide)).nx rfl (fun j h=>by cases h) (fun P' hr0 h=>by subst h;exact⟨nj (by decide) (fun j h=>by cases h) (fun h=>by cases h),fun h=>(by first|rfl|cases h)⟩) h
  ·exact((Zl7 hc hs).n (by decide)).nx rfl (fun j h=>by cases h) (fun P' hr0 h=>by subst h;exact⟨nj (by decide) (fun j h=>by cases h) (fun h=>by cases h),fun h=>(by first|rfl|cases h)⟩) h
  ·exact((Zl6 hc hs).n (by decide)).nx rfl (fun j h=>by cases h) (fun P' hr0 h=>⟨Z2u h (by decide),fun h=>(by first|rfl|cases h)⟩) h
 | pop k =>
  have hk:k<=2:=of_decide_eq_true hg;obtain rfl|rfl|rfl:k=0\/k=1\/k=2:=by omega
  ·exact(Zk0 hc hs).nx rfl (fun j h=>by cases h) (fun P' hr0 h=>by
    rcases h with rfl|h
    ·exact⟨nj (by decide) (fun j h=>by cases h) (fun h=>by cases h),fun h=>(by first|rfl|cases h)⟩
    ·exact⟨Z2u h (by decide),fun h=>(by first|rfl|cases h)⟩) h
  ·exact(Zjz hc hs).nx rfl (fun j h=>by cases h) (fun P' hr0 h=>by subst h;exact⟨nj (by decide) (fun j h=>by cases h) (fun h=>by cases h),fun h=>(by first|rfl|cases h)⟩) h
  ·exact(Zjy hc hs).nx rfl (fun j h=>by cases h) (fun P' hr0 h=>⟨Z2u h (by decide),fun h=>(by first|rfl|cases h)⟩) h
 | lk r b =>
  cases b with
  | false=>exact((Zlc hc hs r).n (by decide)).nx rfl (fun j h=>by cases h) (fun P' hr0 h=>by subst h;exact⟨nj (by show 2*r+34 - 1<2*r+34 - 0;omega) (fun j h=>by cases h) (fun h=>by cases h),fun h=>(by first|rfl|cases h)⟩) h
  | true=>exact((Zlb hc hs r).n (by decide)).nx rfl (fun j h=>by cases h) (fun P' hr0 h=>by
    have hr1:=hr0 r (.inl ⟨true,rfl⟩);rcases h with rfl|⟨hr,rfl⟩
    ·exact⟨nj (by show 34<2*r+34 - 1;omega) (fun j h=>by cases h) (fun h=>by cases h),fun h=>(by first|rfl|cases h)⟩
    ·exact⟨nj (by show 2*(r - 1)+34 - 0<2*r+34 - 1;omega) (fun j h=>by cases h) (fun h=>by cases h),fun h=>(by first|rfl|cases h)⟩) h
 | tk=>exact((s_tk hc hs).n (by decide)).nx rfl (fun j h=>by cases h) (fun P' hr0 h=>by subst h;exact⟨nj (by decide) (fun j h=>by cases h) (fun h=>by cases h),fun h=>(by first|rfl|cases h)⟩) h
 | tw=>exact((s_tw hc hs).n (by decide)).nx rfl (fun j h=>by cases h) (fun P' hr0 h=>by
   rcases h with rfl|⟨r,hr,rfl⟩
   ·exact⟨nj (by decide) (fun j h=>by cases h) (fun h=>by cases h),fun h=>(by first|rfl|cases h)⟩
   ·exact⟨nj (by show 26+r<33;omega) (fun j h=>by cases h) (fun h=>by cases h),fun h=>(by first|rfl|cases h)⟩) h
 | ck r=>exact((s_ck hc hs r).n (by decide)).nx rfl (fun j h=>by cases h) (fun P' hr0 h=>by
   have hr1:=hr0 r (.inr (.inl rfl));rcases h with rfl|⟨r',hr,rfl⟩
   ·exact⟨nj (by show 26<26+r;omega) (fun j h=>by cases h) (fun h=>by cases h),fun h=>(by first|rfl|cases h)⟩
   ·exact⟨nj (by show 26+r'<26+r;omega) (fun j h=>by cases h) (fun h=>by cases h),fun h=>(by first|rfl|cases h)⟩) h
 | de=>exact(s_de hc hs).nx (fun P' h=>by
   rcases h with rfl|⟨r,hr,rfl⟩|⟨r,hr,rfl⟩
   ·exact .inr (.inr (.inr ⟨rfl,fun j h=>(by cases h),⟨by decide,by decide,fun _=>rfl⟩,⟨by decide,fun j h=>(by cases h),fun h=>(by cases h),rfl⟩,fun _=>rfl⟩))
   ·exact .inr (.inr (.inr ⟨rfl,fun j h=>(by cases h),⟨by decide,by decide,fun _=>rfl⟩,⟨by show 17+r<26;omega,fun j h=>(by cases h),fun h=>(by cases h),rfl⟩,fun _=>rfl⟩))
   ·exact .inr (.inr (.inr ⟨rfl,fun j h=>(by cases h),⟨by decide,by decide,fun _=>rfl⟩,⟨by show 9+r<26;omega,fun j h=>(by cases h),fun h=>(by cases h),rfl⟩,fun _=>rfl⟩))) h
 | wr r=>exact((s_wr hc hs r).n (by decide)).nx rfl (fun j h=>by cases h) (fun P' hr0 h=>by
   have hr1:=hr0 r (.inr (.inr (.inr (.inl rfl))));rcases h with⟨r',hr,rfl⟩|⟨r',hr,rfl⟩
   ·exact⟨nj (by show 9+r'<17+r;omega) (fun j h=>by cases h) (fun h=>by cases h),fun h=>(by first|rfl|cases h)⟩
   ·exact⟨nj (by show 17+r'<17+r;omega) (fun j h=>by cases h) (fun h=>by cases h),fun h=>(by first|rfl|cases h)⟩) h
 | re r=>exact((s_re hc hs r).n (by decide)).nx rfl (fun j h=>by cases h) (fun P' hr0 h=>by
   have hr1:=hr0 r (.inr (.inr (.inl rfl)));rcases h with rfl|rfl|⟨r',hr,rfl⟩
   ·exact⟨nj (by show 9<9+r;omega) (fun j h=>by cases h) (fun h=>by cases h),fun h=>(by first|rfl|cases h)⟩
   ·exact⟨nj (by show 8<9+r;omega) (fun j h=>by cases h) (fun h=>by cases h),fun h=>(by first|rfl|cases h)⟩
   ·exact⟨nj (by show 9+r'<9+r;omega) (fun j h=>by cases h) (fun h=>by cases h),fun h=>(by first|rfl|cases h)⟩) h
 | st=>exact((s_st hc hs).n (by decide)).nx rfl (fun j h=>by cases h) (fun P' hr0 h=>by subst h;exact⟨nj (by decide) (fun j h=>by cases h) (fun h=>by cases h),fun h=>(by first|rfl|cases h)⟩) h
 | pa=>exact((s_pa hc hs).n (by decide)).nx rfl (fun j h=>by cases h) (fun P' hr0 h=>by
   rcases h with h|h <;> rcases h with rfl|⟨_,rfl⟩ <;> exact⟨nj (by decide) (fun j h=>by cases h) (fun h=>by cases h),fun h=>(by first|rfl|cases h)⟩) h
 | pu r=>exact(s_pu hc hs r).nx rfl (fun j h=>by cases h) (fun P' hr0 h=>by
   have hr1:=hr0 r (.inr (.inr (.inr (.inr rfl))));rcases h with rfl|⟨r',hr,rfl⟩
   ·exact⟨nj (by show 1<1+r;omega) (fun j h=>by cases h) (fun h=>by cases h),fun h=>(by first|rfl|cases h)⟩
   ·exact⟨nj (by show 1+r'<1+r;omega) (fun j h=>by cases h) (fun h=>by cases h),fun h=>(by first|rfl|cases h)⟩) h
 | lv=>exact((s_lv hc hs).n (by decide)).nx rfl (fun j h=>by cases h) (fun P' hr0 h=>by subst h;exact⟨nj (by decide) (fun j h=>by cases h) (fun h=>by cases h),fun h=>(by first|rfl|cases h)⟩) h
end
abbrev liC (c:Cfg) (v:Value):Array Value:=#[.int .i64 c.words,.int .i64 c.orecs,.int .i64 c.base,.int .i64 c.c0,.int .i64 c.c1,.int .i64 c.c2,.int .i64 c.c3,.int .i64 c.reads,.int .i64 c.writes,.int .i64 c.allocs,.int .i64 c.frees,.int .i64 c.clock,.bool c.strong,v]
def ents (es:List (Int × Int)):List Value:=es.flatMap fun e=>[.int .i64 e.1,.int .i64 e.2]
theorem Z97 (es:List (Int × Int)) (a b:Int):ents (es++[(a,b)])=ents es++[.int .i64 a,.int .i64 b]:=by simp[ents]
def limA (g:Nat) (c:Cfg) (es:List (Int × Int)):Asr:=Asr.ex fun v=>blkA 132 g (liC c v)*rowS 179 2 v es.length (ents es)
theorem Ze6 {w0 w:World} {R:Asr} {g:Nat} {c:Cfg} {es:List (Int × Int)} (h:Hold w0 w (limA g c es*R)):∃A k,Hold w0 w (blkA 132 g (liC c (.slice A es.length k))*(rowS 179 2 (.slice A es.length k) es.length (ents es)*R)):=by
 obtain⟨v,h⟩:=h.exOpen;obtain⟨A,c,rfl⟩:=h.part.drop.Zlt;exact⟨A,c,h.part⟩
theorem Z7q {w0 w:World} {R:Asr} {g:Nat} {c:Cfg} {v:Value} {es:List (Int × Int)} (h:Hold w0 w (blkA 132 g (liC c v)*(rowS 179 2 v es.length (ents es)*R))):Hold w0 w (limA g c es*R):=Hold.exClose (x:=v) h.join
theorem Zbz:(Tryz.prog.info? 179).map (fun i=>(i.zero,i.size,i.bytes))=some (some (.agg #[.int .i64 0,.int .i64 0]),2,16):=by kernel_rfl
theorem Za2 {oi:Option TypeInfo} {z:Value} {s b:Nat} (h:oi.map (fun i=>(i.zero,i.size,i.bytes))=some (some z,s,b)):∃i,oi=some i/\i.zero=some z/\i.size=s/\i.bytes=b:=by
 cases oi with
 | none=>cases h
 | some i =>
  simp only[Option.map_some,Option.some.injEq,Prod.mk.injEq] at h;exact⟨i,rfl,h.1,h.2.1,h.2.2⟩
theorem Zj5 (w0 w:World) (R:Asr) (c:Cfg) (h:Hold w0 w R):Calls Tryz.prog 33 #[c.val] w fun e w'=>∃g,e = .returned (.pointer (some ⟨g,0,none⟩))/\Hold w0 w' (limA g c []*R):=by
 have h1:=(h.newBlk (t:=32) (cs:=c.cells));have h2:=(h1.drop.nilRowS 179 2).newBlk (t:=132) (cs:=liC c (.slice none 0 0));have h3:Hold w0 _ (limA _ c []*R):=Z7q (es:=[]) h2;simp only[World.size_alloc] at h3;have H2:=hid h3;have HB:=hid h1.blk;clear h h1 h2 h3;go_enter Tryz.func33,Tryz.ntmps33;go_wp2_with (refine Z03 rfl 32 _ rfl w.heap.size _ _ rfl Tryz.isAgg32 _ Tryz.sizeOf32 HB.out rfl ?_);go_ret;exact⟨_,rfl,H2.out⟩
def addE (es:List (Int × Int)) (v:Int) (l:List Int):List (Int × Int):=es++l.map fun b=>(b,v)
theorem Zj6 (w0 w:World) (R:Asr) (g:Nat) (c:Cfg) (hcf:CfS c) (es:List (Int × Int)) (v:Int) (A:Option Addr) (n cp:Nat) (l:List Int) (h:Hold w0 w (limA g c es*(queA 3 (.slice A n cp) (iL l)*R))) (hl:l.length=n) (hI:∀b∈l,0<=b/\b<(nbl c:Nat)) (hn:n<=1000) (he:es.length<=10000) :
  Calls Tryz.prog 180 #[.pointer (some ⟨g,0,none⟩),.int .i64 v,.slice A n cp] w fun e w'=>e = .returned (.tuple #[])/\Hold w0 w' (limA g c (addE es v l)*(queA 3 (.slice A n cp) (iL l)*R)):=by
 obtain⟨iE,hiE,hz0,hz1,hz2⟩:=Za2 Zbz;have HCF:=hid hcf;have HI:=hid hI;have HL:=hid hl;clear hI hl hcf;go_enter Tryz.func180,Tryz.ntmps180;go_wp2_with fail;go_loopw [12] (fun i wr=>∃k:Nat,k<=n/\i = .int .i64 (k:Int)/\Hold w0 wr (limA g c (addE es v (l.take k))*(queA 3 (.slice A n cp) (iL l)*R))) (fun i _=>n - (intOf i).toNat)
 case atStart=>exact⟨0,Nat.zero_le _,rfl,by simpa [addE] using h⟩
 case round =>
  clear h;obtain⟨k,hk,rfl,h⟩:=hrel
  by_cases hlt:k<n
  ·have e1:decide ((k:Int)<(n:Int))=true:=decide_eq_true (by omega)
   have e1':decide (k<n)=true:=decide_eq_true hlt;have hkl:k<l.length:=by rw[HL.out];exact hlt
   obtain⟨x,hx⟩:∃x,x=l[k]:=⟨_,rfl⟩;obtain⟨fp,hp⟩:=h.drop.get;obtain⟨-,-,-,b,hr,-⟩:=queReads hp;obtain⟨ad,hA,hab,hc0⟩:=hr.cellAt hlt;subst hA;have hcell:=h.drop.queAt (k:=k) (u:=.int .i64 x) (by rw[List.getElem?_map,List.getElem?_eq_getElem hkl,hx];rfl);clear hc0 hab;have ht:l.take (k+1)=l.take k++[x]:=by rw[hx];exact(List.take_append_getElem hkl).symm
   have hxI:0<=x/\x<(nbl c:Nat):=by rw[hx];exact HI.out _ (List.getElem_mem hkl)
   have hle:(addE es v (l.take k)).length<=12000:=by
    unfold addE;rw[List.length_append,List.length_map,List.length_take];omega
   have HT:=hid ht;have k0:(0:Int)<=(k:Int):=by omega
   have k1:(k:Int)<(n:Int):=by omega
   obtain⟨A1,c1,h1⟩:=Ze6 h;generalize hes:addE es v (l.take k)=es1 at *;have HES:=hid hes;clear h hr hp ht hx hes;have q13:=h1.blk.some_ (i:=13) rfl;go_wp2_with (refine Z33 rfl 32 _ rfl g 0 _ _ c.cells rfl Tryz.isAgg32 _ Tryz.sizeOf32 h1.blk rfl rfl ?_);refine(Z82 _ HCF.out hxI.1 hxI.2).mono ?_;rintro e w1 ⟨rfl,hc1⟩;have h2:=h1.chg0 hc1;clear h1 hc1 q13 hcell;have hcl:0<=clsS c x:=by unfold clsS;split <;> omega
   have e2:decide (0<=clsS c x)=true:=decide_eq_true hcl;generalize clsS c x=cl at e2 hcl |-;have q13:=h2.blk.some_ (i:=13) rfl;have h3:=h2.swap;go_wp2_with (at_builtin;refine Z0s rfl _ _ 130 rfl 179 iE (.agg #[.int .i64 0,.int .i64 0]) 2 16 Tryz.underlying130 hiE hz0 hz1 hz2 rfl (by decide) (.slice A1 es1.length c1) es1.length (ents es1) [.int .i64 x,.int .i64 v] _ rfl h3 _ rfl rfl rfl rfl (by omega) (by decide) ?_);intro A2 c2 w3 h4;have q14:=h4.drop.blk.some_ (i:=13) rfl;have z14:=h4.drop.blk.frozen 13;have h5:=h4.swap.Zlp 13 (.slice A2 (es1.length+1) c2);have H5:=hid h5;clear h2 h3 h4 h5 q13;go_wp2_with fail;go_roundw
   case rel =>
    refine⟨k+1,by omega,by go_num,?_⟩;have e3:addE es v (l.take (k+1))=es1++[(x,v)]:=by
     rw[HT.out,<- HES.out];unfold addE;rw[List.map_append,List.append_assoc];rfl
    rw[e3];refine Z7q (v:=.slice A2 (es1.length+1) c2) ?_;rw[Z97,List.length_append];exact H5.out
   case measure=>simp[intOf];omega
  ·obtain rfl:k=n:=by omega
   have e1:decide ((k:Int)<(k:Int))=false:=decide_eq_false (by omega);rw[List.take_of_length_le (by rw[HL.out];exact Nat.le_refl _)] at h;have H:=hid h;clear h;go_wp2_with fail
   go_end0
   exact⟨rfl,H.out⟩
theorem Zb4 (a:Addr) (n j:Nat):a.add (n+(j+1))=⟨(a.add n).block,(a.add n).off+(j+1),none⟩:=by
 unfold Addr.add
 by_cases hn:n=0 <;> simp[hn,Nat.add_assoc]
theorem Zep:∀(es:List (Int × Int)) (k:Nat) (e:Int × Int),es[k]?=some e->(ents es)[k*2]?=some (.int .i64 e.1)/\(ents es)[k*2+1]?=some (.int .i64 e.2)
 | [],k,e,h=>by simp at h
 | x::es,0,e,h=>by
  simp at h;subst h;exact⟨rfl,rfl⟩
 | x::es,k+1,e,h=>by
  have h':=Zep es k e (by simpa using h);have e1:ents (x::es)=[.int .i64 x.1,.int .i64 x.2]++ents es:=rfl;rw[e1,List.getElem?_append_right (by simp;omega),List.getElem?_append_right (by simp;omega)];have e2:(k+1)*2 - 2=k*2:=by omega
  have e3:(k+1)*2+1 - 2=k*2+1:=by omega
  simp only[List.length_cons,List.length_nil];rw[show (k+1)*2 - (0+1+1)=k*2 by omega,show (k+1)*2+1 - (0+1+1)=k*2+1 by omega];exact h'
theorem Reads.ent {w:World} {b n:Nat} {A:Option Addr} {es:List (Int × Int)} (h:Reads w b A (n*2) (ents es)) {k:Nat} {e:Int × Int} (hk:es[k]?=some e) (hn:k<n) :
  ∃ad,A=some ad/\w.cell? (ad.add (k*2))=some (.int .i64 e.1)/\w.cell? ⟨(ad.add (k*2)).block,(ad.add (k*2)).off+1,none⟩=some (.int .i64 e.2):=by
 obtain⟨h1,h2⟩:=Zep es k e hk;obtain⟨ad,u,hA,_,_,h3,h4⟩:=h.at_ (k*2) (by omega);obtain⟨ad2,u2,hA2,_,_,h5,h6⟩:=h.at_ (k*2+1) (by omega);rw[hA] at hA2;obtain rfl:=Option.some.inj hA2;rw[h1] at h3;rw[h2] at h5;obtain rfl:=Option.some.inj h3;obtain rfl:=Option.some.inj h5;refine⟨ad,hA,h4,?_⟩;have h7:=Zb4 ad (k*2) 0;rw[Nat.zero_add] at h7;rw[<- h7];exact h6
structure DM where
 g:Nat
 b:Int
 at_:Int
 hd:Int
def dmA (c:Cfg) (q:DM):Asr:=puA q.g (clsS c q.b) q.b q.at_ q.hd
def qOf (g:Nat) (e:Int × Int):DM:=⟨g,e.1,0,0⟩
def ptrs (qs:List DM):List Value:=qs.map fun q=>.pointer (some ⟨q.g,0,none⟩)
def drA (c:Cfg) (d:Nat) (qs:List DM):Asr:=Asr.ex fun v=>blkA 177 d #[v]*(queA 150 v (ptrs qs)*sepR (qs.map (dmA c)) Asr.emp)
theorem Zhv {w0 w:World} {R:Asr} {c:Cfg} {d:Nat} {qs:List DM} (h:Hold w0 w (drA c d qs*R)):∃A k,Hold w0 w (blkA 177 d #[.slice A qs.length k]*(queA 150 (.slice A qs.length k) (ptrs qs)*(sepR (qs.map (dmA c)) R))):=by
 obtain⟨v,h⟩:=h.exOpen;have h1:=h.part;obtain⟨A,c,hv⟩:=h1.drop.part.Zlu;have e:(ptrs qs).length=qs.length:=by simp[ptrs]
 rw[e] at hv;subst hv;exact⟨A,c,h1.imp (Imp.under _ ((Imp.assoc _ _ _).trans (Imp.under _ (Imp.flat R _))))⟩
theorem Zao {w0 w:World} {R:Asr} {c:Cfg} {d:Nat} {v:Value} {qs:List DM} (h:Hold w0 w (blkA 177 d #[v]*(queA 150 v (ptrs qs)*(sepR (qs.map (dmA c)) R)))):Hold w0 w (drA c d qs*R) :=
 Hold.exClose (x:=v) ((h.imp (Imp.under _ ((Imp.under _ (Imp.fold R _)).trans (Imp.assoc' _ _ _)))).join)
def Z2h (lim:Int) (es:List (Int × Int)):List (Int × Int):=es.filter fun e=>lim<e.2
def outE (lim:Int) (es:List (Int × Int)):List (Int × Int):=es.filter fun e=>e.2<=lim
theorem Zcp:(Tryz.prog.info? 150).map (fun i=>(i.zero,i.size,i.bytes))=some (some (.pointer none),1,8):=by kernel_rfl
theorem Imp.snoc (p R:Asr):∀ps:List Asr,Imp (p*sepR ps R) (sepR (ps++[p]) R)
 | []=>Imp.refl _
 | x::ps=>(Imp.swap p x _).trans (Imp.under x (Imp.snoc p R ps))
theorem Imp.into (p R:Asr):∀ps:List Asr,Imp (p*sepR ps R) (sepR ps (p*R))
 | []=>Imp.refl _
 | x::ps=>(Imp.swap p x _).trans (Imp.under x (Imp.into p R ps))
theorem Ze5 (w0 w:World) (R:Asr) (g:Nat) (cf:Cfg) (hcf:CfS cf) (es:List (Int × Int)) (lim:Int) (h:Hold w0 w (limA g cf es*R)) (he:es.length<=10000) (hb:∀e∈es,0<=e.1/\e.1<(nbl cf:Nat)) :
  Calls Tryz.prog 50 #[.pointer (some ⟨g,0,none⟩),.int .i64 lim] w fun e w'=>∃(d:Nat) (gs:List Nat),e = .returned (.pointer (some ⟨d,0,none⟩))/\gs.length=(outE lim es).length/\Hold w0 w' (drA cf d (List.zipWith qOf gs (outE lim es))*(limA g cf (Z2h lim es)*R)):=by
 obtain⟨iE,hiE,hz0,hz1,hz2⟩:=Za2 Zbz;obtain⟨iP,hiP,pz0,pz1,pz2⟩:=Za2 Zcp;obtain⟨n,hn⟩:∃n,n=es.length:=⟨_,rfl⟩;obtain⟨A,c,h⟩:=Ze6 h;rw[<- hn] at h he;have HN:=hid hn;have HB:=hid hb;have HCF:=hid hcf;clear hn hb hcf;have h1:=((h.nilRowS 179 2).nilQue 150).newBlk (t:=177) (cs:=#[.slice none 0 0]);have q13:=h1.drop.drop.drop.blk.some_ (i:=13) rfl;obtain⟨d,hd⟩:∃d,d=w.heap.size:=⟨_,rfl⟩;rw[<- hd] at h1;have H1:=hid h1;clear h h1;go_enter Tryz.func50,Tryz.ntmps50;go_wp2_with fail;have h1:=H1.out;generalize hW:w.alloc _=W at h1 |-;rw[<- hd];clear hW hd H1 q13;have h2:Hold w0 W (blkA 132 g (liC cf (.slice A n c))*(rowS 179 2 (.slice A n c) n (ents es)*(blkA 177 d #[.slice none 0 0]*(queA 150 (.slice none 0 0) (ptrs [])*(rowS 179 2 (.slice none 0 0) 0 []*sepR [] R))))):=h1.pk5 [3,4,0,1,2];clear h1;go_loopw [6,19] (fun v6 i wr=>∃(k:Nat) (Ar:Option Addr) (cr:Nat) (Ad:Option Addr) (cd:Nat) (gs:List Nat) (qs:List DM),k<=n/\i = .int .i64 (k:Int)/\v6 = .slice Ar (Z2h lim (es.take k)).length cr/\gs.length=(outE lim (es.take k)).length/\qs=List.zipWith qOf gs (outE lim (es.take k))/\Hold w0 wr (blkA 132 g (liC cf (.slice A n c))*(rowS 179 2 (.slice A n c) n (ents es)*(blkA 177 d #[.slice Ad qs.length cd]*(queA 150 (.slice Ad qs.length cd) (ptrs qs)*(rowS 179 2 v6 (Z2h lim (es.take k)).length (ents (Z2h lim (es.take k)))*sepR (qs.map (dmA cf)) R)))))) (fun _ i _=>n - (intOf i).toNat)
 case atStart=>exact⟨0,none,0,none,0,[],[],Nat.zero_le _,rfl,rfl,rfl,rfl,h2⟩
 case round =>
  clear h2;obtain⟨k,Ar,cr,Ad,cd,gs,qs,hk,rfl,rfl,hgl,hqs,h⟩:=hrel
  by_cases hlt:k<n
  ·have e1:decide ((k:Int)<(n:Int))=true:=decide_eq_true (by omega)
   have e1':decide (k<n)=true:=decide_eq_true hlt;have hkl:k<es.length:=by rw[<- HN.out];exact hlt
   obtain⟨x,hx⟩:∃x,x=es[k]:=⟨_,rfl⟩;have hxk:es[k]?=some x:=by rw[hx];exact List.getElem?_eq_getElem hkl
   have ht:es.take (k+1)=es.take k++[x]:=by rw[hx];exact(List.take_append_getElem hkl).symm
   have hx6:0<=x.1/\x.1<(nbl cf:Nat):=by rw[hx];exact HB.out _ (List.getElem_mem hkl)
   obtain⟨b,hr⟩:=h.drop.rowSReads;obtain⟨ad,hA,d0,d1⟩:=hr.ent hxk hlt;have HT:=hid ht;have HG:=hid (And.intro hgl hqs);have k0:(0:Int)<=(k:Int):=by omega
   have k1:(k:Int)<(n:Int):=by omega
   obtain⟨x1,x2⟩:=x;simp only at d0 d1 hx6;subst hA;have hkp:(Z2h lim (es.take k)).length<=10000:=by
    unfold Z2h;have:=List.length_filter_le (fun e=>decide (lim<e.2)) (es.take k);rw[List.length_take] at this;omega
   have hql:qs.length<=10000:=by
    rw[hqs,List.length_zipWith];unfold outE;have:=List.length_filter_le (fun e=>decide (e.2<=lim)) (es.take k);rw[List.length_take] at this;omega
   clear hr ht hx hxk hgl hqs;generalize hks:Z2h lim (es.take k)=ks at *;generalize hos:outE lim (es.take k)=os at *;have HK:=hid hks;have HO:=hid hos;clear hks hos;have h3:=h.newBlk (t:=179) (cs:=#[.int .i64 x1,.int .i64 x2]);have H3:=hid h3;clear h h3;go_upto_region 8 with fail
   have h3:=H3.out;generalize hW:wr.alloc _=W2 at h3 |-;generalize wr.heap.size=gx at h3 |-;clear hW H3 d0 d1;have x0:=h3.blk.some_ (i:=0) rfl;have x1':=h3.blk.some_ (i:=1) rfl
   by_cases hp:lim<x2
   ·have e2:decide (lim<x2)=true:=decide_eq_true hp
    have h4:Hold w0 W2 (rowS 179 2 (.slice Ar ks.length cr) ks.length (ents ks)*(blkA 179 gx #[.int .i64 x1,.int .i64 x2]*(blkA 132 g (liC cf (.slice (some ad) n c))*(rowS 179 2 (.slice (some ad) n c) n (ents es)*(blkA 177 d #[.slice Ad qs.length cd]*(queA 150 (.slice Ad qs.length cd) (ptrs qs)*sepR (qs.map (dmA cf)) R)))))):=h3.pk6 [5,0,1,2,3,4];clear h3;go_wp2_with (at_builtin;refine Z0s rfl _ _ 130 rfl 179 iE (.agg #[.int .i64 0,.int .i64 0]) 2 16 Tryz.underlying130 hiE hz0 hz1 hz2 rfl (by decide) (.slice Ar ks.length cr) ks.length (ents ks) [.int .i64 x1,.int .i64 x2] _ rfl h4 _ rfl rfl rfl rfl (by omega) (by decide) ?_);intro A3 c3 w3 h5;have H5:=hid (h5.drop.swap.drop);have H6:=hid (h5.pk6 [2,3,4,5,0]);clear h4 h5 x0 x1';go_wp2_with fail;go_roundw
    case rel =>
     have e3:Z2h lim (es.take (k+1))=ks++[(x1,x2)]:=by
      rw[HT.out,<- HK.out];unfold Z2h;rw[List.filter_append];simp[hp]
     have e4:outE lim (es.take (k+1))=os:=by
      rw[HT.out,<- HO.out];unfold outE;rw[List.filter_append];simp;omega
     refine⟨k+1,A3,c3,Ad,cd,gs,qs,by omega,by go_num,by rw[e3,List.length_append];rfl,by rw[e4];exact HG.out.1,by rw[e4];exact HG.out.2,?_⟩;rw[e3,Z97,List.length_append];exact H6.out
    case measure=>simp[intOf];omega
   ·have e2:decide (lim<x2)=false:=decide_eq_false hp
    go_upto_region 10 with fail;clear x0 x1';have h:=h3.pk4 [0,1,3,2];clear h3;replace h:=h.drew;refine Z01 [19] (by kernel_rfl) ?_;generalize hw5:W2.drew=W5 at h |-;clear hw5;refine Z04 (fun w'=>∃Z,Hold w0 w' (blkA 179 gx #[.int .i64 x1,.int .i64 x2]*(blkA 132 g (liC cf (.slice (some ad) n c))*(blkA 177 d #[.slice Ad qs.length cd]*Z)))) (fun _ _=>trivial) _ _ _ _ ?_;refine' wbk [true,true,true,true,true,true,true,true,true,true,true,false,true,true] 56 ⟨_,h⟩ (fun wq hq=>?_) ?_;rotate_left
    ·simp only[Z08]
     obtain⟨Z,hq⟩:=hq;have y0:=hq.blk.some_ (i:=0) rfl;have y88:=hq.drop.drop.blk.some_ (i:=0) rfl;have q0:=hq.drop.blk.some_ (i:=0) rfl;have q1:=hq.drop.blk.some_ (i:=1) rfl;have q2:=hq.drop.blk.some_ (i:=2) rfl;have q3:=hq.drop.blk.some_ (i:=3) rfl;have q4:=hq.drop.blk.some_ (i:=4) rfl;have q5:=hq.drop.blk.some_ (i:=5) rfl;have q6:=hq.drop.blk.some_ (i:=6) rfl;have q7:=hq.drop.blk.some_ (i:=7) rfl;have q8:=hq.drop.blk.some_ (i:=8) rfl;have q9:=hq.drop.blk.some_ (i:=9) rfl;have q10:=hq.drop.blk.some_ (i:=10) rfl;have q11:=hq.drop.blk.some_ (i:=11) rfl;have q12:=hq.drop.blk.some_ (i:=12) rfl;have q13:=hq.drop.blk.some_ (i:=13) rfl;clear hq
     repeat (go_big_quiet_step (fail))
     exact wpQuiet_nil rfl
    refine wbi 11 (fuel:=6) (fun QB hQB hQX=>?_);go_wp2_with fail;refine(Z82 W5 HCF.out hx6.1 hx6.2).mono ?_;rintro e y1 ⟨rfl,hc1⟩;have h1:=h.chg0 hc1;clear h hc1;have h:=h1;clear h1;go_wp2_with fail;refine hQB.out _ _ ⟨_,h⟩ ?_;clear hQB hQX QB;refine wbi 14 (fuel:=5) (fun QB hQB hQX=>?_);go_wp2_with fail;refine(Zhh w0 _ _ _ _ h).mono ?_;rintro e y2 ⟨gq,rfl,h2⟩;clear h;have h:=h2.pk4 [1,2,3,0];clear h2;go_wp2_with fail;refine hQB.out _ _ ⟨_,h⟩ ?_;clear hQB hQX QB;have h9:Hold w0 y2 (queA 150 (.slice Ad qs.length cd) (ptrs qs)*(blkA 179 gx #[.int .i64 x1,.int .i64 x2]*(blkA 132 g (liC cf (.slice (some ad) n c))*(blkA 177 d #[.slice Ad qs.length cd]*(puA gq (clsS cf x1) x1 0 0*(rowS 179 2 (.slice (some ad) n c) n (ents es)*(rowS 179 2 (.slice Ar ks.length cr) ks.length (ents ks)*sepR (qs.map (dmA cf)) R))))))):=Hold.pk6 h [5,0,1,2,3,4];have hpl:(ptrs qs).length<=1000000:=by simp[ptrs];omega
    refine wbi 15 (fuel:=4) (fun QB hQB hQX=>?_);go_wp2_with fail;refine hQB.out _ _ ⟨_,h.alloc _⟩ ?_;clear hQB hQX QB;refine wbi 16 (fuel:=3) (fun QB hQB hQX=>?_);go_wp2_with (at_builtin;refine Z0r rfl _ _ 175 rfl iP (.pointer none) 8 Tryz.underlying175 hiP pz0 pz1 pz2 rfl (.pointer (some ⟨gq,0,none⟩)) _ rfl h9 rfl rfl hpl (by decide) ?_);intro v9 y4 h5;obtain⟨A9,c9,hv9⟩:=h5.Zlu;have e9:(ptrs qs++[Value.pointer (some ⟨gq,0,none⟩)]).length=qs.length+1:=by simp[ptrs]
    rw[e9] at hv9;subst hv9;clear h h9 e9;have h9:=h5;clear h5;go_wp2_with fail;refine hQB.out _ _ ⟨_,h9.drop⟩ ?_;clear hQB hQX QB;refine' wbz [false,false,false,false,false,false,false,false,false,false,false,false,false,false,false,false,false,true,true] 56 ⟨_,h9.drop⟩ ?_;refine wbj 19 (fuel:=0) (fun QB hQB hQX=>?_);have p2:=h9.drop.drop.drop.blk.some_ (i:=0) rfl;have z2:=h9.drop.drop.drop.blk.frozen 0;have H10:=hid ((h9.pk4 [3,0,1,2]).Zlp 0 (.slice A9 (qs.length+1) c9));clear h9;go_wp2_with fail;refine hQB.out _ _ ?_;refine Z06 (by kernel_rfl) ?_;refine Z02 (by kernel_rfl) ?_ _;have hzip:∀(a:List Nat) (b:List (Int × Int)) (x:Nat) (y:Int × Int),a.length=b.length->List.zipWith qOf (a++[x]) (b++[y])=List.zipWith qOf a b++[qOf x y]:=fun a b x y hab=>by
     rw[List.zipWith_append hab];rfl
    have hfin:∀w',Hold w0 w' (blkA 177 d #[.slice A9 (qs.length+1) c9]*(queA 150 (.slice A9 (qs.length+1) c9) (ptrs qs++[Value.pointer (some ⟨gq,0,none⟩)])*(blkA 179 gx #[.int .i64 x1,.int .i64 x2]*(blkA 132 g (liC cf (.slice (some ad) n c))*(puA gq (clsS cf x1) x1 0 0*(rowS 179 2 (.slice (some ad) n c) n (ents es)*(rowS 179 2 (.slice Ar ks.length cr) ks.length (ents ks)*sepR (qs.map (dmA cf)) R))))))) ->
      Hold w0 w' (blkA 132 g (liC cf (.slice (some ad) n c))*(rowS 179 2 (.slice (some ad) n c) n (ents es)*(blkA 177 d #[.slice A9 (qs++[qOf gq (x1,x2)]).length c9]*(queA 150 (.slice A9 (qs++[qOf gq (x1,x2)]).length c9) (ptrs (qs++[qOf gq (x1,x2)]))*(rowS 179 2 (.slice Ar ks.length cr) ks.length (ents ks)*sepR ((qs++[qOf gq (x1,x2)]).map (dmA cf)) R))))):=fun w' h=>by
     have h1:Hold w0 w' (blkA 132 g (liC cf (.slice (some ad) n c))*(rowS 179 2 (.slice (some ad) n c) n (ents es)*(blkA 177 d #[.slice A9 (qs.length+1) c9]*(queA 150 (.slice A9 (qs.length+1) c9) (ptrs qs++[Value.pointer (some ⟨gq,0,none⟩)])*(rowS 179 2 (.slice Ar ks.length cr) ks.length (ents ks)*(puA gq (clsS cf x1) x1 0 0*sepR (qs.map (dmA cf)) R)))))):=h.pk7 [3,5,0,1,6,4];have h2:=h1.imp (Imp.under _ (Imp.under _ (Imp.under _ (Imp.under _ (Imp.under _ (Imp.snoc _ _ _))))));have e1:(qs++[qOf gq (x1,x2)]).length=qs.length+1:=by simp
     have e2:ptrs (qs++[qOf gq (x1,x2)])=ptrs qs++[Value.pointer (some ⟨gq,0,none⟩)]:=by simp[ptrs,qOf]
     have e3:dmA cf (qOf gq (x1,x2))=puA gq (clsS cf x1) x1 0 0:=rfl;rw[e1,e2,List.map_append,List.map_singleton,e3];exact h2
    have HF:=hid hfin;have HZ:=hid hzip;clear hfin hzip;go_wp2_with fail;have h11:=HF.out _ H10.out;go_roundw
    case rel =>
     have e3:Z2h lim (es.take (k+1))=ks:=by
      rw[HT.out,<- HK.out];unfold Z2h;rw[List.filter_append];simp;omega
     have e4:outE lim (es.take (k+1))=os++[(x1,x2)]:=by
      rw[HT.out,<- HO.out];unfold outE;rw[List.filter_append];simp;omega
     refine⟨k+1,Ar,cr,A9,c9,gs++[gq],qs++[qOf gq (x1,x2)],by omega,by go_num,by rw[e3],by rw[e4,List.length_append,List.length_append,HG.out.1];rfl,by rw[e4,HZ.out _ _ _ _ HG.out.1,<- HG.out.2],?_⟩;rw[e3];exact h11
    case measure=>simp[intOf];omega
  ·obtain rfl:k=n:=by omega
   have e1:decide ((k:Int)<(k:Int))=false:=decide_eq_false (by omega);rw[List.take_of_length_le (by rw[<- HN.out];exact Nat.le_refl _)] at h hgl hqs |-;have HG:=hid (And.intro hgl hqs);have p13:=h.blk.some_ (i:=13) rfl;have z13:=h.blk.frozen 13;have h1:=h.Zlp 13 (.slice Ar (Z2h lim es).length cr);have h2:Hold w0 _ (blkA 177 d #[.slice Ad qs.length cd]*(queA 150 (.slice Ad qs.length cd) (ptrs qs)*(blkA 132 g (liC cf (.slice Ar (Z2h lim es).length cr))*(rowS 179 2 (.slice Ar (Z2h lim es).length cr) (Z2h lim es).length (ents (Z2h lim es))*sepR (qs.map (dmA cf)) R)))):=Hold.pk5 h1 [2,3,0,4];have h3:=Zao (h2.imp (Imp.under _ (Imp.under _ ((Imp.under _ (Imp.into _ _ _)).trans (Imp.into _ _ _)))));have h4:=(Z7q (h3.pk3 [1,2,0])).swap;have H4:=hid h4;clear h h1 h2 h3 h4 hgl hqs;go_wp2_with fail;go_ret;exact⟨d,rfl,gs,HG.out.1,by rw[<- HG.out.2];exact H4.out⟩
theorem Zig {w0 w:World} {R:Asr} {e:TypeId} {A:Option Addr} {n c:Nat} {x:Value} {xs:List Value} (h:Hold w0 w (queA e (.slice A (n+1) c) (x::xs)*R)):∃g off,A=some ⟨g,off,none⟩/\∀w' R',Hold w0 w' (queA e (.slice A (n+1) c) (x::xs)*R')->w'.cell? ⟨g,off,none⟩=some x:=by
 obtain⟨fp,h1⟩:=h.get;rcases h1 with⟨_,h2,_⟩|⟨g,off,c',cs,h1,_⟩
 ·cases h2
 ·injection h1 with h1 _ _
  subst h1;exact⟨g,off,rfl,fun w' R' h'=>Hold.queAt h' (k:=0) rfl⟩
theorem Zan (w0 w:World) (R:Asr) (cf:Cfg) (d:Nat) (qs:List DM) (h:Hold w0 w (drA cf d qs*R)):Calls Tryz.prog 54 #[.pointer (some ⟨d,0,none⟩)] w fun e w'=>e = .returned (.bool qs.isEmpty)/\w=w':=by
 obtain⟨A,c,h⟩:=Zhv h;have q:=h.blk.some_ (i:=0) rfl;have e1:((qs.length:Int)==0)=qs.isEmpty:=by cases qs with
  | nil=>rfl
  | cons x l=>simp;omega
 obtain⟨b,hb⟩:∃b,b=qs.isEmpty:=⟨_,rfl⟩;rw[<- hb] at e1 |-;clear h hb;generalize qs.length=n at *;go_enter Tryz.func54,Tryz.ntmps54;go_wp2;go_ret;exact⟨rfl,rfl⟩
theorem Imp.out (p R:Asr):∀ps:List Asr,Imp (sepR ps (p*R)) (p*sepR ps R)
 | []=>Imp.refl _
 | x::ps=>(Imp.under x (Imp.out p R ps)).trans (Imp.swap x p _)
def drN (q':DM) (qs:List DM):List DM:=if q'.at_=3 then qs else q'::qs
abbrev acC (a:Acc):Array Value:=#[.int .i64 a.kind,.int .i64 a.cell,.int .i64 a.index,.int .u64 a.got,.int .u64 a.put,.bool a.done]
theorem Zgx (w0 w:World) (R:Asr) (cf:Cfg) (d r:Nat) (C C2:Nat->List Int) (a:Acc) (q q':DM) (qs:List DM) (h:Hold w0 w (drA cf d (q::qs)*(memA r C*R))) (hg':q'.g=q.g)
  (hst:∀F w',Hold w0 w' (dmA cf q*(memA r C*F))->Calls Tryz.prog 84 #[.pointer (some ⟨q.g,0,none⟩),.pointer (some ⟨r,0,none⟩)] w' fun e w2=>e = .returned a.val/\Hold w0 w2 (dmA cf q'*(memA r C2*F))) :
  Calls Tryz.prog 52 #[.pointer (some ⟨d,0,none⟩),.pointer (some ⟨r,0,none⟩)] w (Z0b w0 (drA cf d (drN q' qs)*(memA r C2*R)) a):=by
 have h1:=h.newBlk (t:=50) (cs:=acC acc0);have HD:=hid (Zan w0 _ _ cf d (q::qs) h1.drop);have H1:=hid h1;clear h h1;obtain⟨gr,hgr⟩:∃g,g=w.heap.size:=⟨_,rfl⟩;go_enter Tryz.func52,Tryz.ntmps52;go_wp2_with fail;refine HD.out.mono ?_;rintro e w1 ⟨rfl,rfl⟩;clear HD;have h1:=H1.out;go_upto_region 3 with fail
 rw[<- hgr] at h1 |-;clear H1 hgr;generalize hW:w.alloc _=W1 at h1 |-;clear hW;obtain⟨A,c,h2⟩:=Zhv h1.swap;obtain⟨n,hn⟩:∃n,n=qs.length:=⟨_,rfl⟩;rw[List.length_cons,<- hn] at h2;have HN:=hid hn;clear hn;obtain⟨ga,off,rfl,hat⟩:=Zig (x:=.pointer (some ⟨q.g,0,none⟩)) (xs:=ptrs qs) h2.drop;have h3:Hold w0 W1 (blkA 177 d #[.slice (some ⟨ga,off,none⟩) (n+1) c]*(queA 150 (.slice (some ⟨ga,off,none⟩) (n+1) c) (.pointer (some ⟨q.g,0,none⟩)::ptrs qs)*(dmA cf q*sepR (qs.map (dmA cf)) (blkA 50 gr (acC acc0)*(memA r C*R))))):=h2;have h4:Hold w0 W1 (blkA 177 d #[.slice (some ⟨ga,off,none⟩) (n+1) c]*(queA 150 (.slice (some ⟨ga,off,none⟩) (n+1) c) (.pointer (some ⟨q.g,0,none⟩)::ptrs qs)*(dmA cf q*(blkA 50 gr (acC acc0)*(memA r C*sepR (qs.map (dmA cf)) R))))) :=
  h3.imp (Imp.under _ (Imp.under _ (Imp.under _ ((Imp.out _ _ _).trans (Imp.under _ (Imp.out _ _ _))))))
 have hc0:=hat _ _ h3.drop;have k0:=h3.blk.some_ (i:=0) rfl;have h5:Hold w0 W1 (dmA cf q*(memA r C*(blkA 177 d #[.slice (some ⟨ga,off,none⟩) (n+1) c]*(queA 150 (.slice (some ⟨ga,off,none⟩) (n+1) c) (.pointer (some ⟨q.g,0,none⟩)::ptrs qs)*(blkA 50 gr (acC acc0)*sepR (qs.map (dmA cf)) R))))):=h4.pk5 [2,4,0,1,3];have HP:=hid (hst _ _ h5);have HAT:=hid hat;clear h1 h2 h3 h4 h5 hat hst;obtain⟨gq,hg⟩:∃g,g=q.g:=⟨_,rfl⟩;rw[<- hg] at hg';rw[<- hg] at HP;rw[<- hg] at HAT hc0;have HDN:=hid hg';clear hg hg';go_wp2_with fail;refine HP.out.mono ?_;rintro e w2 ⟨rfl,h6⟩;clear HP hc0 k0;have h7:=h6.newBlk (t:=50) (cs:=acC acc0);have H7:=hid h7;clear h6 h7;go_upto_region 4 with(refine Z00 rfl 50 _ _ rfl w2.heap.size _ _ (acC a) rfl rfl _ Tryz.sizeOf50 H7.out rfl rfl rfl ?_;intro y2 h8)
 clear H7;generalize w2.heap.size=gc at h8 |-;have hc0:=HAT.out _ _ h8.drop.drop.drop.drop;have k0:=h8.drop.drop.drop.blk.some_ (i:=0) rfl;have h9:Hold w0 y2 (dmA cf q'*(blkA 50 gc (acC a)*(memA r C2*(blkA 177 d #[.slice (some ⟨ga,off,none⟩) (n+1) c]*(queA 150 (.slice (some ⟨ga,off,none⟩) (n+1) c) (.pointer (some ⟨gq,0,none⟩)::ptrs qs)*(blkA 50 gr (acC acc0)*sepR (qs.map (dmA cf)) R)))))):=h8.swap;have HPD:=Za0 w0 y2 _ q'.g _ _ _ _ h9;rw[HDN.out] at HPD;have HPD:=hid HPD;go_wp2_with fail;refine HPD.out.mono ?_;rintro e w' ⟨rfl,rfl⟩;clear HPD hc0
 by_cases h3:q'.at_=3
 ·have e1:((q'.at_:Int)==3)=true:=by rw[h3];rfl
  obtain⟨A2,hA2⟩:∃A2:Option Addr,A2=if c=1 then some ⟨ga,off,none⟩ else some ((⟨ga,off,none⟩:Addr).add 1):=⟨_,rfl⟩
  have hsl:∀w,(Instr.slice 175 (.slice (some ⟨ga,off,none⟩) (n+1) c) (some (.int .i64 1)) none none).run Tryz.prog w = .ok (.slice A2 n (c - 1)) w:=fun w=>by
   rw[hA2];exact Z1x 175 (by kernel_rfl) (fun _=>by kernel_rfl) w ⟨ga,off,none⟩ n c
  have z0:=h9.drop.drop.drop.blk.frozen 0;have h10:=(h9.pk6 [3,4,0,1,2,5]).Zlp 0 (.slice A2 n (c - 1));have hA:=hid hA2;have H10:=hid h10;clear h8 h9 h10 hA2;rw[e1];go_upto_region 6 with fail
  have h10:=H10.out;generalize hW:World.setCell _ _ _=W3 at h10 |-;clear hW H10 z0 k0 hsl;have h11:Hold w0 W3 (blkA 50 gr (acC acc0)*(blkA 50 gc (acC a)*(memA r C2*(blkA 177 d #[.slice A2 n (c - 1)]*(queA 150 (.slice (some ⟨ga,off,none⟩) (n+1) c) (.pointer (some ⟨gq,0,none⟩)::ptrs qs)*sepR (qs.map (dmA cf)) R))))):=h10.pk6 [5,3,4,0,1];clear h10;go_wp2_with (first|(refine Z03 rfl 50 _ rfl gc _ _ rfl Tryz.isAgg50 _ Tryz.sizeOf50 h11.drop.blk rfl ?_)|(refine Z00 rfl 50 _ _ rfl gr _ _ (acC a) rfl rfl _ Tryz.sizeOf50 h11 rfl rfl rfl ?_;intro y3 h12));clear h11;have h13:Hold w0 y3 (blkA 177 d #[.slice A2 n (c - 1)]*(queA 150 (.slice (some ⟨ga,off,none⟩) (n+1) c) (.pointer (some ⟨gq,0,none⟩)::ptrs qs)*(memA r C2*sepR (qs.map (dmA cf)) R))):=h12.pk5 [3,4,2];have h14:=h13.imp (Imp.under _ ((Imp.on _ (Imp.queTail _ _ _ _ _ _)).trans (Imp.under _ (Imp.into _ _ _))));rw[<- hA.out] at h14;have h15:Hold w0 y3 (drA cf d (drN q' qs)*(memA r C2*R)):=by
   rw[show drN q' qs=qs from if_pos h3];exact Zao h14
  have HF:Hid (Z0b w0 (drA cf d (drN q' qs)*(memA r C2*R)) a (.returned a.val) y3):=hid ⟨rfl,h15⟩;exact bodyPost_ret (Z0j Tryz.results52 _ rfl Tryz.isAgg50 _ Tryz.sizeOf50 h12.blk rfl) rfl HF.out
 ·have e1:((q'.at_:Int)==3)=false:=by
   have:(q'.at_:Int)≠3:=by omega
   simpa using this
  have h11:Hold w0 y2 (blkA 50 gr (acC acc0)*(blkA 50 gc (acC a)*(memA r C2*(blkA 177 d #[.slice (some ⟨ga,off,none⟩) (n+1) c]*(queA 150 (.slice (some ⟨ga,off,none⟩) (n+1) c) (.pointer (some ⟨gq,0,none⟩)::ptrs qs)*(dmA cf q'*sepR (qs.map (dmA cf)) R)))))):=h9.pk6 [5,1,2,3,4,0];clear h8 h9 k0;rw[e1];go_wp2_with (first|(refine Z03 rfl 50 _ rfl gc _ _ rfl Tryz.isAgg50 _ Tryz.sizeOf50 h11.drop.blk rfl ?_)|(refine Z00 rfl 50 _ _ rfl gr _ _ (acC a) rfl rfl _ Tryz.sizeOf50 h11 rfl rfl rfl ?_;intro y3 h12));clear h11;have h13:Hold w0 y3 (blkA 177 d #[.slice (some ⟨ga,off,none⟩) (n+1) c]*(queA 150 (.slice (some ⟨ga,off,none⟩) (n+1) c) (.pointer (some ⟨gq,0,none⟩)::ptrs qs)*(memA r C2*sepR ((q'::qs).map (dmA cf)) R))):=h12.pk5 [3,4,2];have h14:=h13.imp (Imp.under _ (Imp.under _ (Imp.into _ _ _)));have h15:Hold w0 y3 (drA cf d (drN q' qs)*(memA r C2*R)):=by
   rw[show drN q' qs=q'::qs from if_neg h3];refine Zao (v:=.slice (some ⟨ga,off,none⟩) (n+1) c) ?_;rw[show ptrs (q'::qs) = .pointer (some ⟨gq,0,none⟩)::ptrs qs by rw[<- HDN.out];rfl];exact h14
  have HF:Hid (Z0b w0 (drA cf d (drN q' qs)*(memA r C2*R)) a (.returned a.val) y3):=hid ⟨rfl,h15⟩;exact bodyPost_ret (Z0j Tryz.results52 _ rfl Tryz.isAgg50 _ Tryz.sizeOf50 h12.blk rfl) rfl HF.out
theorem Z7v:(Tryz.prog.info? 55).map (fun i=>(i.zero,i.size,i.bytes))=some (some (.agg #[.int .i64 0,.int .i64 0,.int .u64 0]),3,24):=by kernel_rfl
section
variable {w0 w:World} {R R':Asr} {t g n cp:Nat} {c:Cfg} {x:ThR} {y:AtR} {A:Option Addr} {p kd v:Int} {us:List Value}
theorem Zhd {r:Nat} (h:Hold w0 w (thA t c x*(atA g c y*(rowS 55 3 x.seen n us*R)))) (ha:x.attempt=ptrV g) (hr:r<8) (hn:n<=1000) :
  Calls Tryz.prog 105 #[ptrV t,.int .i64 (r:Int),.int .i64 kd] w fun e w'=>∃A' c',e = .returned (.tuple #[])/\Hold w0 w' (thA t c {x with regs:=upR x.regs r y.value,seen:=.slice A' (n+1) c'}*(atA g c y*(rowS 55 3 (.slice A' (n+1) c') (n+1) (us++[.int .i64 x.pc,.int .i64 kd,.int .u64 y.value])*R))):=by
 obtain⟨iO,hiO,zo0,zo1,zo2⟩:∃i,Tryz.prog.info? 55=some i/\i.zero=some (.agg #[.int .i64 0,.int .i64 0,.int .u64 0])/\i.size=3/\i.bytes=24:=by
  have hi:=Z7v;revert hi
  cases Tryz.prog.info? 55 with
  | none=>intro hi;cases hi
  | some i =>
   intro hi;simp only[Option.map_some,Option.some.injEq,Prod.mk.injEq] at hi;exact⟨i,rfl,hi.1,hi.2.1,hi.2.2⟩
 have q:=h.Zlw;rw[ha] at q;have HV:=hid (Z71 h.swap);obtain⟨v,hv⟩:∃v,v=y.value:=⟨_,rfl⟩;rw[<- hv] at HV |-;have p1:=h.th_regs hr;have z1:=h.thZ (33+r);have H1:=hid (h.th_regs_set hr v);have k0:(0:Int)<=(r:Int):=by omega
 have k1:(r:Int)<8:=by omega
 clear h ha hv;go_enter Tryz.func105,Tryz.ntmps105;go_wp2_with fail;refine HV.out.mono ?_;rintro e w' ⟨rfl,rfl⟩;go_upto_region 2 with fail
 have h1:=H1.out;generalize hW:World.setCell _ _ _=W at h1 |-;clear hW H1 HV p1 z1 q;replace h1:=h1.drew;refine Z01 [19] (by kernel_rfl) ?_;generalize hW:W.drew=W1 at h1 |-;clear hW;have hsq:∀{w':World} {R':Asr},Hold w0 w' (thA t c {x with regs:=upR x.regs r v}*R')->w'.cell? ⟨t,11,none⟩=some x.seen/\w'.cell? ⟨t,32,none⟩=some (.int .i64 x.pc):=fun h=>⟨h.th_seen,h.th_pc⟩;refine Z04 (fun w'=>w'.cell? ⟨t,11,none⟩=some x.seen/\w'.cell? ⟨t,32,none⟩=some (.int .i64 x.pc)) (fun _ _=>trivial) _ _ _ _ ?_;refine' wbk [true,true,true,true,true,true,true,true,true,true,true,true,true,true] 39 (hsq h1) (fun wq hq=>?_) ?_;rotate_left
 ·simp only[Z08]
  obtain⟨q1,q2⟩:=hq
  repeat (go_big_quiet_step (fail))
  exact wpQuiet_nil rfl
 refine wbi 14 (fuel:=5) (fun QB hQB hQX=>?_);go_wp2_with fail;refine hQB.out _ _ (hsq (h1.alloc _)) ?_;clear hQB hQX QB;refine wbi 15 (fuel:=4) (fun QB hQB hQX=>?_);go_wp2_with (at_builtin;refine Z0s rfl _ _ 53 rfl 55 iO (.agg #[.int .i64 0,.int .i64 0,.int .u64 0]) 3 24 Tryz.underlying53 hiO zo0 zo1 zo2 rfl (by decide) x.seen n us [.int .i64 x.pc,.int .i64 kd,.int .u64 v] _ rfl (h1.pk3 [2,0,1]) _ rfl rfl rfl rfl (by omega) (by decide) ?_);intro A2 c2 y4 h5;have h2:=h5.pk3 [1,2,0];clear h5 h1;go_wp2_with fail;refine hQB.out _ _ (hsq h2) ?_;clear hQB hQX QB;refine' wbz [false,false,false,false,false,false,false,false,false,false,false,false,false,false,false,false,true,true,true] 39 (hsq h2) ?_;refine wbj 19 (fuel:=0) (fun QB hQB hQX=>?_);have p1:=h2.th_seen;have z1:=h2.thZ 11;have H3:=hid (h2.th_seen_set (.slice A2 (n+1) c2));clear h2;go_wp2_with fail;refine hQB.out _ _ ?_;clear hQB hQX QB p1 z1;refine Z06 (by kernel_rfl) ?_;refine Z02 (by kernel_rfl) ?_ _;go_wp2_with fail
 go_end0
 exact⟨A2,c2,rfl,H3.out⟩
end
section
variable {w0 w:World} {R R':Asr} {t g n cp nc:Nat} {c:Cfg} {x:ThR} {y:AtR} {A:Option Addr} {p kd v:Int} {us:List Value} {i:InsR}
theorem Z9p (h:Hold w0 w (thA t c x*(atA g c y*R))) (ha:x.attempt=ptrV g) (hs:y.state=1) (hst:x.strong=false) (hc:x.code = .slice A nc cp) (h0:0<=x.pc/\x.pc<=1000000) (h1:i.op≠10) (h2:i.op≠14) :
  Calls Tryz.prog 61 #[ptrV t,i.val] w fun e w'=>e = .returned (.tuple #[])/\Hold w0 w' (thA t c {x with pc:=x.pc+1,done:=x.pc+1==(nc:Int)}*(atA g c y*R)):=by
 have H1:=hid (h.newBlk (t:=28) (cs:=i.cells));have HX:=hid (And.intro ha (And.intro hs (And.intro hst hc)));have e1:(i.op==10)=false:=beq_eq_false_iff_ne.2 h1;have e2:(i.op==14)=false:=beq_eq_false_iff_ne.2 h2;clear h ha hs hst hc h1 h2;go_enter Tryz.func61,Tryz.ntmps61;go_upto_region 7 with fail
 have h1:=H1.out;generalize hW:w.alloc _=W at h1 |-;generalize w.heap.size=gi at h1 |-;clear hW H1;have h2:=h1.pk3 [1,2,0];have q:=h2.Zlw;rw[HX.out.1] at q;have q2:=h2.th_strong;rw[HX.out.2.2.1] at q2;have q0:=(h2.pk3 [2]).blk.some_ (i:=0) (u:=.int .i64 i.op) rfl;have q1:=(h2.pk3 [2]).blk.some_ (i:=1) (u:=.int .i64 i.a) rfl;have hst:=Z1w h2.swap;rw[HX.out.2.1] at hst;have HS:=hid hst;have HN:=hid (Z28 h2 HX.out.2.2.2 h0);clear h1 h2 hst;go_wp2_with fail;refine HS.out.mono ?_;rintro e w' ⟨rfl,rfl⟩;go_wp2_with fail;refine HS.out.mono ?_;rintro e w' ⟨rfl,rfl⟩;go_wp2_with fail;refine HN.out.mono ?_;rintro e w' ⟨rfl,h3⟩;have H4:=hid (h3.pk3 [0,1]);clear h3 HN HS q q2 q0 q1;go_wp2_with fail
 go_end0
 exact⟨rfl,H4.out⟩
theorem Z9o {r:Nat} (h:Hold w0 w (thA t c x*(atA g c y*(rowS 55 3 x.seen n us*R)))) (ha:x.attempt=ptrV g) (hs:y.state=1) (hst:x.strong=false) (hc:x.code = .slice A nc cp) (h0:0<=x.pc/\x.pc<=1000000) (h1:i.op=10) (hr:i.a=(r:Int)) (hr8:r<8) (hn:n<=1000) :
  Calls Tryz.prog 61 #[ptrV t,i.val] w fun e w'=>∃A' c',e = .returned (.tuple #[])/\Hold w0 w' (thA t c {x with regs:=upR x.regs r y.value,seen:=.slice A' (n+1) c',pc:=x.pc+1,done:=x.pc+1==(nc:Int)}*(atA g c y*(rowS 55 3 (.slice A' (n+1) c') (n+1) (us++[.int .i64 x.pc,.int .i64 1,.int .u64 y.value])*R))):=by
 have H1:=hid (h.newBlk (t:=28) (cs:=i.cells));have HX:=hid (And.intro ha (And.intro hs (And.intro hst hc)));have HI:=hid (And.intro h1 hr);clear h ha hs hst hc h1 hr;go_enter Tryz.func61,Tryz.ntmps61;go_upto_region 7 with fail
 have h1:=H1.out;generalize hW:w.alloc _=W at h1 |-;generalize w.heap.size=gi at h1 |-;clear hW H1;have h2:=h1.pk4 [1,2,3,0];have q:=h2.Zlw;rw[HX.out.1] at q;have q2:=h2.th_strong;rw[HX.out.2.2.1] at q2;have q0:=(h2.pk4 [3]).blk.some_ (i:=0) (u:=.int .i64 i.op) rfl;rw[HI.out.1] at q0;have q1:=(h2.pk4 [3]).blk.some_ (i:=1) (u:=.int .i64 i.a) rfl;rw[HI.out.2] at q1;have hst:=Z1w h2.swap;rw[HX.out.2.1] at hst;have HS:=hid hst;have HG:=hid (Zhd (kd:=1) (r:=r) h2 HX.out.1 hr8 hn);clear h1 h2 hst;go_wp2_with fail;refine HS.out.mono ?_;rintro e w' ⟨rfl,rfl⟩;go_wp2_with fail;refine HS.out.mono ?_;rintro e w' ⟨rfl,rfl⟩;go_wp2_with fail;refine HG.out.mono ?_;rintro e w3 ⟨A',c',rfl,h3⟩;have HN:=hid (Z28 (n:=nc) h3 HX.out.2.2.2 h0);clear h3 HG HS q q2 q0 q1;go_wp2_with fail;refine HN.out.mono ?_;rintro e w' ⟨rfl,h4⟩;have H4:=hid (h4.pk4 [0,1,2]);clear h4 HN;go_wp2_with fail
 go_end0
 exact⟨A',c',rfl,H4.out⟩
end
section
variable {w0 w:World} {R:Asr} {t g n cp:Nat} {c:Cfg} {x:ThR} {i:InsR} {A:Option Addr} {obs:List ObR} {kd v:Int}
def adR (x:ThR) (r:Nat) (i:Int):Int:=(x.regs r+i)%18446744073709551616
theorem Zb6 (x:ThR) (r:Nat) (i:Int):0<=adR x r i/\adR x r i<18446744073709551616:=by unfold adR;omega
theorem Z2o {r:Nat} {i:Int} (h:Hold w0 w (thA g c x*R)) (hr:r<8) (h0:0<=i/\i<=1000000) :
  Calls Tryz.prog 116 #[ptrV g,.int .i64 (r:Int),.int .i64 i] w fun e w'=>e = .returned (.int .u64 (adR x r i))/\w=w':=by
 have q:=h.th_regs hr;have k0:(0:Int)<=(r:Int):=by omega
 have k1:(r:Int)<8:=by omega
 have e1:i%18446744073709551616=i:=Int.emod_eq_of_lt (by omega) (by omega);obtain⟨a,ha⟩:∃a,a=adR x r i:=⟨_,rfl⟩;rw[<- ha];unfold adR at ha;have HA:=hid ha;generalize x.regs r=v at q HA;clear h ha;go_enter Tryz.func116,Tryz.ntmps116;go_wp2_with fail;go_ret;exact⟨by rw[HA.out];simp;rfl,rfl⟩
def tgR (x:ThR) (i:InsR):Int:=if i.op=12 then adR x i.b.toNat i.imm else adR x i.a.toNat i.imm
theorem Z5y (x:ThR) (i:InsR):0<=tgR x i/\tgR x i<18446744073709551616:=by unfold tgR;split <;> exact Zb6 _ _ _
theorem Z40 (h:Hold w0 w (thA t c x*R)) (ha:0<=i.a/\i.a<8) (hb:0<=i.b/\i.b<8) (h0:0<=i.imm/\i.imm<=1000000) :
  Calls Tryz.prog 64 #[ptrV t,i.val] w fun e w'=>e = .returned (.int .u64 (tgR x i))/\Hold w0 w' (thA t c x*R):=by
 have HA:=hid (Z2o (g:=t) (r:=i.a.toNat) (i:=i.imm) (h.newBlk (t:=28) (cs:=i.cells)).swap (by omega) h0);have HB:=hid (Z2o (g:=t) (r:=i.b.toNat) (i:=i.imm) (h.newBlk (t:=28) (cs:=i.cells)).swap (by omega) h0);rw[show ((i.a.toNat:Nat):Int)=i.a by omega] at HA;rw[show ((i.b.toNat:Nat):Int)=i.b by omega] at HB;have H1:=hid (h.newBlk (t:=28) (cs:=i.cells));obtain⟨v,hv⟩:∃v,v=tgR x i:=⟨_,rfl⟩;rw[<- hv];have HV:=hid hv;clear h ha hb h0 hv;go_enter Tryz.func64,Tryz.ntmps64;go_upto_region 1 with fail
 have h1:=H1.out;generalize hW:w.alloc _=W at h1 HA HB |-;generalize w.heap.size=gi at h1 |-;clear hW H1;have q0:=h1.blk.some_ (i:=0) (u:=.int .i64 i.op) rfl;have q1:=h1.blk.some_ (i:=1) (u:=.int .i64 i.a) rfl;have q2:=h1.blk.some_ (i:=2) (u:=.int .i64 i.b) rfl;have q4:=h1.blk.some_ (i:=4) (u:=.int .i64 i.imm) rfl;have H1:=hid h1.drop;clear h1
 by_cases h12:i.op=12
 ·have HV:=hid (HV.out.trans (if_pos h12))
  rw[h12] at q0;clear h12 HA;go_wp2_with fail;refine HB.out.mono ?_;rintro e w' ⟨rfl,rfl⟩;go_wp2_with fail;go_ret;exact⟨by rw[HV.out];rfl,H1.out⟩
 ·have HV:=hid (HV.out.trans (if_neg h12))
  have e12:(i.op==12)=false:=beq_eq_false_iff_ne.2 h12;clear h12 HB;go_wp2_with fail;refine HA.out.mono ?_;rintro e w' ⟨rfl,rfl⟩;go_wp2_with fail;go_ret;exact⟨by rw[HV.out];rfl,H1.out⟩
theorem Zkm:∃i,Tryz.prog.info? 55=some i/\i.zero=some (.agg #[.int .i64 0,.int .i64 0,.int .u64 0])/\i.size=3/\i.bytes=24:=by
 have hi:=Z7v;revert hi
 cases Tryz.prog.info? 55 with
 | none=>intro hi;cases hi
 | some i =>
  intro hi;simp only[Option.map_some,Option.some.injEq,Prod.mk.injEq] at hi;exact⟨i,rfl,hi.1,hi.2.1,hi.2.2⟩
theorem Z7l (l:List ObR) (o:ObR):obL (l++[o])=obL l++[.int .i64 o.pc,.int .i64 o.kind,.int .u64 o.val]:=by unfold obL;simp
theorem Z1u (h:Hold w0 w (thA t c x*(obsA x.obs obs*R))) (hl:obs.length<=100000) :
  Calls Tryz.prog 55 #[ptrV t,.int .i64 kd,.int .u64 v] w fun e w'=>e = .returned (.tuple #[])/\∃ov,Hold w0 w' (thA t c {x with obs:=ov}*(obsA ov (obs++[⟨x.pc,kd,v⟩])*R)):=by
 obtain⟨iO,hiO,zo0,zo1,zo2⟩:=Zkm;obtain⟨n,hn⟩:∃n,n=obs.length:=⟨_,rfl⟩;obtain⟨ov0,hov⟩:∃v,v=x.obs:=⟨_,rfl⟩;obtain⟨pc,hpc⟩:∃v,v=x.pc:=⟨_,rfl⟩;have h:Hold w0 w (thA t c x*(rowS 55 3 ov0 n (obL obs)*R)):=by rw[hov,hn];exact h
 rw[<- hn] at hl;have HX:=hid (And.intro hov (And.intro hpc hn));clear hn hov hpc;replace h:=h.drew;go_enter Tryz.func55,Tryz.ntmps55;go_upto_region 0 with fail
 refine Z01 [17] (by kernel_rfl) ?_;generalize hW:w.drew=W1 at h |-;clear hW;have hsq:∀{w':World} {R':Asr},Hold w0 w' (thA t c x*R')->w'.cell? ⟨t,44,none⟩=some ov0/\w'.cell? ⟨t,32,none⟩=some (.int .i64 pc):=fun h=>⟨by rw[HX.out.1];exact h.th_obs,by rw[HX.out.2.1];exact h.th_pc⟩;refine Z04 (fun w'=>w'.cell? ⟨t,44,none⟩=some ov0/\w'.cell? ⟨t,32,none⟩=some (.int .i64 pc)) (fun _ _=>trivial) _ _ _ _ ?_;refine' wbk [true,true,true,true,true,true,true,true,true,true,true,true,true] 23 (hsq h) (fun wq hq=>?_) ?_;rotate_left
 ·simp only[Z08]
  obtain⟨q1,q2⟩:=hq
  repeat (go_big_quiet_step (fail))
  exact wpQuiet_nil rfl
 refine wbi 13 (fuel:=4) (fun QB hQB hQX=>?_);go_wp2_with fail;refine hQB.out _ _ (hsq (h.alloc _)) ?_;clear hQB hQX QB;refine wbi 14 (fuel:=3) (fun QB hQB hQX=>?_);go_wp2_with (at_builtin;refine Z0s rfl _ _ 53 rfl 55 iO (.agg #[.int .i64 0,.int .i64 0,.int .u64 0]) 3 24 Tryz.underlying53 hiO zo0 zo1 zo2 rfl (by decide) ov0 n (obL obs) [.int .i64 pc,.int .i64 kd,.int .u64 v] _ rfl (h.pk2 [1,0]) _ rfl rfl rfl rfl (by omega) (by decide) ?_);intro A2 c2 y4 h5;have h2:=h5.swap;clear h5 h;go_wp2_with fail;refine hQB.out _ _ (hsq h2) ?_;clear hQB hQX QB;refine' wbz [false,false,false,false,false,false,false,false,false,false,false,false,false,false,false,true,true] 23 (hsq h2) ?_;refine wbj 17 (fuel:=0) (fun QB hQB hQX=>?_);have p1:=h2.th_obs;have z1:=h2.thZ 44;have H3:=hid (h2.th_obs_set (.slice A2 (n+1) c2));clear h2;go_wp2_with fail;refine hQB.out _ _ ?_;clear hQB hQX QB p1 z1;refine Z06 (by kernel_rfl) ?_;refine Z02 (by kernel_rfl) ?_ _;go_wp2_with fail
 go_end0
 refine⟨rfl,.slice A2 (n+1) c2,?_⟩;have h3:=H3.out;have hp:=HX.out.2.1;have hn2:=HX.out.2.2;clear hsq HX H3;subst hp;have e1:(obs++[(⟨x.pc,kd,v⟩:ObR)]).length=n+1:=by rw[List.length_append,<- hn2];rfl
 show Hold w0 _ (thA t c {x with obs:=.slice A2 (n+1) c2}*(rowS 55 3 (.slice A2 (n+1) c2) (obs++[(⟨x.pc,kd,v⟩:ObR)]).length (obL (obs++[(⟨x.pc,kd,v⟩:ObR)]))*R));rw[e1,Z7l];exact h3
theorem Z3o (h:Hold w0 w (thA t c x*(obsA x.obs obs*R))) (hl:obs.length<=100000) (ha:0<=i.a/\i.a<8) (hc:x.code = .slice A n cp) (h0:0<=x.pc/\x.pc<=1000000) :
  Calls Tryz.prog 123 #[ptrV t,i.val,.int .u64 v] w fun e w'=>e = .returned (.tuple #[])/\∃ov rg kd,(kd=4\/kd=5)/\Hold w0 w' (thA t c {x with regs:=rg,obs:=ov,pc:=x.pc+1,done:=x.pc+1==(n:Int)}*(obsA ov (obs++[⟨x.pc,kd,v⟩])*R)):=by
 have H1:=hid (h.newBlk (t:=28) (cs:=i.cells));have HX:=hid (And.intro hc h0);obtain⟨r,hr⟩:∃r:Nat,i.a=(r:Int):=⟨i.a.toNat,by omega⟩;have hr8:r<8:=by omega
 have k0:(0:Int)<=(r:Int):=by omega
 have k1:(r:Int)<8:=by omega
 have HI:=hid hr;clear h ha hc h0 hr;go_enter Tryz.func123,Tryz.ntmps123;go_upto_region 1 with fail
 have h1:=H1.out;generalize hW:w.alloc _=W at h1 |-;generalize w.heap.size=gi at h1 |-;clear hW H1;have q0:=h1.blk.some_ (i:=0) (u:=.int .i64 i.op) rfl
 by_cases h12:i.op=12
 ·rw[h12] at q0
  have e12:((12:Int)==12)=true:=rfl;go_upto_region 2 with fail
  replace h1:=h1.drew;clear q0 h12;have hS:W.drew.cell? ⟨gi,1,none⟩=some (.int .i64 (r:Int)):=by
   have:=h1.blk.some_ (i:=1) (u:=.int .i64 i.a) rfl;rw[HI.out] at this;exact this
  have HS:=hid hS;clear hS;refine Z01 [8] (by kernel_rfl) ?_;generalize hW:W.drew=W1 at h1 HS |-;clear hW;refine Z04 (fun w'=>w'.cell? ⟨gi,1,none⟩=some (.int .i64 (r:Int))) (fun _ _=>trivial) _ _ _ _ ?_;refine' wbz [true,true,false,true,true,true,true] 25 HS.out ?_;refine' wbk [false,false,true,false,false,false,false,true] 25 HS.out (fun wq hq=>?_) ?_;rotate_left
  ·simp only[Z08]
   have q2:=hq
   repeat (go_big_quiet_step (fail))
   exact wpQuiet_nil rfl
  refine wbj 8 (fuel:=0) (fun QB hQB hQX=>?_);have p1:=h1.drop.th_regs hr8;have z1:=h1.drop.thZ (33+r);have H2:=hid ((h1.drop).th_regs_set hr8 v);clear h1;go_wp2_with fail;refine hQB.out _ _ ?_;clear hQB hQX QB p1 z1 HS;refine Z06 (by kernel_rfl) ?_;refine Z02 (by kernel_rfl) ?_ _;have h2:=H2.out;go_upto_region 3 with fail
  generalize hW:World.setCell _ _ _=W2 at h2 |-;clear hW H2;have HO:=hid (Z1u (kd:=4) (v:=v) h2 hl);clear h2;go_wp2_with fail;refine HO.out.mono ?_;rintro e w5 ⟨rfl,ov,h5⟩;have HN:=hid (Z28 (n:=n) (cp:=cp) (A:=A) h5 HX.out.1 HX.out.2);clear h5 HO;go_wp2_with fail;refine HN.out.mono ?_;rintro e w6 ⟨rfl,h6⟩;have H6:=hid h6;clear h6 HN;go_wp2_with fail
  go_end0
  exact⟨rfl,ov,upR x.regs r v,4,.inl rfl,H6.out⟩
 ·have e12:(i.op==12)=false:=beq_eq_false_iff_ne.2 h12
  have HO:=hid (Z1u (kd:=5) (v:=v) h1.drop hl);clear h1 h12;go_wp2_with fail;refine HO.out.mono ?_;rintro e w5 ⟨rfl,ov,h5⟩;have HN:=hid (Z28 (n:=n) (cp:=cp) (A:=A) h5 HX.out.1 HX.out.2);clear h5 HO;go_wp2_with fail;refine HN.out.mono ?_;rintro e w6 ⟨rfl,h6⟩;have H6:=hid h6;clear h6 HN;go_wp2_with fail
  go_end0
  exact⟨rfl,ov,x.regs,5,.inr rfl,H6.out⟩
end
end Go.Proofs.YtmlfangeanmmeaaGreatDoor
