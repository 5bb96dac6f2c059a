/-
 What the proof of TopAlone leans on, part 6 of 49: Reg3, Inv. No statement of its own.
-/
import Derived.Test.YtmlfangeanmmeaaGreatDoorAm4
import Derived.StillTail
set_option maxHeartbeats 16000000
set_option maxRecDepth 8000
set_option linter.unusedVariables false
namespace Go.Proofs.YtmlfangeanmmeaaGreatDoor
open Go.RowKit
section
variable {P:Program} {ops:Array Oper} {Q:Exit->Act->World->Prop} {md:Region.Mode} {S S':World->Prop} {brk:List Nat}
def Z44 (brk:List Nat) (listed:Array Bool):Prop:=∀b∈brk,listed.getD b false=false
theorem Z36 {listed:Array Bool} {j:Nat} (h:Z44 brk listed) (hj:j ∉ brk):Z44 brk (listed.setIfInBounds j true):=fun b hb=>by
 have hne:j≠b:=fun e=>hj (e ▸ hb);rw[getD_set_ne false hne];exact h b hb
theorem Z2f {listed:Array Bool} {j:Nat} (h:Z44 brk (listed.setIfInBounds j true)):Z44 brk listed:=fun b hb=>by
 have:=h b hb
 by_cases hne:j=b
 ·subst hne
  by_cases hl:j<listed.size
  ·simp[hl] at this
  ·simp[Array.getElem?_eq_none (Nat.le_of_not_lt hl)]
 ·rwa [getD_set_ne false hne] at this
def Z0k (P:Program) (md:Region.Mode) (ops:Array Oper) (Q:Exit->Act->World->Prop) (brk:List Nat) (S:World->Prop):Nat->Array Bool->Act->World->Prop
 | 0,listed,a,w=>Region.ready md ops listed=[]/\Q .normal a w
 | fuel+1,listed,a,w =>
  (Region.ready md ops listed=[]->Q .normal a w) /\
  ∀i∈Region.ready md ops listed,wpOp P ops Q i (fun a' w'=>(Z44 brk (listed.setIfInBounds i true)->S w')/\Z0k P md ops Q brk S fuel (listed.setIfInBounds i true) a' w') a w
theorem Z50:∀(fuel:Nat) (listed:Array Bool) (a:Act) (w:World),Z0k P md ops Q brk S fuel listed a w->wpAny P md ops Q fuel listed a w
 | 0,_,_,_,h=>h
 | fuel+1,_,_,_,h=>⟨h.1,fun i hi=>wpOp_mono (fun a' w' h'=>Z50 fuel _ a' w' h'.2) (h.2 i hi)⟩
theorem Z04 (S':World->Prop) (hS:∀w,S' w->S w):∀(fuel:Nat) (listed:Array Bool) (a:Act) (w:World),Z0k P md ops Q brk S' fuel listed a w->Z0k P md ops Q brk S fuel listed a w
 | 0,_,_,_,h=>h
 | fuel+1,_,_,_,h=>⟨h.1,fun i hi=>wpOp_mono (fun a' w' h'=>⟨fun hb=>hS _ (h'.1 hb),Z04 S' hS fuel _ a' w' h'.2⟩) (h.2 i hi)⟩
theorem Z5e {i:Nat} {oi:Oper} {v:Value} (hi:ops[i]?=some oi) (hsel:∀(j:Nat) (o:Oper) cs b,ops[j]?=some o->o.op ≠ .select cs b)
  (hQ:∀c a w,Q (.panic c) (a.put oi.dst v) w->Q (.panic c) a w) (hib:i ∉ brk) (hwait:∀b∈brk,Region.waitsFor md ops b i=true) :
  ∀(fuel:Nat) (listed:Array Bool) (a:Act) (w:World),
   (∀j oj,ops[j]?=some oj->j≠i->listed.getD j true=false->(∀e∈oj.after,Region.binds md e=true->e.on≠i)->oi.apart ops oj=true) ->
   i∈Region.ready md ops listed->Z44 brk listed->SameV P ops S oi v a->S w ->
   Z0k P md ops Q brk S fuel (listed.setIfInBounds i true) (a.put oi.dst v) w->Z0k P md ops Q brk S (fuel+1) listed a w:=by
 intro fuel
 induction fuel with
 | zero =>
  intro listed a w _ hr hnb hy hS H;refine⟨fun h=>(by rw[h] at hr;cases hr),fun j hj=>?_⟩
  by_cases hji:j=i
  ·subst hji;exact hy.wpOp hi hS ⟨fun _=>hS,H⟩
  ·have:=ready_mono hj hji
   rw[H.1] at this
   cases this
 | succ fuel ih =>
  intro listed a w hfree hr hnb hy hS H;refine⟨fun h=>(by rw[h] at hr;cases hr),fun j hj=>?_⟩
  by_cases hji:j=i
  ·subst hji;exact hy.wpOp hi hS ⟨fun _=>hS,H⟩
  ·have h1:=H.2 j (ready_mono hj hji)
   obtain⟨hjun,oj,hoj,hall⟩:=mem_ready.1 hj;have hnot:∀e∈oj.after,Region.binds md e=true->e.on≠i:=fun e he hb heq=>by
    have h1:=hall e he hb;have h0:=(mem_ready.1 hr).1;rw[heq] at h1;rcases Nat.lt_or_ge i listed.size with h'|h'
    ·simp[h'] at h0 h1;rw[h0] at h1;cases h1
    ·simp[Array.getElem?_eq_none h'] at h1
   have hjb:j ∉ brk:=fun hb=>by
    obtain⟨oj',hoj',e,he,hbi,heq⟩:=Region.waitsFor_spec (hwait j hb);rw[hoj] at hoj';injection hoj' with hoj'
    subst hoj';exact hnot e he hbi heq
   have hnb1:=Z36 hnb hjb;have hnb2:=Z36 (Z36 hnb hib) hjb;have h2:=Z4z hoj (hfree j oj hoj hji hjun hnot) (fun cs b=>hsel i oi cs b hi) (fun cs b=>hsel j oj cs b hoj) hQ hy h1;have hfree':∀k ok,ops[k]?=some ok->k≠i->(listed.setIfInBounds j true).getD k true=false ->
     (∀e∈ok.after,Region.binds md e=true->e.on≠i)->oi.apart ops ok=true:=fun k ok hk hki hun hno=>by
    refine hfree k ok hk hki ?_ hno
    by_cases hjk:j=k
    ·subst hjk;exact hjun
    ·rw[getD_set_ne true hjk] at hun;exact hun
   refine wpOp_mono (fun a' w' h3=>⟨fun _=>h3.2.1 hnb2,ih (listed.setIfInBounds j true) a' w' hfree' (ready_mono hr (Ne.symm hji)) hnb1 h3.1 (h3.2.1 hnb2) ?_⟩) h2;rw[Array.setIfInBounds_comm _ _ hji];exact h3.2.2
def brkB (md:Region.Mode) (ops:Array Oper) (brk:List Nat) (is:List Nat):Bool:=is.all fun i=>!(brk.contains i) && brk.all fun b=>Region.waitsFor md ops b i
def nobB (brk:List Nat) (listed:Array Bool):Bool:=brk.all fun b=>listed.getD b false==false
theorem Zdy {listed:Array Bool} (h:nobB brk listed=true):Z44 brk listed:=fun b hb=>by simpa using List.all_eq_true.1 h b hb
theorem Z3k (hs:Region.noSelect ops=true) (hQ:∀c (t:Array Value) (a:Act) w,Q (.panic c) {a with tmps:=t} w->Q (.panic c) a w) {A:Act} {w:World} (hS:S w) {n:Nat} :
  ∀(is:List Nat) (l:List Oper),(∀(t i:Nat),is[t]?=some i->ops[i]?=l[t]?)->is.length=l.length->∀(fuel:Nat) (listed:Array Bool) (a:Act),Z6d md ops is listed=true->brkB md ops brk is=true->Z44 brk listed->dstB n l=true->a.tmps.size=n ->
   (∀w',S w'->wpQuiet P ops (fun w''=>w''=w') (fun a'=>a'=A) l a)->Z0k P md ops Q brk S fuel (Z1f is listed) A w->Z0k P md ops Q brk S (fuel+is.length) listed a w
 | [],l,_,hlen,fuel,listed,a,_,_,_,_,_,hrun,h=>by
  obtain rfl:l=[]:=List.eq_nil_of_length_eq_zero (by simpa using hlen.symm);have:a=A:=hrun w hS;subst this;exact h
 | i::is,[],_,hlen,_,_,_,_,_,_,_,_,_,_=>by simp at hlen
 | i::is,o::l,hget,hlen,fuel,listed,a,hB,hK,hnb,hD,hn,hrun,h=>by
  have hi:ops[i]?=some o:=by simpa using hget 0 i rfl
  simp only[Z6d,Bool.and_eq_true] at hB;obtain⟨hf,hr,hB'⟩:=hB;simp only[brkB,List.all_cons,Bool.and_eq_true] at hK;obtain⟨⟨hib,hwait⟩,hK'⟩:=hK;have hib':i ∉ brk:=by simpa using hib
  have hwait':∀b∈brk,Region.waitsFor md ops b i=true:=fun b hb=>List.all_eq_true.1 hwait b hb;simp only[dstB,Bool.and_eq_true] at hD;obtain⟨hd,hD'⟩:=hD
  cases hdst:o.dst with
  | none=>simp[hdst] at hd
  | some d =>
   simp only[hdst,Bool.and_eq_true,decide_eq_true_eq] at hd;obtain⟨v,hv⟩:∃v,A.tmps[d]?=some v:=by
    have h0:=hrun w hS;have hsz:A.tmps.size=n:=(Z3e _ _ h0).trans hn;have hdn:d<A.tmps.size:=by rw[hsz];exact hd.1
    exact⟨A.tmps[d]'hdn,Array.getElem?_eq_getElem hdn⟩
   have hval:∀u,(∀w',S w'->wpQuiet P ops (fun w''=>w''=w') (fun a'=>a'=A) l (a.put o.dst u)->u=v):=fun u w' _ hq=>by
    have h1:=Z2r l _ d hd.2 hq;rw[hv,hdst] at h1;simp[Act.put,hn,hd.1] at h1;exact h1.symm
   have hsame:SameV P ops S o v a/\∀w',S w'->wpQuiet P ops (fun w''=>w''=w') (fun a'=>a'=A) l (a.put o.dst v):=by
    by_cases hw:Region.wanted o (yielded ops a.tmps)=true
    ·have hall:∀w',S w'->o.quietAt P a (fun w''=>w''=w') w' v/\wpQuiet P ops (fun w''=>w''=w') (fun a'=>a'=A) l (a.put o.dst v):=fun w' hS'=>by
      have h0:=hrun w' hS';unfold wpQuiet at h0;rw[if_pos hw] at h0;obtain⟨u,h1,h2⟩:=h0;obtain rfl:=hval u w' hS' h2;exact⟨h1 w' rfl,h2⟩
     exact⟨.inl ⟨hw,fun w' hS'=>(hall w' hS').1⟩,fun w' hS'=>(hall w' hS').2⟩
    ·have hall:∀w',S w'->wpQuiet P ops (fun w''=>w''=w') (fun a'=>a'=A) l (a.put o.dst undef):=fun w' hS'=>by
      have h0:=hrun w' hS';unfold wpQuiet at h0;rwa [if_neg hw] at h0
     have hu:=hval undef w hS (hall w hS);subst hu;exact⟨.inr ⟨by simpa using hw,rfl⟩,hall⟩
   refine Z5e hi (Region.noSelect_spec hs) (fun c a w h'=>by rw[hdst] at h';exact hQ c _ a w h') hib' hwait' (fuel+is.length) listed a w (Region.free_spec hi hf) (by simpa using hr) hnb hsame.1 hS ?_;exact Z3k hs hQ hS is l (fun t i' ht=>by simpa using hget (t+1) i' (by simpa using ht)) (by simpa using hlen) fuel _ _ hB' hK' (Z36 hnb hib') hD' (by rw[hdst];simpa [Act.put] using hn) hsame.2 h
theorem Z5w {ol:List Oper} (m:List Bool) (n:Nat) {A:Act} {a:Act} {w:World} {fuel:Nat} {listed listed':Array Bool} (hlen:(Z0o 0 m).length=(Z08 m ol).length)
  (hs:Region.noSelect ol.toArray=true) (hB:Z6d md ol.toArray (Z0o 0 m) listed=true) (hK:brkB md ol.toArray brk (Z0o 0 m)=true) (hN:nobB brk listed=true) (hD:dstB n (Z08 m ol)=true) (hL:Z1f (Z0o 0 m) listed=listed') (hf:(Z0o 0 m).length<=fuel)
  (hQ:∀c (t:Array Value) (a:Act) w,Q (.panic c) {a with tmps:=t} w->Q (.panic c) a w) (hn:a.tmps.size=n) (hS:S w)
  (hrun:∀w',S w'->wpQuiet P ol.toArray (fun w''=>w''=w') (fun a'=>a'=A) (Z08 m ol) a)
  (h:Z0k P md ol.toArray Q brk S (fuel - (Z0o 0 m).length) listed' A w):Z0k P md ol.toArray Q brk S fuel listed a w:=by
 subst hL;have hk:fuel - (Z0o 0 m).length+(Z0o 0 m).length=fuel:=by omega
 have:=Z3k (ops:=ol.toArray) hs hQ hS (Z0o 0 m) (Z08 m ol) (Z62 m ol 0 (fun j=>by simp) hlen) hlen _ listed a hB hK (Zdy hN) hD hn hrun h;rwa [hk] at this
theorem Z74 {i:Nat} {oi:Oper} {v:Value} (hi:ops[i]?=some oi) (hsel:∀(j:Nat) (o:Oper) cs b,ops[j]?=some o->o.op ≠ .select cs b)
  (hQ:∀c a w,Q (.panic c) (a.put oi.dst v) w->Q (.panic c) a w) (hib:i ∉ brk) :
  ∀(fuel:Nat) (listed:Array Bool) (a:Act) (w:World),
   (∀j oj,ops[j]?=some oj->j≠i->listed.getD j true=false->(∀e∈oj.after,Region.binds md e=true->e.on≠i)->oi.apart ops oj=true) ->
   i∈Region.ready md ops listed->SameV P ops (fun _=>True) oi v a->(Z44 brk listed->S w) ->
   Z0k P md ops Q brk S fuel (listed.setIfInBounds i true) (a.put oi.dst v) w->Z0k P md ops Q brk S (fuel+1) listed a w:=by
 intro fuel
 induction fuel with
 | zero =>
  intro listed a w _ hr hy hS H;refine⟨fun h=>(by rw[h] at hr;cases hr),fun j hj=>?_⟩
  by_cases hji:j=i
  ·subst hji;exact hy.wpOp hi trivial ⟨fun hb=>hS (Z2f hb),H⟩
  ·have:=ready_mono hj hji
   rw[H.1] at this
   cases this
 | succ fuel ih =>
  intro listed a w hfree hr hy hS H;refine⟨fun h=>(by rw[h] at hr;cases hr),fun j hj=>?_⟩
  by_cases hji:j=i
  ·subst hji;exact hy.wpOp hi trivial ⟨fun hb=>hS (Z2f hb),H⟩
  ·have h1:=H.2 j (ready_mono hj hji)
   obtain⟨hjun,oj,hoj,hall⟩:=mem_ready.1 hj;have hnot:∀e∈oj.after,Region.binds md e=true->e.on≠i:=fun e he hb heq=>by
    have h1:=hall e he hb;have h0:=(mem_ready.1 hr).1;rw[heq] at h1;rcases Nat.lt_or_ge i listed.size with h'|h'
    ·simp[h'] at h0 h1;rw[h0] at h1;cases h1
    ·simp[Array.getElem?_eq_none h'] at h1
   have h2:=Z4z hoj (hfree j oj hoj hji hjun hnot) (fun cs b=>hsel i oi cs b hi) (fun cs b=>hsel j oj cs b hoj) hQ hy h1;have hfree':∀k ok,ops[k]?=some ok->k≠i->(listed.setIfInBounds j true).getD k true=false ->
     (∀e∈ok.after,Region.binds md e=true->e.on≠i)->oi.apart ops ok=true:=fun k ok hk hki hun hno=>by
    refine hfree k ok hk hki ?_ hno
    by_cases hjk:j=k
    ·subst hjk;exact hjun
    ·rw[getD_set_ne true hjk] at hun;exact hun
   have hset:∀w',(Z44 brk ((listed.setIfInBounds i true).setIfInBounds j true)->S w')->Z44 brk (listed.setIfInBounds j true)->S w':=fun w' h hb=>h (by
    rw[Array.setIfInBounds_comm _ _ (Ne.symm hji)];exact Z36 hb hib)
   refine wpOp_mono (fun a' w' h3=>⟨hset w' h3.2.1,ih (listed.setIfInBounds j true) a' w' hfree' (ready_mono hr (Ne.symm hji)) h3.1 (hset w' h3.2.1) ?_⟩) h2;rw[Array.setIfInBounds_comm _ _ hji];exact h3.2.2
def offB (brk:List Nat) (is:List Nat):Bool:=is.all fun i=>!(brk.contains i)
theorem Z34 (hs:Region.noSelect ops=true) (hQ:∀c (t:Array Value) (a:Act) w,Q (.panic c) {a with tmps:=t} w->Q (.panic c) a w) {A:Act} {w:World} {n:Nat} :
  ∀(is:List Nat) (l:List Oper),(∀(t i:Nat),is[t]?=some i->ops[i]?=l[t]?)->is.length=l.length->∀(fuel:Nat) (listed:Array Bool) (a:Act),(Z44 brk listed->S w)->Z6d md ops is listed=true->offB brk is=true->dstB n l=true->a.tmps.size=n ->
   (∀w',True->wpQuiet P ops (fun w''=>w''=w') (fun a'=>a'=A) l a)->Z0k P md ops Q brk S fuel (Z1f is listed) A w->Z0k P md ops Q brk S (fuel+is.length) listed a w
 | [],l,_,hlen,fuel,listed,a,_,_,_,_,_,hrun,h=>by
  obtain rfl:l=[]:=List.eq_nil_of_length_eq_zero (by simpa using hlen.symm);have:a=A:=hrun w trivial;subst this;exact h
 | i::is,[],_,hlen,_,_,_,_,_,_,_,_,_,_=>by simp at hlen
 | i::is,o::l,hget,hlen,fuel,listed,a,hS,hB,hK,hD,hn,hrun,h=>by
  have hi:ops[i]?=some o:=by simpa using hget 0 i rfl
  simp only[Z6d,Bool.and_eq_true] at hB;obtain⟨hf,hr,hB'⟩:=hB;simp only[offB,List.all_cons,Bool.and_eq_true] at hK;obtain⟨hib,hK'⟩:=hK;have hib':i ∉ brk:=by simpa using hib
  simp only[dstB,Bool.and_eq_true] at hD;obtain⟨hd,hD'⟩:=hD
  cases hdst:o.dst with
  | none=>simp[hdst] at hd
  | some d =>
   simp only[hdst,Bool.and_eq_true,decide_eq_true_eq] at hd;obtain⟨v,hv⟩:∃v,A.tmps[d]?=some v:=by
    have h0:=hrun w trivial;have hsz:A.tmps.size=n:=(Z3e _ _ h0).trans hn;have hdn:d<A.tmps.size:=by rw[hsz];exact hd.1
    exact⟨A.tmps[d]'hdn,Array.getElem?_eq_getElem hdn⟩
   have hval:∀u,(∀w',True->wpQuiet P ops (fun w''=>w''=w') (fun a'=>a'=A) l (a.put o.dst u)->u=v):=fun u w' _ hq=>by
    have h1:=Z2r l _ d hd.2 hq;rw[hv,hdst] at h1;simp[Act.put,hn,hd.1] at h1;exact h1.symm
   have hsame:SameV P ops (fun _=>True) o v a/\∀w',True->wpQuiet P ops (fun w''=>w''=w') (fun a'=>a'=A) l (a.put o.dst v):=by
    by_cases hw:Region.wanted o (yielded ops a.tmps)=true
    ·have hall:∀w',True->o.quietAt P a (fun w''=>w''=w') w' v/\wpQuiet P ops (fun w''=>w''=w') (fun a'=>a'=A) l (a.put o.dst v):=fun w' hS'=>by
      have h0:=hrun w' hS';unfold wpQuiet at h0;rw[if_pos hw] at h0;obtain⟨u,h1,h2⟩:=h0;obtain rfl:=hval u w' hS' h2;exact⟨h1 w' rfl,h2⟩
     exact⟨.inl ⟨hw,fun w' hS'=>(hall w' hS').1⟩,fun w' hS'=>(hall w' hS').2⟩
    ·have hall:∀w',True->wpQuiet P ops (fun w''=>w''=w') (fun a'=>a'=A) l (a.put o.dst undef):=fun w' hS'=>by
      have h0:=hrun w' hS';unfold wpQuiet at h0;rwa [if_neg hw] at h0
     have hu:=hval undef w trivial (hall w trivial);subst hu;exact⟨.inr ⟨by simpa using hw,rfl⟩,hall⟩
   refine Z74 hi (Region.noSelect_spec hs) (fun c a w h'=>by rw[hdst] at h';exact hQ c _ a w h') hib' (fuel+is.length) listed a w (Region.free_spec hi hf) (by simpa using hr) hsame.1 hS ?_;exact Z34 hs hQ is l (fun t i' ht=>by simpa using hget (t+1) i' (by simpa using ht)) (by simpa using hlen) fuel _ _ (fun hb=>hS (Z2f hb)) hB' hK' hD' (by rw[hdst];simpa [Act.put] using hn) hsame.2 h
theorem Z51 {ol:List Oper} (m:List Bool) (n:Nat) {A:Act} {a:Act} {w:World} {fuel:Nat} {listed listed':Array Bool} (hlen:(Z0o 0 m).length=(Z08 m ol).length)
  (hs:Region.noSelect ol.toArray=true) (hB:Z6d md ol.toArray (Z0o 0 m) listed=true) (hK:offB brk (Z0o 0 m)=true) (hD:dstB n (Z08 m ol)=true) (hL:Z1f (Z0o 0 m) listed=listed') (hf:(Z0o 0 m).length<=fuel)
  (hQ:∀c (t:Array Value) (a:Act) w,Q (.panic c) {a with tmps:=t} w->Q (.panic c) a w) (hn:a.tmps.size=n) (hS:S w)
  (hrun:∀w',True->wpQuiet P ol.toArray (fun w''=>w''=w') (fun a'=>a'=A) (Z08 m ol) a)
  (h:Z0k P md ol.toArray Q brk S (fuel - (Z0o 0 m).length) listed' A w):Z0k P md ol.toArray Q brk S fuel listed a w:=by
 subst hL;have hk:fuel - (Z0o 0 m).length+(Z0o 0 m).length=fuel:=by omega
 have:=Z34 (ops:=ol.toArray) hs hQ (Z0o 0 m) (Z08 m ol) (Z62 m ol 0 (fun j=>by simp) hlen) hlen _ listed a (fun _=>hS) hB hK hD hn hrun h;rwa [hk] at this
theorem Z3z {ol:List Oper} (m:List Bool) {i:Nat} {o:Oper} {a:Act} {w:World} {K:Act->World->Prop} (hi:Z0o 0 m=[i]) (ho:Z08 m ol=[o])
  (h:∀QB:Exit->Act->World->Prop,Shut (∀a' w',K a' w'->QB .normal a' w')->Shut (∀e a' w',e ≠ .normal->Q e a' w'->QB e a' w') ->
   wpList P ol.toArray QB (Z08 m ol) a w):wpOp P ol.toArray Q i K a w:=by
 have hoi:ol.toArray[i]?=some o:=by
  have:=Z62 (ops:=ol.toArray) m ol 0 (fun j=>by simp) (by rw[hi,ho];rfl) 0 i (by rw[hi];rfl);rw[this,ho];rfl
 have h0:=h (fun e a' w'=>match e with
  | .normal=>K a' w'
  | e=>Q e a' w') (fun a' w' h1=>h1) (fun e a' w' h1 h2=>by cases e <;> first|exact absurd rfl h1|exact h2)
 rw[ho] at h0;unfold wpList at h0;unfold wpOp;simp only[hoi]
 split
 ·rename_i hw
  rw[if_pos hw] at h0;rcases h0 with h0|⟨ha,hl⟩
  ·left
   unfold Oper.wp at *;generalize (execOp a.eval o).run P w=r at *
   cases r with
   | ok n w' =>
    cases n <;> simp only[Oper.upon,wpList] at h0 |- <;>
     first
      | exact h0
      | exact Calls.mono h0 (fun e w'' he=>by cases e <;> exact he)
   | halt x w'=>cases x <;> simp only[Oper.upon] at h0 |- <;> exact h0
  ·exact .inr ⟨ha,hl⟩
 ·rename_i hw
  rw[if_neg hw] at h0;simpa only[wpList] using h0
theorem Z6q {ol:List Oper} (m:List Bool) {i:Nat} {o:Oper} {a:Act} {w:World} {fuel:Nat} {listed:Array Bool} (hi:Z0o 0 m=[i]) (ho:Z08 m ol=[o])
  (hr:Region.ready md ol.toArray listed=[i])
  (h:∀QB:Exit->Act->World->Prop,Shut (∀a' w',S w'->Z0k P md ol.toArray Q brk S fuel (listed.setIfInBounds i true) a' w'->QB .normal a' w')->Shut (∀e a' w',e ≠ .normal->Q e a' w'->QB e a' w') ->
   wpList P ol.toArray QB (Z08 m ol) a w):Z0k P md ol.toArray Q brk S (fuel+1) listed a w:=by
 refine⟨fun h0=>absurd (hr ▸ h0) (by simp),hr ▸ fun j hj=>?_⟩;obtain rfl:j=i:=by simpa using hj
 exact Z3z m hi ho fun QB h1 h2=>h QB (fun a' w' hS hw=>h1 a' w' ⟨fun _=>hS,hw⟩) h2
theorem Z6p {ol:List Oper} (m:List Bool) {i:Nat} {o:Oper} {a:Act} {w:World} {fuel:Nat} {listed:Array Bool} (hi:Z0o 0 m=[i]) (ho:Z08 m ol=[o])
  (hr:Region.ready md ol.toArray listed=[i]) (hb:nobB brk (listed.setIfInBounds i true)=false)
  (h:∀QB:Exit->Act->World->Prop,Shut (∀a' w',Z0k P md ol.toArray Q brk S fuel (listed.setIfInBounds i true) a' w'->QB .normal a' w')->Shut (∀e a' w',e ≠ .normal->Q e a' w'->QB e a' w') ->
   wpList P ol.toArray QB (Z08 m ol) a w):Z0k P md ol.toArray Q brk S (fuel+1) listed a w:=by
 refine⟨fun h0=>absurd (hr ▸ h0) (by simp),hr ▸ fun j hj=>?_⟩;obtain rfl:j=i:=by simpa using hj
 have hno:¬ Z44 brk (listed.setIfInBounds j true):=fun hn=>by
  have:nobB brk (listed.setIfInBounds j true)=true:=List.all_eq_true.2 fun b hb=>by simpa using hn b hb
  rw[hb] at this
  cases this
 exact Z3z m hi ho fun QB h1 h2=>h QB (fun a' w' hw=>h1 a' w' ⟨fun hn=>absurd hn hno,hw⟩) h2
theorem Z0f {ol:List Oper} (m m2:List Bool) {i j:Nat} {o o2:Oper} {a:Act} {w:World} {fuel:Nat} {listed:Array Bool} (hi:Z0o 0 m=[i]) (ho:Z08 m ol=[o]) (hi2:Z0o 0 m2=[j]) (ho2:Z08 m2 ol=[o2])
  (hr:Region.ready md ol.toArray listed=[i,j])
  (h:∀QB:Exit->Act->World->Prop,Shut (∀a' w',S w'->Z0k P md ol.toArray Q brk S fuel (listed.setIfInBounds i true) a' w'->QB .normal a' w')->Shut (∀e a' w',e ≠ .normal->Q e a' w'->QB e a' w') ->
   wpList P ol.toArray QB (Z08 m ol) a w)
  (h2:∀QB:Exit->Act->World->Prop,Shut (∀a' w',S w'->Z0k P md ol.toArray Q brk S fuel (listed.setIfInBounds j true) a' w'->QB .normal a' w')->Shut (∀e a' w',e ≠ .normal->Q e a' w'->QB e a' w') ->
   wpList P ol.toArray QB (Z08 m2 ol) a w):Z0k P md ol.toArray Q brk S (fuel+1) listed a w:=by
 refine⟨fun h0=>absurd (hr ▸ h0) (by simp),hr ▸ fun k hk=>?_⟩;rcases List.mem_cons.1 hk with rfl|hk
 ·exact Z3z m hi ho fun QB h1 h3=>h QB (fun a' w' hS hw=>h1 a' w' ⟨fun _=>hS,hw⟩) h3
 ·obtain rfl:k=j:=by simpa using hk
  exact Z3z m2 hi2 ho2 fun QB h1 h3=>h2 QB (fun a' w' hS hw=>h1 a' w' ⟨fun _=>hS,hw⟩) h3
theorem Z02 {listed:Array Bool} {a:Act} {w:World} (hr:Region.ready md ops listed=[]) (h:Q .normal a w):∀fuel,Z0k P md ops Q brk S fuel listed a w
 | 0=>⟨hr,h⟩
 | _+1=>⟨fun _=>h,by rw[hr];simp⟩
theorem Z92:∀(fuel:Nat) (listed:Array Bool) (a:Act) (w:World),¬ Z44 brk listed->Z0k P md ops Q [] (fun _=>True) fuel listed a w->Z0k P md ops Q brk S fuel listed a w
 | 0,_,_,_,_,h=>h
 | fuel+1,listed,_,_,hn,h=>⟨h.1,fun i hi=>wpOp_mono (fun a' w' h'=>⟨fun hb=>absurd (Z2f hb) hn,Z92 fuel _ a' w' (fun hb=>hn (Z2f hb)) h'.2⟩) (h.2 i hi)⟩
theorem Z06 {fuel:Nat} {listed:Array Bool} {a:Act} {w:World} (hb:nobB brk listed=false) (h:Z0k P md ops Q [] (fun _=>True) fuel listed a w):Z0k P md ops Q brk S fuel listed a w :=
 Z92 fuel listed a w (fun hn=>by
  have:nobB brk listed=true:=List.all_eq_true.2 fun b hb=>by simpa using hn b hb
  rw[hb] at this
  cases this) h
theorem Z01 (brk:List Nat) {id:Nat} {ol:List Oper} {a:Act} {w:World} (hm:P.follows .mixedOrders=true)
  (h:Z0k P .any ol.toArray Q brk (fun _=>True) ol.toArray.size (Array.replicate ol.toArray.size false) a w.drew):(Code.region id ol.toArray true).wp P Q a w :=
 wp_region_any hm (Z50 _ _ _ _ h)
theorem wbk {ol:List Oper} (m:List Bool) (n:Nat) {A:Act} {a:Act} {w:World} {fuel:Nat} {listed:Array Bool} (hS:S w)
  (hrun:∀w',S w'->wpQuiet P ol.toArray (fun w''=>w''=w') (fun a'=>a'=A) (Z08 m ol) a)
  (h:Z0k P md ol.toArray Q brk S (fuel - (Z0o 0 m).length) (Z1f (Z0o 0 m) listed) A w)
  (hlen:(Z0o 0 m).length=(Z08 m ol).length:=by exact rfl) (hs:Region.noSelect ol.toArray=true:=by kernel_rfl) (hB:Z6d md ol.toArray (Z0o 0 m) listed=true:=by kernel_rfl)
  (hK:brkB md ol.toArray brk (Z0o 0 m)=true:=by kernel_rfl) (hN:nobB brk listed=true:=by kernel_rfl) (hD:dstB n (Z08 m ol)=true:=by kernel_rfl) (hf:(Z0o 0 m).length<=fuel:=by decide)
  (hQ:∀c (t:Array Value) (a:Act) w,Q (.panic c) {a with tmps:=t} w->Q (.panic c) a w:=by exact fun _ _ _ _ h=>h) (hn:a.tmps.size=n:=by exact rfl):Z0k P md ol.toArray Q brk S fuel listed a w :=
 Z5w m n hlen hs hB hK hN hD rfl hf hQ hn hS hrun h
theorem wbt {ol:List Oper} (m:List Bool) (n:Nat) {A:Act} {a:Act} {w:World} {fuel:Nat} {listed:Array Bool} (hS:S w)
  (hrun:∀w',True->wpQuiet P ol.toArray (fun w''=>w''=w') (fun a'=>a'=A) (Z08 m ol) a)
  (h:Z0k P md ol.toArray Q brk S (fuel - (Z0o 0 m).length) (Z1f (Z0o 0 m) listed) A w)
  (hlen:(Z0o 0 m).length=(Z08 m ol).length:=by exact rfl) (hs:Region.noSelect ol.toArray=true:=by kernel_rfl) (hB:Z6d md ol.toArray (Z0o 0 m) listed=true:=by kernel_rfl)
  (hK:offB brk (Z0o 0 m)=true:=by kernel_rfl) (hD:dstB n (Z08 m ol)=true:=by kernel_rfl) (hf:(Z0o 0 m).length<=fuel:=by decide)
  (hQ:∀c (t:Array Value) (a:Act) w,Q (.panic c) {a with tmps:=t} w->Q (.panic c) a w:=by exact fun _ _ _ _ h=>h) (hn:a.tmps.size=n:=by exact rfl):Z0k P md ol.toArray Q brk S fuel listed a w :=
 Z51 m n hlen hs hB hK hD rfl hf hQ hn hS hrun h
theorem wbr {ol:List Oper} (m:List Bool) {i:Nat} {o:Oper} {a:Act} {w:World} {fuel:Nat} {listed:Array Bool}
  (h:∀QB:Exit->Act->World->Prop,Shut (∀a' w',S w'->Z0k P md ol.toArray Q brk S fuel (listed.setIfInBounds i true) a' w'->QB .normal a' w')->Shut (∀e a' w',e ≠ .normal->Q e a' w'->QB e a' w')->wpList P ol.toArray QB (Z08 m ol) a w)
  (hi:Z0o 0 m=[i]:=by rfl) (ho:Z08 m ol=[o]:=by rfl) (hr:Region.ready md ol.toArray listed=[i]:=by kernel_rfl):Z0k P md ol.toArray Q brk S (fuel+1) listed a w:=Z6q m hi ho hr h
theorem wbb {ol:List Oper} (m:List Bool) {i:Nat} {o:Oper} {a:Act} {w:World} {fuel:Nat} {listed:Array Bool}
  (h:∀QB:Exit->Act->World->Prop,Shut (∀a' w',Z0k P md ol.toArray Q brk S fuel (listed.setIfInBounds i true) a' w'->QB .normal a' w')->Shut (∀e a' w',e ≠ .normal->Q e a' w'->QB e a' w')->wpList P ol.toArray QB (Z08 m ol) a w)
  (hi:Z0o 0 m=[i]:=by rfl) (ho:Z08 m ol=[o]:=by rfl) (hr:Region.ready md ol.toArray listed=[i]:=by kernel_rfl) (hb:nobB brk (listed.setIfInBounds i true)=false:=by kernel_rfl):Z0k P md ol.toArray Q brk S (fuel+1) listed a w:=Z6p m hi ho hr hb h
def oneM (i:Nat):List Bool:=List.replicate i false++[true]
theorem wbz {ol:List Oper} (m:List Bool) (n:Nat) {A:Act} {a:Act} {w:World} {fuel:Nat} {listed:Array Bool} (hS:S w)
  (h:Z0k P md ol.toArray Q brk S (fuel - (Z0o 0 m).length) (Z1f (Z0o 0 m) listed) A w)
  (hrun:∀w',True->wpQuiet P ol.toArray (fun w''=>w''=w') (fun a'=>a'=A) (Z08 m ol) a:=by intro _ _;simp only[Z08];(repeat (go_big_quiet_step (fail)));exact wpQuiet_nil rfl)
  (hlen:(Z0o 0 m).length=(Z08 m ol).length:=by exact rfl) (hs:Region.noSelect ol.toArray=true:=by kernel_rfl) (hB:Z6d md ol.toArray (Z0o 0 m) listed=true:=by kernel_rfl)
  (hK:offB brk (Z0o 0 m)=true:=by kernel_rfl) (hD:dstB n (Z08 m ol)=true:=by kernel_rfl) (hf:(Z0o 0 m).length<=fuel:=by decide)
  (hQ:∀c (t:Array Value) (a:Act) w,Q (.panic c) {a with tmps:=t} w->Q (.panic c) a w:=by exact fun _ _ _ _ h=>h) (hn:a.tmps.size=n:=by exact rfl):Z0k P md ol.toArray Q brk S fuel listed a w :=
 Z51 m n hlen hs hB hK hD rfl hf hQ hn hS hrun h
theorem wby {ol:List Oper} (m:List Bool) (n:Nat) {A:Act} {a:Act} {w:World} {fuel:Nat} {listed:Array Bool} (hS:S w)
  (h:Z0k P md ol.toArray Q brk S (fuel - (Z0o 0 m).length) (Z1f (Z0o 0 m) listed) A w)
  (hrun:∀w',S w'->wpQuiet P ol.toArray (fun w''=>w''=w') (fun a'=>a'=A) (Z08 m ol) a:=by intro _ _;simp only[Z08];(repeat (go_big_quiet_step (fail)));exact wpQuiet_nil rfl)
  (hlen:(Z0o 0 m).length=(Z08 m ol).length:=by exact rfl) (hs:Region.noSelect ol.toArray=true:=by kernel_rfl) (hB:Z6d md ol.toArray (Z0o 0 m) listed=true:=by kernel_rfl)
  (hK:brkB md ol.toArray brk (Z0o 0 m)=true:=by kernel_rfl) (hN:nobB brk listed=true:=by kernel_rfl) (hD:dstB n (Z08 m ol)=true:=by kernel_rfl) (hf:(Z0o 0 m).length<=fuel:=by decide)
  (hQ:∀c (t:Array Value) (a:Act) w,Q (.panic c) {a with tmps:=t} w->Q (.panic c) a w:=by exact fun _ _ _ _ h=>h) (hn:a.tmps.size=n:=by exact rfl):Z0k P md ol.toArray Q brk S fuel listed a w :=
 Z5w m n hlen hs hB hK hN hD rfl hf hQ hn hS hrun h
theorem wbi {ol:List Oper} (i:Nat) {o:Oper} {a:Act} {w:World} {fuel:Nat} {listed:Array Bool}
  (h:∀QB:Exit->Act->World->Prop,Shut (∀a' w',S w'->Z0k P md ol.toArray Q brk S fuel (listed.setIfInBounds i true) a' w'->QB .normal a' w')->Shut (∀e a' w',e ≠ .normal->Q e a' w'->QB e a' w')->wpList P ol.toArray QB [o] a w)
  (hi:Z0o 0 (oneM i)=[i]:=by rfl) (ho:Z08 (oneM i) ol=[o]:=by rfl) (hr:Region.ready md ol.toArray listed=[i]:=by kernel_rfl):Z0k P md ol.toArray Q brk S (fuel+1) listed a w:=Z6q (oneM i) hi ho hr (fun QB h1 h2=>by rw[ho];exact h QB h1 h2)
theorem wbj {ol:List Oper} (i:Nat) {o:Oper} {a:Act} {w:World} {fuel:Nat} {listed:Array Bool}
  (h:∀QB:Exit->Act->World->Prop,Shut (∀a' w',Z0k P md ol.toArray Q brk S fuel (listed.setIfInBounds i true) a' w'->QB .normal a' w')->Shut (∀e a' w',e ≠ .normal->Q e a' w'->QB e a' w')->wpList P ol.toArray QB [o] a w)
  (hi:Z0o 0 (oneM i)=[i]:=by rfl) (ho:Z08 (oneM i) ol=[o]:=by rfl) (hr:Region.ready md ol.toArray listed=[i]:=by kernel_rfl) (hb:nobB brk (listed.setIfInBounds i true)=false:=by kernel_rfl):Z0k P md ol.toArray Q brk S (fuel+1) listed a w:=Z6p (oneM i) hi ho hr hb (fun QB h1 h2=>by rw[ho];exact h QB h1 h2)
end
def upd (f:Nat->Bool) (i:Nat):Nat->Bool:=fun j=>if j=i then true else f j
section
variable {P:Program} {ops:Array Oper} {Q:Exit->Act->World->Prop} {md:Region.Mode} {S:World->Prop}
def Zhp (md:Region.Mode) (ops:Array Oper) (M:List Nat) (listed:Array Bool):Bool :=
 M.all fun i=>decide (i<ops.size) && (List.range ops.size).all fun j=>!Region.waitsFor md ops i j || (decide (j<i) && (M.contains j || listed.getD j false))
def Zhk (md:Region.Mode) (ops:Array Oper) (M:List Nat) (listed:Array Bool):Bool :=
 (List.range ops.size).all fun i=>M.contains i || listed.getD i false || (M.all fun m=>Region.waitsFor md ops i m) || (List.range ops.size).any fun j=>Region.waitsFor md ops i j && (!M.contains j && !listed.getD j false)
def Zhu (md:Region.Mode) (ops:Array Oper):Bool:=ops.all fun o=>o.after.all fun e=>!Region.binds md e || decide (e.on<ops.size)
theorem Z75 {i:Nat} {o:Oper} {e:Edge} (hi:ops[i]?=some o) (he:e∈o.after) (hb:Region.binds md e=true):Region.waitsFor md ops i e.on=true:=by
 unfold Region.waitsFor;simp only[hi];rw[Array.any_eq_true'];exact⟨e,he,by simp[hb]⟩
theorem Z0i {i:Nat} {o:Oper} {a:Act} {w:World} {K:Act->World->Prop} (hoi:ops[i]?=some o)
  (h:∀QB:Exit->Act->World->Prop,Shut (∀a' w',K a' w'->QB .normal a' w')->Shut (∀e a' w',e ≠ .normal->Q e a' w'->QB e a' w')->wpList P ops QB [o] a w):wpOp P ops Q i K a w:=by
 have h0:=h (fun e a' w'=>match e with
  | .normal=>K a' w'
  | e=>Q e a' w') (fun a' w' h1=>h1) (fun e a' w' h1 h2=>by cases e <;> first|exact absurd rfl h1|exact h2)
 unfold wpList at h0;unfold wpOp;simp only[hoi]
 split
 ·rename_i hw
  rw[if_pos hw] at h0;rcases h0 with h0|⟨ha,hl⟩
  ·left
   unfold Oper.wp at *;generalize (execOp a.eval o).run P w=r at *
   cases r with
   | ok n w' =>
    cases n <;> simp only[Oper.upon,wpList] at h0 |- <;>
     first
      | exact h0
      | exact Calls.mono h0 (fun e w'' he=>by cases e <;> exact he)
   | halt x w'=>cases x <;> simp only[Oper.upon] at h0 |- <;> exact h0
  ·exact .inr ⟨ha,hl⟩
 ·rename_i hw
  rw[if_neg hw] at h0;simpa only[wpList] using h0
structure Mid (ops:Array Oper) (M:List Nat) (listed l:Array Bool):Prop where
 size:l.size=ops.size
 out:∀i,i ∉ M->l.getD i false=listed.getD i false
theorem Z73 {M:List Nat} {listed listed':Array Bool} {fuel:Nat} (I:(Nat->Bool)->Act->World->Prop) (hed:Zhu md ops=true) (hin:Zhp md ops M listed=true) (hout:Zhk md ops M listed=true)
  (hIS:∀f a w,I f a w->S w)
  (hstep:∀f a w,I f a w->∀i∈M,f i=false->(∀j,Region.waitsFor md ops i j=true->f j=true)->wpOp P ops Q i (fun a' w'=>I (upd f i) a' w') a w)
  (hL:∀i,listed'.getD i false=(M.contains i || listed.getD i false)) (hsz:listed'.size=ops.size)
  (hend:∀a w,I (fun j=>listed'.getD j false) a w->Z0k P md ops Q [] S fuel listed' a w) :
  ∀(k:Nat) (l:Array Bool) (a:Act) (w:World),Mid ops M listed l->(M.countP fun i=>!l.getD i false)=k->M.Nodup->I (fun j=>l.getD j false) a w->Z0k P md ops Q [] S (fuel+k) l a w:=by
 have hinM:∀i∈M,i<ops.size/\∀j,j<ops.size->Region.waitsFor md ops i j=true->j<i/\(j∈M\/listed.getD j false=true):=fun i hi=>by
  have:=List.all_eq_true.1 hin i hi;simp only[Bool.and_eq_true,decide_eq_true_eq,List.all_eq_true,List.mem_range] at this;refine⟨this.1,fun j hj hw=>?_⟩;have h2:=this.2 j hj;rw[hw] at h2;simpa using h2
 have hedge:∀(i:Nat) {o:Oper},ops[i]?=some o->∀e∈o.after,Region.binds md e=true->e.on<ops.size:=fun i o ho e he hb=>by
  have h1:=Array.all_eq_true'.1 hed o (Array.mem_of_getElem? ho);have h2:=Array.all_eq_true'.1 h1 e he;simpa [hb] using h2
 intro k
 induction k with
 | zero =>
  intro l a w hm hc hnd hI;have hall:∀i∈M,l.getD i false=true:=fun i hi=>by
   have:=List.countP_eq_zero.1 hc i hi;simpa using this
  have hl:l=listed':=by
   refine Array.ext (by rw[hm.size,hsz]) fun i h1 h2=>?_;have e1:l.getD i false=l[i]:=by simp[h1]
   have e2:listed'.getD i false=listed'[i]:=by simp[h2]
   rw[<- e1,<- e2,hL i]
   by_cases hi:i∈M
   ·rw[hall i hi];simp[hi]
   ·rw[hm.out i hi];simp[hi]
  subst hl;exact hend a w hI
 | succ k ih =>
  intro l a w hm hc hnd hI;have hready:∀i,i∈M->l.getD i false=false->(∀j,j<i->j∈M->l.getD j false=true)->i∈Region.ready md ops l:=by
   intro i hi hf hlt;obtain⟨hio,hdep⟩:=hinM i hi;rw[mem_ready];refine⟨?_,ops[i],Array.getElem?_eq_getElem hio,fun e he hb=>?_⟩
   ·have hls:i<l.size:=by rw[hm.size];exact hio
    simpa [hls] using hf
   ·have hw:=Z75 (md:=md) (Array.getElem?_eq_getElem hio) he hb
    have heo:e.on<ops.size:=hedge _ (Array.getElem?_eq_getElem hio) e he hb;obtain⟨h1,h2⟩:=hdep _ heo hw
    by_cases hM:e.on∈M
    ·exact hlt _ h1 hM
    ·rw[hm.out _ hM]
     rcases h2 with h2|h2
     ·exact absurd h2 hM
     ·exact h2
  have hpos:0<M.countP fun i=>!l.getD i false:=by omega
  obtain⟨m0,hm0,hm0f⟩:=List.countP_pos_iff.1 hpos;have hm0f:l.getD m0 false=false:=by simpa using hm0f
  have hex:∀n,(∃i∈M,i<n/\l.getD i false=false)->∃i∈M,l.getD i false=false/\∀j,j<i->j∈M->l.getD j false=true:=by
   intro n
   induction n with
   | zero=>rintro⟨i,_,h,_⟩;omega
   | succ n ihn =>
    rintro⟨i,hi,hin',hf⟩
    by_cases hb:∃i∈M,i<n/\l.getD i false=false
    ·exact ihn hb
    ·refine⟨i,hi,hf,fun j hj hjM=>?_⟩
     cases hv:l.getD j false with
     | true=>rfl
     | false=>exact absurd ⟨j,hjM,by omega,hv⟩ hb
  obtain⟨i0,hi0,hf0,hlt0⟩:=hex (m0+1) ⟨m0,hm0,by omega,hm0f⟩;have hr0:=hready i0 hi0 hf0 hlt0;refine⟨fun h=>(by rw[h] at hr0;cases hr0),fun i hi=>?_⟩;obtain⟨hun,oi,hoi,hall⟩:=mem_ready.1 hi;have hio:i<ops.size:=(Array.getElem?_eq_some_iff.1 hoi).1;have hls:i<l.size:=by rw[hm.size];exact hio
  have hf:l.getD i false=false:=by simpa [hls] using hun
  have hwf:∀j,Region.waitsFor md ops i j=true->l.getD j false=true:=fun j hj=>by
   obtain⟨oj,hoj,e,he,hb,rfl⟩:=Region.waitsFor_spec hj;rw[hoi] at hoj;injection hoj with hoj
   subst hoj;exact hall e he hb
  by_cases hiM:i∈M
  ·have h1 := hstep _ a w hI i hiM hf hwf
   refine wpOp_mono (fun a' w' h2=>⟨fun _=>hIS _ _ _ h2,ih _ a' w' ⟨by simpa using hm.size,fun j hj=>?_⟩ ?_ hnd ?_⟩) h1
   ·have hne:i≠j:=fun e=>hj (e ▸ hiM)
    rw[getD_set_ne false hne];exact hm.out j hj
   ·have e1 : ∀j,((l.setIfInBounds i true).getD j false)=if j=i then true else l.getD j false:=fun j=>by
     by_cases h:j=i
     ·subst h;simp[hls]
     ·rw[getD_set_ne false (Ne.symm h),if_neg h]
    have e2 : ∀(M:List Nat),M.Nodup->i∈M->(M.countP fun j=>!(l.setIfInBounds i true).getD j false)+1=M.countP fun j=>!l.getD j false:=by
     intro M
     induction M with
     | nil=>intro _ h;cases h
     | cons b M ihM =>
      intro hnd hmem;rw[List.countP_cons,List.countP_cons];rw[List.nodup_cons] at hnd
      by_cases hbi:b=i
      ·subst hbi
       have h3:(M.countP fun j=>!(l.setIfInBounds b true).getD j false)=M.countP fun j=>!l.getD j false:=List.countP_congr fun j hj=>by
        have hjb:j≠b:=fun e=>hnd.1 (by rw[<- e];exact hj);rw[e1,if_neg hjb]
       rw[h3,e1,if_pos rfl,hf];simp
      ·rw[e1 b,if_neg hbi]
       have hmem':i∈M:=by
        rcases List.mem_cons.1 hmem with h|h
        ·exact absurd h.symm hbi
        ·exact h
       have:=ihM hnd.2 hmem';omega
    have:=e2 M hnd hiM;omega
   ·have e3:(fun j=>(l.setIfInBounds i true).getD j false)=upd (fun j=>l.getD j false) i:=by
     funext j
     unfold upd
     by_cases h:j=i
     ·subst h;simp[hls]
     ·rw[getD_set_ne false (Ne.symm h),if_neg h]
    rw[e3];exact h2
  ·exfalso
   have h1:=List.all_eq_true.1 hout i (List.mem_range.2 hio);have h2:listed.getD i false=false:=by rw[<- hm.out i hiM];exact hf
   have h3:(M.all fun m=>Region.waitsFor md ops i m)=true\/((List.range ops.size).any fun j=>Region.waitsFor md ops i j && (!M.contains j && !listed.getD j false))=true:=by
    rw[h2] at h1;simpa only[Bool.or_eq_true,List.contains_eq_mem,decide_eq_true_eq,hiM,Bool.false_eq_true,false_or,or_false] using h1
   rcases h3 with h3|h3
   ·have h4:=List.all_eq_true.1 h3 m0 hm0
    rw[hwf m0 h4] at hm0f
    cases hm0f
   ·obtain⟨j,_,hj⟩:=List.any_eq_true.1 h3
    simp only[Bool.and_eq_true,Bool.not_eq_true',List.contains_eq_mem,decide_eq_false_iff_not] at hj;have h5:=hwf j hj.1;rw[hm.out j hj.2.1,hj.2.2] at h5
    cases h5
theorem Zcb {ol:List Oper} (M:List Nat) {listed listed':Array Bool} {fuel:Nat} (I:(Nat->Bool)->Act->World->Prop) {a:Act} {w:World} (hed:Zhu md ol.toArray=true) (hin:Zhp md ol.toArray M listed=true) (hout:Zhk md ol.toArray M listed=true)
  (hM:(M.all fun i=>!listed.getD i false)=true) (hnd:decide M.Nodup=true) (hsz0:decide (listed.size=ol.toArray.size)=true) (hL:Z1f M listed=listed') (hf:M.length<=fuel)
  (hI:I (fun j=>listed.getD j false) a w)
  (hIS:∀f a w,I f a w->S w)
  (hstep:∀f a w,I f a w->∀i∈M,f i=false->(∀j,Region.waitsFor md ol.toArray i j=true->f j=true)->wpOp P ol.toArray Q i (fun a' w'=>I (upd f i) a' w') a w)
  (hend:∀a w,I (fun j=>listed'.getD j false) a w->Z0k P md ol.toArray Q [] S (fuel - M.length) listed' a w):Z0k P md ol.toArray Q [] S fuel listed a w:=by
 have hsz:listed.size=ol.toArray.size:=of_decide_eq_true hsz0;have hsize:∀(M:List Nat) (l:Array Bool),(Z1f M l).size=l.size:=fun M=>by
  induction M with
  | nil=>intro l;rfl
  | cons i M ih=>intro l;rw[Z1f,ih];simp
 have hget:∀(M:List Nat) (l:Array Bool),(∀i∈M,i<l.size)->∀j,(Z1f M l).getD j false=(M.contains j || l.getD j false):=fun M=>by
  induction M with
  | nil=>intro l _ j;simp[Z1f]
  | cons i M ih =>
   intro l hl j;rw[Z1f,ih _ (fun k hk=>by simpa using hl k (List.mem_cons_of_mem _ hk))]
   by_cases h:j=i
   ·subst h
    have hjl:=hl j (by simp);have:(l.setIfInBounds j true).getD j false=true:=by simp[hjl]
    rw[this];simp
   ·rw[getD_set_ne false (Ne.symm h)]
    simp[h]
 have hlt:∀i∈M,i<listed.size:=fun i hi=>by
  have:=List.all_eq_true.1 hin i hi;simp only[Bool.and_eq_true,decide_eq_true_eq] at this;rw[hsz];exact this.1
 have hc:(M.countP fun i=>!listed.getD i false)=M.length:=List.countP_eq_length.2 (fun i hi=>List.all_eq_true.1 hM i hi);have:=Z73 (P:=P) (Q:=Q) (md:=md) (fuel:=fuel - M.length) I hed hin hout hIS hstep (listed':=listed') (fun i=>by rw[<- hL];exact hget M listed hlt i) (by rw[<- hL,hsize,hsz]) hend M.length listed a w ⟨hsz,fun _ _=>rfl⟩ hc (of_decide_eq_true hnd) hI;rwa [show fuel - M.length+M.length=fuel by omega] at this
end
end Go.Proofs.YtmlfangeanmmeaaGreatDoor
