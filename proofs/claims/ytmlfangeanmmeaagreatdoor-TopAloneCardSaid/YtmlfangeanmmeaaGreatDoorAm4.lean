/-
 What the proof of TopAlone leans on, part 4 of 49: Reg, Reg2. No statement of its own.
-/
import Derived.Test.YtmlfangeanmmeaaGreatDoorAm1
import Derived.Deep.RegionHeld3
set_option maxHeartbeats 16000000
set_option maxRecDepth 8000
set_option linter.unusedVariables false
namespace Go.Proofs.YtmlfangeanmmeaaGreatDoor
open Go.RowKit
section
variable {P:Program} {ops:Array Oper} {Q:Exit->Act->World->Prop} {md:Region.Mode} {S S':World->Prop}
def SameV (P:Program) (ops:Array Oper) (S:World->Prop) (o:Oper) (v:Value) (a:Act):Prop :=
 (Region.wanted o (yielded ops a.tmps)=true/\∀w,S w->o.quietAt P a (fun w''=>w''=w) w v) \/
 (Region.wanted o (yielded ops a.tmps)=false/\v=undef)
theorem SameV.wpOp {i:Nat} {o:Oper} {v:Value} {a:Act} (hi:ops[i]?=some o) (hy:SameV P ops S o v a)
  {K:Act->World->Prop} {w:World} (hS:S w) (h:K (a.put o.dst v) w):wpOp P ops Q i K a w:=by
 unfold Go.wpOp;simp only[hi];rcases hy with⟨hw,hv⟩|⟨hw,rfl⟩
 ·simp only[hw,if_true]
  refine .inl (Oper.wp_of_quiet (C:=fun w''=>w''=w) (K:=fun a'=>a'=a.put o.dst v) (w:=w) rfl ?_ ⟨v,?_,rfl⟩)
  ·rintro a' w' rfl rfl
   exact h
  ·rintro w' rfl
   exact hv _ hS
 ·simp only[hw,Bool.false_eq_true,if_false];exact h
theorem SameV.of_same {o:Oper} {v:Value} {a a':Act} (hy:SameV P ops S o v a) (he:execOp a'.eval o=execOp a.eval o)
  (hw:Region.wanted o (yielded ops a'.tmps)=Region.wanted o (yielded ops a.tmps)):SameV P ops S o v a':=by
 unfold SameV Oper.quietAt at *;rw[he,hw];exact hy
theorem Z4z {j:Nat} {oi oj:Oper} {v:Value} (hj:ops[j]?=some oj) (hap:oi.apart ops oj=true)
  (hsi:∀cs b,oi.op ≠ .select cs b) (hsj:∀cs b,oj.op ≠ .select cs b)
  (hQ:∀c a w,Q (.panic c) (a.put oi.dst v) w->Q (.panic c) a w) {K:Act->World->Prop} {a:Act} {w:World}
  (hy:SameV P ops S oi v a) (h:wpOp P ops Q j K (a.put oi.dst v) w) :
  wpOp P ops Q j (fun a' w'=>SameV P ops S oi v a'/\K (a'.put oi.dst v) w') a w:=by
 obtain⟨h1,h2,h3⟩:=Oper.apart_spec hap;have keep:∀(a:Act),SameV P ops S oi v a->∀u,SameV P ops S oi v (a.put oj.dst u):=fun a hy u =>
  hy.of_same (execOp_put oi hsi a oj.dst u h3) (wanted_put oi a oj.dst u h3)
 have keepD:∀d,SameV P ops S oi v {a with defers:=d::a.defers}:=fun d=>hy.of_same rfl rfl;unfold wpOp at *;simp only[hj] at *;rw[wanted_put oj a oi.dst v h1] at h
 split
 ·rename_i hw
  simp only[hw,if_true] at h;rcases h with h|⟨hasks,hlets⟩
  case inr=>exact .inr ⟨by unfold Oper.asks at *;rw[execOp_put oj hsj a oi.dst v h1] at hasks;exact hasks,hlets⟩
  refine .inl ?_;unfold Oper.wp at *;rw[execOp_put oj hsj a oi.dst v h1] at h;generalize (execOp a.eval oj).run P w=r at *
  cases r with
  | ok n w' =>
   cases n <;> simp only[Oper.upon] at h |-
   case value u=>exact⟨keep a hy u,by rw[<- Act.put_comm a v u h2];exact h⟩
   case skip=>exact⟨keep a hy _,by rw[<- Act.put_comm a v undef h2];exact h⟩
   case defer d =>
    refine⟨keep _ (keepD d) _,?_⟩;rw[<- Act.put_comm _ v undef h2,<- Act.put_defers];exact h
   case enter f args =>
    refine Calls.mono h fun e w'' he=>?_
    cases e with
    | returned u=>exact⟨keep a hy u,by rw[<- Act.put_comm a v u h2];exact he⟩
    | panicked c=>exact hQ _ _ _ he
    | outgrown=>exact he
   case row row args=>exact Rows.mono h fun u w'' he=>⟨keep a hy u,by rw[<- Act.put_comm a v u h2];exact he⟩
  | halt x w' =>
   cases x <;> simp only[Oper.upon] at h |-
   case panic u=>exact hQ _ _ _ h
 ·rename_i hw
  simp only[hw] at h;exact⟨keep a hy _,by rw[<- Act.put_comm a v undef h2];exact h⟩
def Z08 {α:Type}:List Bool->List α->List α
 | true::m,o::l=>o::Z08 m l
 | false::m,_::l=>Z08 m l
 | _,_=>[]
def Z0o:Nat->List Bool->List Nat
 | _,[]=>[]
 | k,true::m=>k::Z0o (k+1) m
 | k,false::m=>Z0o (k+1) m
def Z1f:List Nat->Array Bool->Array Bool
 | [],listed=>listed
 | i::is,listed=>Z1f is (listed.setIfInBounds i true)
def Z6d (md:Region.Mode) (ops:Array Oper):List Nat->Array Bool->Bool
 | [],_=>true
 | i::is,listed=>Region.free md ops listed i && ((Region.ready md ops listed).contains i && Z6d md ops is (listed.setIfInBounds i true))
def dstB (n:Nat):List Oper->Bool
 | []=>true
 | o::l=>(match o.dst with|some d=>decide (d<n) && l.all (fun o'=>o'.dst != some d)|none=>false) && dstB n l
theorem Z62 {ops:Array Oper}:∀(m:List Bool) (l:List Oper) (k:Nat),(∀j,l[j]?=ops[k+j]?)->(Z0o k m).length=(Z08 m l).length ->
  ∀(t i:Nat),(Z0o k m)[t]?=some i->ops[i]?=(Z08 m l)[t]?:=by
 intro m
 induction m with
 | nil=>intro l k _ _ t i h;simp[Z0o] at h
 | cons b m ih =>
  intro l k hl hlen t i h
  cases l with
  | nil=>cases b <;> simp[Z0o,Z08] at h hlen <;> (rw[hlen] at h;simp at h)
  | cons o l =>
   have hl':∀j,l[j]?=ops[k+1+j]?:=fun j=>by have:=hl (j+1);simpa [Nat.add_assoc,Nat.add_comm 1 j] using this
   cases b with
   | false=>exact ih l (k+1) hl' (by simpa [Z0o,Z08] using hlen) t i (by simpa [Z0o] using h)
   | true =>
    cases t with
    | zero =>
     simp[Z0o] at h;subst h;have:=hl 0;simp at this;simp[Z08,this]
    | succ t=>exact ih l (k+1) hl' (by simpa [Z0o,Z08] using hlen) t i (by simpa [Z0o] using h)
theorem Z2r {w:World} {A:Act}:∀(l:List Oper) (a:Act) (d:Nat),(l.all fun o'=>o'.dst != some d)=true->wpQuiet P ops (fun w'=>w'=w) (fun a'=>a'=A) l a->A.tmps[d]?=a.tmps[d]?
 | [],a,d,_,h=>by rw[show A=a from(h:a=A).symm]
 | o::l,a,d,hd,h=>by
  simp only[List.all_cons,Bool.and_eq_true] at hd;have hp:∀v,(a.put o.dst v).tmps[d]?=a.tmps[d]?:=fun v=>by
   cases ho:o.dst with
   | none=>rfl
   | some e =>
    have:e≠d:=by rintro rfl;simp[ho] at hd
    simp[Act.put,Array.getElem?_setIfInBounds_ne this]
  unfold wpQuiet at h
  split at h
  ·obtain⟨v,_,h2⟩:=h
   exact(Z2r l _ d hd.2 h2).trans (hp v)
  ·exact(Z2r l _ d hd.2 h).trans (hp _)
theorem Z3e {w:World} {A:Act}:∀(l:List Oper) (a:Act),wpQuiet P ops (fun w'=>w'=w) (fun a'=>a'=A) l a->A.tmps.size=a.tmps.size
 | [],a,h=>by rw[show A=a from(h:a=A).symm]
 | o::l,a,h=>by
  have hp:∀v,(a.put o.dst v).tmps.size=a.tmps.size:=fun v=>by cases ho:o.dst <;> simp[Act.put]
  unfold wpQuiet at h
  split at h
  ·obtain⟨v,_,h2⟩:=h
   exact(Z3e l _ h2).trans (hp v)
  ·exact(Z3e l _ h).trans (hp _)
end
section
variable {P:Program} {Q:Exit->Act->World->Prop} {md:Region.Mode} {S:World->Prop}
end
theorem Z15 {P:Program} {W:World} {ops:Array Oper} {rest:List Oper} {o:Oper} {a:Act} {Q:Exit->Act->World->Prop} (hgd:o.guard=none) (s x:Operand) (t:TypeId)
  (ho:o.op = .call {callee:=.builtin .append,args:=#[s,x],argTypes:=#[t,t]})
  (e:TypeId) (i:TypeInfo) (z:Value) (bytes:Nat) (ht:P.underlying t=some (.slice e)) (hi:P.info? e=some i) (hz:i.zero=some z)
  (hsize:i.size=1) (hby:i.bytes=bytes) (hzs:z.cells.size=1)
  (v:Value) (n:Nat) (xs:List Value) (u:Value) (H:Nat) (hs:a.eval s=v) (hown:W.ownsRow 0 e 1 v n xs)
  (hx:a.eval x = .slice (some ⟨H,0,none⟩) 1 1) (hbox:W.cell? ⟨H,0,none⟩=some u) (h1:u.oneCell'=true) (hn:n<=1000000) (hb:bytes<=4096)
  (h:∀A' c' w',w'.ownsRow 0 e 1 (.slice A' (n+1) c') (n+1) (xs++[u])->Chg (fpV v) W w'->(∀k∈fpV (.slice A' (n+1) c'),k∈fpV v\/W.heap.size<=k)->wpList P ops Q rest (a.put o.dst (.slice A' (n+1) c')) w') :
  wpList P ops Q (o::rest) a W:=by
 refine wpList_append_own_at W hgd s x t ho 0 e i z 1 bytes ht hi hz hsize hby hzs (by decide) v n xs hs hown ⟨H,0,none⟩ 1 1 [u] hx rfl ?_ ?_ ?_ ?_ (Nat.zero_le _) ?_
 ·intro j u' hj
  match j,hj with
  | 0,hj=>simp at hj;subst hj;simpa [Addr.add] using hbox
 ·intro u' hu';simp at hu';subst hu';exact h1
 ·unfold maxLen;omega
 ·have:(n+1)*bytes<=(n+1)*4096:=Nat.mul_le_mul_left _ hb
  omega
 ·intro v' w' hown' hg _ hat
  obtain⟨A',c',hv⟩:=Z1m hown';subst hv;refine h A' c' w' hown' ((Chg.refl _ W).grown hg (fun k hk=>.inl (mem_fpV.2 hk))) (fun k hk=>?_);rcases hat with e1|e1
  ·left;rw[mem_fpV] at hk |-;rw[<- e1];exact hk
  ·right;rw[mem_fpV] at hk;rw[e1] at hk;simp at hk;omega
end Go.Proofs.YtmlfangeanmmeaaGreatDoor
