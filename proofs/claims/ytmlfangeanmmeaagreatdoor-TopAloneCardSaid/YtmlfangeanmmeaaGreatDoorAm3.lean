/-
 What the proof of TopAlone leans on, part 3 of 49: RedoP. No statement of its own.
-/
import Derived.Below
set_option maxHeartbeats 16000000
set_option maxRecDepth 8000
set_option linter.unusedVariables false
namespace Go.Proofs.YtmlfangeanmmeaaGreatDoor
structure PL where
 cap:Nat
 addrs:List Int
 vals:List Int
 idx:List Int
def ix (idx:List Int) (q:Nat):Int:=idx.getD q 0
def home (p:Nat) (a:Int):Nat:=(a%(p:Int)*5%(p:Int)).toNat
def spot (idx:List Int) (a:Int) (t:Nat):Nat:=(home idx.length a+t)%idx.length
def adr (L:PL) (i:Nat):Int:=L.addrs.getD i 0
theorem Zai {p:Nat} (hp:0<p) (a:Int):home p a<p:=by
 unfold home;have h1:=Int.emod_lt_of_pos (a%(p:Int)*5) (show (0:Int)<p by omega);have h2:=Int.emod_nonneg (a%(p:Int)*5) (show (p:Int)≠0 by omega);omega
theorem Z1o {idx:List Int} (hp:0<idx.length) (a:Int) (t:Nat):spot idx a t<idx.length:=Nat.mod_lt _ hp
theorem Zdf (idx:List Int) (a:Int) (t:Nat):spot idx a (t+1)=(spot idx a t+1)%idx.length:=by
 unfold spot;rw[Nat.mod_add_mod,Nat.add_assoc]
theorem Zde {idx:List Int} (hp:0<idx.length) (a:Int):spot idx a 0=home idx.length a:=by
 unfold spot;rw[Nat.add_zero,Nat.mod_eq_of_lt (Zai hp a)]
theorem Zdg {idx:List Int} (hp:0<idx.length) (a:Int) {q:Nat} (hq:q<idx.length):∃t,t<idx.length/\spot idx a t=q:=by
 have hh:=Zai hp a
 by_cases h:home idx.length a<=q
 ·refine⟨q - home idx.length a,by omega,?_⟩
  unfold spot;rw[show home idx.length a+(q - home idx.length a)=q by omega,Nat.mod_eq_of_lt hq]
 ·refine⟨q+idx.length - home idx.length a,by omega,?_⟩
  unfold spot;rw[show home idx.length a+(q+idx.length - home idx.length a)=q+idx.length by omega,Nat.add_mod_right,Nat.mod_eq_of_lt hq]
def Z7m (idx:List Int) (a:Int):Nat->Nat->Nat
 | 0,t=>t
 | f+1,t=>if ix idx (spot idx a t)<0 then t else Z7m idx a f (t+1)
def negT (idx:List Int) (a:Int):Nat:=Z7m idx a idx.length 0
theorem Z46 (idx:List Int) (a:Int):∀(f t t0:Nat),t<=t0->t0<t+f->ix idx (spot idx a t0)<0->(∀s,t<=s->s<t0->0<=ix idx (spot idx a s))->Z7m idx a f t=t0
 | 0,t,t0,h1,h2,_,_=>by omega
 | f+1,t,t0,h1,h2,h3,h4=>by
  unfold Z7m
  by_cases h:t=t0
  ·subst h;rw[if_pos h3]
  ·rw[if_neg (by have:=h4 t (Nat.le_refl _) (by omega);omega)]
   exact Z46 idx a f (t+1) t0 (by omega) (by omega) h3 (fun s hs1 hs2=>h4 s (by omega) hs2)
theorem Z6t {idx:List Int} {a:Int} {t0:Nat} (h2:t0<idx.length) (h3:ix idx (spot idx a t0)<0) (h4:∀s,s<t0->0<=ix idx (spot idx a s)):negT idx a=t0 :=
 Z46 idx a _ 0 t0 (Nat.zero_le _) (by omega) h3 (fun s _ hs=>h4 s hs)
def Za6 (idx:List Int) (a:Int):Nat:=spot idx a (negT idx a)
def Z1y (L:PL) (a:Int):Bool:=decide (0<=a) && (decide (a∈L.addrs) || decide (L.addrs.length<L.cap))
def putL (L:PL) (a v:Int):PL :=
 if a<0 then L
 else if a∈L.addrs then {L with vals:=L.vals.set (L.addrs.idxOf a) v}
 else if L.addrs.length<L.cap then {L with addrs:=L.addrs++[a],vals:=L.vals++[v],idx:=L.idx.set (Za6 L.idx a) L.addrs.length}
 else L
def Z91 (L:PL) (a:Int):Bool:=decide (a∈L.addrs)
def getV (L:PL) (a:Int):Int:=if a∈L.addrs then L.vals.getD (L.addrs.idxOf a) 0 else 0
structure Inv (L:PL):Prop where
 le:L.addrs.length<=L.cap
 cap32:L.cap<=32
 vlen:L.vals.length=L.addrs.length
 plt:L.cap<L.idx.length
 p64:L.idx.length<=64
 rng:∀q,q<L.idx.length->-1<=ix L.idx q/\ix L.idx q<L.addrs.length
 neg:L.idx.countP (fun x=>decide (x<0))+L.addrs.length=L.idx.length
 plc:∀i,i<L.addrs.length->∃t,t<L.idx.length/\ix L.idx (spot L.idx (adr L i) t)=i/\∀s,s<=t->0<=ix L.idx (spot L.idx (adr L i) s)
 nodup:∀i j,i<L.addrs.length->j<L.addrs.length->adr L i=adr L j->i=j
 nonneg:∀i,i<L.addrs.length->0<=adr L i
theorem Zkl {idx:List Int} {q:Nat} (h:q<idx.length):ix idx q=idx[q]:=by simp[ix,List.getD,List.getElem?_eq_getElem h]
theorem Zhx {L:PL} {i:Nat} (h:i<L.addrs.length):adr L i=L.addrs[i]:=by simp[adr,List.getD,List.getElem?_eq_getElem h]
theorem Zb3 {L:PL} {i:Nat} (h:i<L.addrs.length):adr L i∈L.addrs:=by rw[Zhx h];exact List.getElem_mem _
theorem Z7o {L:PL} {a:Int} (h:a∈L.addrs):L.addrs.idxOf a<L.addrs.length/\adr L (L.addrs.idxOf a)=a:=by
 have h1:=List.idxOf_lt_length_of_mem h;exact⟨h1,by rw[Zhx h1];exact List.getElem_idxOf h1⟩
section
variable {L:PL} (H:Inv L)
include H
theorem Inv.pos:0<L.idx.length:=by have:=H.plt;omega
theorem Inv.hole:∃q,q<L.idx.length/\ix L.idx q<0:=by
 have h1:0<L.idx.countP (fun x=>decide (x<0)):=by have:=H.neg;have:=H.le;have:=H.plt;omega
 obtain⟨x,hx,hn⟩:=List.countP_pos_iff.1 h1;obtain⟨q,hq,rfl⟩:=List.getElem_of_mem hx;exact⟨q,hq,by rw[Zkl hq];simpa using hn⟩
theorem Inv.holeAt (a:Int):∃t,t<L.idx.length/\ix L.idx (spot L.idx a t)<0:=by
 obtain⟨q,hq,hn⟩:=H.hole;obtain⟨t,ht,rfl⟩:=Zdg H.pos a hq;exact⟨t,ht,hn⟩
theorem Inv.find_in {i t:Nat} (hi:i<L.addrs.length) (hst:ix L.idx (spot L.idx (adr L i) t)<0\/adr L (ix L.idx (spot L.idx (adr L i) t)).toNat=adr L i)
  (hbef:∀s,s<t->0<=ix L.idx (spot L.idx (adr L i) s)/\adr L (ix L.idx (spot L.idx (adr L i) s)).toNat≠adr L i):ix L.idx (spot L.idx (adr L i) t)=i:=by
 obtain⟨t0,ht0,h1,h2⟩:=H.plc i hi;have hle:t<=t0:=by
  rcases Nat.lt_or_ge t0 t with h|h
  ·have:=(hbef t0 h).2
   rw[h1] at this;exact absurd rfl this
  ·exact h
 have h3:=h2 t hle;rcases hst with h|h
 ·omega
 ·have h4:=H.rng (spot L.idx (adr L i) t) (Z1o H.pos _ _)
  have:=H.nodup _ i (by omega) hi h;omega
theorem Inv.find_out {a:Int} {t:Nat} (ha:a ∉ L.addrs) (ht:t<L.idx.length) (hst:ix L.idx (spot L.idx a t)<0\/adr L (ix L.idx (spot L.idx a t)).toNat=a)
  (hbef:∀s,s<t->0<=ix L.idx (spot L.idx a s)):ix L.idx (spot L.idx a t)<0/\Za6 L.idx a=spot L.idx a t:=by
 have h1:ix L.idx (spot L.idx a t)<0:=by
  rcases hst with h|h
  ·exact h
  ·rcases Int.lt_or_le (ix L.idx (spot L.idx a t)) 0 with h'|h'
   ·exact h'
   ·have h4:=H.rng (spot L.idx a t) (Z1o H.pos _ _)
    exact absurd (h ▸ Zb3 (by omega)) ha
 exact⟨h1,by unfold Za6;rw[Z6t ht h1 hbef]⟩
theorem Inv.new {a v:Int} (h0:0<=a) (ha:a ∉ L.addrs) (hr:L.addrs.length<L.cap):Inv {L with addrs:=L.addrs++[a],vals:=L.vals++[v],idx:=L.idx.set (Za6 L.idx a) L.addrs.length}:=by
 obtain⟨t,ht,hn⟩:∃t,t<L.idx.length/\(ix L.idx (spot L.idx a t)<0/\∀s,s<t->0<=ix L.idx (spot L.idx a s)):=by
  have hex:=H.holeAt a;have least:∀n,(∃t,t<n/\t<L.idx.length/\ix L.idx (spot L.idx a t)<0)->∃t,t<L.idx.length/\(ix L.idx (spot L.idx a t)<0/\∀s,s<t->0<=ix L.idx (spot L.idx a s)):=by
   intro n
   induction n with
   | zero=>rintro⟨t,h,_⟩;omega
   | succ n ih =>
    rintro⟨t,h1,h2,h3⟩
    by_cases hb:∃t,t<n/\t<L.idx.length/\ix L.idx (spot L.idx a t)<0
    ·exact ih hb
    ·refine⟨t,h2,h3,fun s hs=>?_⟩
     rcases Int.lt_or_le (ix L.idx (spot L.idx a s)) 0 with h'|h'
     ·exact absurd ⟨s,by omega,by omega,h'⟩ hb
     ·exact h'
  obtain⟨t,h1,h2⟩:=hex;exact least L.idx.length ⟨t,h1,h1,h2⟩
 have hk:Za6 L.idx a=spot L.idx a t:=by unfold Za6;rw[Z6t ht hn.1 hn.2]
 rw[hk];have hq:=Z1o H.pos a t;have hneg:L.idx[spot L.idx a t]<0:=by rw[<- Zkl hq];exact hn.1
 have hix:∀q,q<L.idx.length->ix (L.idx.set (spot L.idx a t) L.addrs.length) q=if q=spot L.idx a t then (L.addrs.length:Int) else ix L.idx q:=fun q hq'=>by
  unfold ix;simp only[List.getD,List.getElem?_set]
  by_cases h:spot L.idx a t=q
  ·subst h;simp[hq]
  ·rw[if_neg h,if_neg (fun e=>h e.symm)]
 have hspot:∀b s,spot (L.idx.set (spot L.idx a t) L.addrs.length) b s=spot L.idx b s:=fun b s=>by unfold spot;rw[List.length_set]
 have hadr:∀i,i<L.addrs.length->adr {L with addrs:=L.addrs++[a],vals:=L.vals++[v],idx:=L.idx.set (spot L.idx a t) L.addrs.length} i=adr L i:=fun i hi=>by
  unfold adr;simp[List.getD,List.getElem?_append_left hi]
 have hlast:adr {L with addrs:=L.addrs++[a],vals:=L.vals++[v],idx:=L.idx.set (spot L.idx a t) L.addrs.length} L.addrs.length=a:=by
  unfold adr;simp[List.getD]
 refine⟨by simp;omega,H.cap32,by simp[H.vlen],by simp;exact H.plt,by simp;exact H.p64,?_,?_,?_,?_,?_⟩
 ·intro q hq'
  simp only[List.length_set] at hq';have h1:=H.rng q hq';simp only[List.length_append,List.length_cons,List.length_nil];rw[hix q hq']
  split <;> omega
 ·have h1:=H.neg
  have hpos:0<L.idx.countP (fun x=>decide (x<0)):=List.countP_pos_iff.2 ⟨_,List.getElem_mem hq,by simpa using hneg⟩;simp only[List.length_append,List.length_cons,List.length_nil,List.length_set];rw[List.countP_set (h:=hq)];have h9:¬ ((L.addrs.length:Int)<0):=by omega
  simp[hneg,h9];omega
 ·intro i hi
  simp only[List.length_append,List.length_cons,List.length_nil] at hi;simp only[List.length_set]
  by_cases h:i=L.addrs.length
  ·subst h
   rw[hlast];refine⟨t,ht,?_,?_⟩
   ·rw[hspot,hix _ hq,if_pos rfl]
   ·intro s hs
    rw[hspot,hix _ (Z1o H.pos _ _)]
    split
    ·omega
    ·rename_i hne
     exact hn.2 s (by
      rcases Nat.lt_or_ge s t with h|h
      ·exact h
      ·obtain rfl:s=t:=by omega
       exact absurd rfl hne)
  ·obtain⟨u,hu,h1,h2⟩:=H.plc i (by omega)
   rw[hadr i (by omega)];refine⟨u,hu,?_,?_⟩
   ·rw[hspot,hix _ (Z1o H.pos _ _),if_neg,h1]
    intro e;have:=h2 u (Nat.le_refl _);rw[e] at this;omega
   ·intro s hs
    rw[hspot,hix _ (Z1o H.pos _ _)]
    split
    ·omega
    ·exact h2 s hs
 ·intro i j hi hj he
  simp only[List.length_append,List.length_cons,List.length_nil] at hi hj
  by_cases h1:i=L.addrs.length <;> by_cases h2:j=L.addrs.length
  ·omega
  ·rw[h1,hlast,hadr j (by omega)] at he
   exact absurd (he ▸ Zb3 (show j<L.addrs.length by omega)) ha
  ·rw[h2,hlast,hadr i (by omega)] at he
   exact absurd (he ▸ Zb3 (show i<L.addrs.length by omega)) ha
  ·rw[hadr i (by omega),hadr j (by omega)] at he
   exact H.nodup i j (by omega) (by omega) he
 ·intro i hi
  simp only[List.length_append,List.length_cons,List.length_nil] at hi
  by_cases h:i=L.addrs.length
  ·rw[h,hlast];exact h0
  ·rw[hadr i (by omega)];exact H.nonneg i (by omega)
theorem Inv.put (a v:Int):Inv (putL L a v):=by
 unfold putL
 split
 ·exact H
 ·split
  ·exact⟨H.le,H.cap32,by simp[H.vlen],H.plt,H.p64,H.rng,H.neg,H.plc,H.nodup,H.nonneg⟩
  ·split
   ·exact H.new (by omega) ‹_› ‹_›
   ·exact H
end
def Z27 (cap p:Nat):PL:={cap:=cap,addrs:=[],vals:=[],idx:=List.replicate p (-1)}
theorem Zeq {cap p:Nat} (h1:cap<=32) (h2:cap<p) (h3:p<=64):Inv (Z27 cap p):=by
 refine⟨Nat.zero_le _,h1,rfl,by simp[Z27];exact h2,by simp[Z27];exact h3,?_,?_,?_,?_,?_⟩
 ·intro q hq
  simp only[Z27,List.length_replicate] at hq;simp[ix,Z27,List.getD,hq]
 ·simp[Z27,List.countP_replicate]
 ·intro i hi;simp[Z27] at hi
 ·intro i j hi;simp[Z27] at hi
 ·intro i hi;simp[Z27] at hi
def Z7d (cap:Nat):Nat:=if cap=0 then 1 else if cap<=1 then 2 else if cap<=2 then 4 else if cap<=4 then 8 else if cap<=8 then 16 else if cap<=16 then 32 else 64
theorem Zbk {cap:Nat} (h:cap<=32):cap<Z7d cap/\Z7d cap<=64/\0<Z7d cap/\2*cap<=Z7d cap:=by
 unfold Z7d
 split
 ·omega
 ·split
  ·omega
  ·split
   ·omega
   ·split
    ·omega
    ·split
     ·omega
     ·split <;> omega
end Go.Proofs.YtmlfangeanmmeaaGreatDoor
