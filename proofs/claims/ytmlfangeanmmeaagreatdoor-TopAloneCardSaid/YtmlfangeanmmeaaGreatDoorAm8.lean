/-
 What the proof of TopAlone leans on, part 8 of 49: Que, App. No statement of its own.
-/
import Derived.Test.YtmlfangeanmmeaaGreatDoorAm1
import Derived.ArgAppend
set_option maxHeartbeats 16000000
set_option maxRecDepth 8000
set_option linter.unusedVariables false
namespace Go.Proofs.YtmlfangeanmmeaaGreatDoor
open Go.RowKit
def queA (e:TypeId) (v:Value) (xs:List Value):Asr where
 P w fp:=(v = .slice none 0 0/\xs=[]/\fp=[])\/∃(g off c:Nat) (cs:Array Value),v = .slice (some ⟨g,off,none⟩) xs.length c/\Blk w g e cs/\off+c<=cs.size/\xs.length<=c/\c<=maxLen/\(∀j,j<xs.length->cs[off+j]?=xs[j]?)/\fp=[g]
 chg:=by
  rintro S w w' fp (h|⟨g,off,c,cs,h1,h2,h3,h4,h5,h6,rfl⟩) hc hS
  ·exact .inl h
  ·exact .inr ⟨g,off,c,cs,h1,h2.chg hc (hS g (by simp)),h3,h4,h5,h6,rfl⟩
 lt:=by
  rintro w fp (⟨_,_,rfl⟩|⟨g,off,c,cs,h1,h2,h3,h4,h5,h6,rfl⟩) b hb
  ·cases hb
  ·rw[List.mem_singleton.1 hb];exact h2.lt
section
variable {w0 w:World} {R:Asr} {e:TypeId} {v:Value} {xs:List Value}
theorem Hold.nilQue (h:Hold w0 w R) (e:TypeId):Hold w0 w (queA e (.slice none 0 0) []*R):=h.new (fp:=[]) (Chg.refl _ _) (.inl ⟨rfl,rfl,rfl⟩) (by simp)
theorem Hold.Zlu (h:Hold w0 w (queA e v xs*R)):∃A c,v = .slice A xs.length c:=by
 obtain⟨fp,h⟩:=h.get;rcases h with⟨h1,h2,_⟩|⟨g,off,c,cs,h1,_⟩
 ·exact⟨none,0,by rw[h1,h2];rfl⟩
 ·exact⟨_,_,h1⟩
theorem queReads {fp:List Nat} {A:Option Addr} {n c:Nat} (h:(queA e (.slice A n c) xs).P w fp):n=xs.length/\n<=c/\c<=maxLen/\∃b,Reads w b A n xs/\(n=0\/fp=[b]):=by
 rcases h with⟨h1,h2,_⟩|⟨g,off,c',cs,h1,h2,h3,h4,h5,h6,rfl⟩
 ·injection h1 with h1 h3 h4
  subst h1 h2 h3 h4;exact⟨rfl,Nat.le_refl _,Nat.zero_le _,0,Reads.nil _ _,.inl rfl⟩
 ·injection h1 with h1 h7 h8
  subst h1 h7 h8;refine⟨rfl,h4,h5,g,⟨rfl,fun k hk=>⟨_,xs[k],rfl,rfl,h2.lt,List.getElem?_eq_getElem hk,?_⟩⟩,.inr rfl⟩;rw[Addr.add_lit,h2.cell,h6 k hk,List.getElem?_eq_getElem hk]
theorem Hold.queAt {ad:Addr} {n c:Nat} (h:Hold w0 w (queA e (.slice (some ad) n c) xs*R)) {k:Nat} {u:Value} (hk:xs[k]?=some u):w.cell? (ad.add k)=some u:=by
 obtain⟨fp,h⟩:=h.get;obtain⟨h1,_,_,b,h4,_⟩:=queReads h;have hl:=(List.getElem?_eq_some_iff.1 hk).1;obtain⟨ad2,hA,_,hc⟩:=h4.cellAt (k:=k) (by omega);obtain rfl:=Option.some.inj hA;rw[hc];exact(List.getElem?_eq_getElem hl).symm.trans hk
theorem Imp.queTail (e:TypeId) (ad:Addr) (n c:Nat) (x:Value) (xs:List Value):Imp (queA e (.slice (some ad) (n+1) c) (x::xs)) (queA e (.slice (if c=1 then some ad else some (ad.add 1)) n (c - 1)) xs):=by
 rintro w fp (⟨h1,h2,_⟩|⟨g,off,c',cs,h1,h2,h3,h4,h5,h6,rfl⟩)
 ·cases h2
 ·injection h1 with h1 h7 h8
  injection h1 with h1
  subst h1 h8;simp only[List.length_cons] at h4 h6 h7;have hn:n=xs.length:=by omega
  subst hn;refine⟨[g],.inr ?_,fun _ h=>h⟩
  by_cases hc:c=1
  ·have hx:xs=[]:=List.eq_nil_of_length_eq_zero (by omega)
   subst hx;rw[if_pos hc];exact⟨g,off,c - 1,cs,rfl,h2,by omega,by omega,by omega,fun j hj=>absurd hj (by simp),rfl⟩
  ·rw[if_neg hc,Addr.add_lit]
   exact⟨g,off+1,c - 1,cs,rfl,h2,by omega,by omega,by omega,fun j hj=>by
    have:=h6 (j+1) (by omega);rw[show off+1+j=off+(j+1) by omega];simpa using this,rfl⟩
theorem Z8q {B n c:Nat} {A:Option Addr} (h:w.ownsRow B e 1 (.slice A n c) n xs):(queA e (.slice A n c) xs).P w (fpV (.slice A n c)):=by
 have hl:xs.length=n:=by simpa using h.1
 rcases h.2 with⟨hv,hn⟩|⟨g,cap,cur,hv,_,hg,h1,h2,h3,h4⟩
 ·subst hn
  rw[hv];exact .inl ⟨rfl,List.eq_nil_of_length_eq_zero hl,rfl⟩
 ·injection hv with hv h5 h6
  subst hv h6;refine .inr ⟨g,0,c,cur,by rw[hl],hg,by omega,by omega,h2,fun j hj=>?_,rfl⟩;rw[<- h4,List.getElem?_take,if_pos (by omega),Nat.zero_add];simp
theorem Z0r {P:Program} {W:World} {ops:Array Oper} {rest:List Oper} {o:Oper} {a:Act} {Q:Exit->Act->World->Prop} (hgd:o.guard=none) (s x:Operand) (t:TypeId)
  (ho:o.op = .call {callee:=.builtin .append,args:=#[s,x],argTypes:=#[t,t]})
  (i:TypeInfo) (z:Value) (bytes:Nat) (ht:P.underlying t=some (.slice e)) (hi:P.info? e=some i) (hz:i.zero=some z)
  (hsize:i.size=1) (hby:i.bytes=bytes) (hzs:z.cells.size=1)
  (u:Value) (te:TypeId) (hs:a.eval s=v) (h:Hold w0 W (queA e v xs*R))
  (hx:a.eval x = .slice (some ⟨W.heap.size,0,none⟩) 1 1) (h1:u.oneCell'=true) (hn:xs.length<=1000000) (hb:bytes<=4096)
  (K:∀v' w',Hold w0 w' (queA e v' (xs++[u])*R)->wpList P ops Q rest (a.put o.dst v') w') :
  wpList P ops Q (o::rest) a (W.alloc (.cells #[u] te)):=by
 obtain⟨fp,hp,hO⟩:=h.open_;have hby2:∀k,k<=1000001->k*bytes<=140737488355328:=fun k hk=>by
  have:k*bytes<=k*4096:=Nat.mul_le_mul_left _ hb;omega
 rcases hp with⟨rfl,rfl,rfl⟩|⟨g,off,c,cs,rfl,h2,h3,h4,h5,h6,rfl⟩
 ·refine Z3j hgd s x t ho e i z bytes ht hi hz hsize hby hzs (.slice none 0 0) 0 [] u te hs (World.ownsRow_nil _ _ _ _) hx h1 (by omega) hb fun A' c' w' ho' hc' hs'=>?_
  exact K _ _ (hO w' _ _ hc' (Z8q ho') (fun b hb=>by
   rcases hs' b hb with h7|h7
   ·exact .inl h7
   ·exact .inr h7))
 ·have hbl:Blk (W.alloc (.cells #[u] te)) g e cs:=h2.alloc _
  refine wpList_append_arg (W.alloc (.cells #[u] te)) hgd s x t ho e i z 1 bytes ht hi hz hsize hby hzs (by decide) g off xs.length c xs hs (by simp) (fun j u' hj=>?_) ⟨W.heap.size,0,none⟩ 1 1 [u] hx rfl (cell_one_new _ _ _) (fun u' hu=>by simp at hu;subst hu;exact h1) (fun hr j hj=>?_) (by unfold maxLen;omega) (hby2 _ (by omega)) (fun hr=>?_) (fun hg v' w' how hgr=>?_)
  ·have hl:=(List.getElem?_eq_some_iff.1 hj).1
   rw[hbl.cell,h6 j hl,hj]
  ·simp at hj
   subst hj;refine⟨?_,hbl.frozen _⟩;rw[hbl.cell];simp;omega
  ·have hw:(W.alloc (.cells #[u] te)).setCells g (off+xs.length*1) [u]=(W.alloc (.cells #[u] te)).setCell ⟨g,off+xs.length,none⟩ u:=by simp[World.setCells]
   rw[hw];refine K _ _ (hO _ _ [g] (((Chg.refl _ W).alloc _).setCell (.inl (by simp)) u) (.inr ⟨g,off,c,cs.setIfInBounds (off+xs.length) u,by simp,hbl.set_ _ _,by simpa using h3,by simp;omega,h5,fun j hj=>?_,rfl⟩) (fun b hb=>.inl hb));simp at hj
   by_cases hjl:j=xs.length
   ·subst hjl
    have h8:off+xs.length<cs.size:=by omega
    rw[List.getElem?_append_right (Nat.le_refl _),Nat.sub_self];simp[h8]
   ·rw[Array.getElem?_setIfInBounds_ne (by omega),h6 j (by omega),List.getElem?_append_left (by omega)]
  ·obtain⟨A',c',rfl⟩:=Z1m how
   refine K _ _ (hO w' _ _ (((Chg.refl _ W).alloc _).grown hgr (by simp)) (Z8q how) (fun b hb=>.inr ?_));have:=Z8p how b hb;simp at this;omega
end
def Zhy (w:World) (e:TypeId) (size:Nat) (v:Value) (n:Nat) (xs:List Value):Prop:=∃g cs,v = .slice (some ⟨g,0,none⟩) n n/\w.heap[g]?=some (.cells cs e (n,n+1))/\cs.toList=xs/\size=1/\xs.length=n
def rowS (e:TypeId) (size:Nat) (v:Value) (n:Nat) (xs:List Value):Asr where
 P w fp:=(w.ownsRow 0 e size v n xs\/Zhy w e size v n xs)/\fp=fpV v
 chg:=by
  rintro S w w' fp ⟨h|⟨g,cs,rfl,hg,h1⟩,rfl⟩ hc hS
  ·exact⟨.inl (Z0m h hc hS),rfl⟩
  ·exact⟨.inr ⟨g,cs,rfl,(hc.block g (Array.getElem?_eq_some_iff.1 hg).1 (hS g (by rw[Z0x];simp))).trans hg,h1⟩,rfl⟩
 lt:=by
  rintro w fp ⟨h|⟨g,cs,rfl,hg,h1⟩,rfl⟩
  ·exact Z2x h
  ·intro b hb
   rw[Z0x] at hb;rw[List.mem_singleton.1 hb];exact(Array.getElem?_eq_some_iff.1 hg).1
section
variable {w0 w w':World} {R:Asr} {e:TypeId} {size n:Nat} {v:Value} {xs:List Value}
theorem Hold.rowS (h:Hold w0 w (rowS e size v n xs*R)):w.ownsRow 0 e size v n xs\/Zhy w e size v n xs:=by
 obtain⟨fp,h1,_⟩:=h.get;exact h1
theorem Hold.nilRowS (h:Hold w0 w R) (e:TypeId) (size:Nat):Hold w0 w (Go.Proofs.YtmlfangeanmmeaaGreatDoor.rowS e size (.slice none 0 0) 0 []*R) :=
 h.new (fp:=[]) (Chg.refl _ _) ⟨.inl (World.ownsRow_nil _ _ _ _),rfl⟩ (by simp)
theorem Hold.Zlt (h:Hold w0 w (Go.Proofs.YtmlfangeanmmeaaGreatDoor.rowS e size v n xs*R)):∃A c,v = .slice A n c:=by
 rcases h.rowS with h|⟨g,cs,rfl,_⟩
 ·exact Z1m h
 ·exact⟨_,_,rfl⟩
theorem Hold.rowSLen (h:Hold w0 w (Go.Proofs.YtmlfangeanmmeaaGreatDoor.rowS e size v n xs*R)):xs.length=n*size:=by
 rcases h.rowS with h|⟨g,cs,rfl,hg,hx,rfl,hl⟩
 ·exact h.1
 ·rw[hl];simp
theorem Hold.rowSReads {A:Option Addr} {c:Nat} (h:Hold w0 w (Go.Proofs.YtmlfangeanmmeaaGreatDoor.rowS e size (.slice A n c) n xs*R)):∃b,Reads w b A (n*size) xs:=by
 rcases h.rowS with h|⟨g,cs,hv,hg,hx,rfl,hl⟩
 ·rcases h.2 with⟨hv,h0⟩|⟨g,cap,cur,hv,_,hg,h1,h2,h3,h4⟩
  ·injection hv with hA
   subst hA;subst h0;refine⟨0,by have:=h.1;simpa using this,fun k hk=>by simp at hk⟩
  ·injection hv with hA hn hc
   subst hA;subst hc;refine⟨g,h.1,fun k hk=>?_⟩;have hl:k<xs.length:=by rw[h.1];exact hk
   refine⟨_,xs[k],rfl,rfl,Blk.lt hg,List.getElem?_eq_getElem hl,?_⟩;rw[Addr.add_lit,Blk.cell hg,<- List.getElem?_eq_getElem hl,<- h4,List.getElem?_take,if_pos hk];simp
 ·injection hv with hA hn hc
  subst hA;refine⟨g,by rw[hl];simp,fun k hk=>?_⟩;have hl2:k<xs.length:=by rw[hl];simpa using hk
  refine⟨_,xs[k],rfl,rfl,(Array.getElem?_eq_some_iff.1 hg).1,List.getElem?_eq_getElem hl2,?_⟩;rw[Addr.add_lit,<- List.getElem?_eq_getElem hl2,<- hx,World.cell?,hg];simp
theorem Z0s {P:Program} {W:World} {ops:Array Oper} {rest:List Oper} {o:Oper} {a:Act} {Q:Exit->Act->World->Prop} (hgd:o.guard=none) (s x:Operand) (t:TypeId)
  (ho:o.op = .call {callee:=.builtin .append,args:=#[s,x],argTypes:=#[t,t]})
  (e:TypeId) (i:TypeInfo) (z:Value) (size bytes:Nat) (ht:P.underlying t=some (.slice e)) (hi:P.info? e=some i) (hz:i.zero=some z)
  (hsize:i.size=size) (hby:i.bytes=bytes) (hzs:z.cells.size=size) (hsz:0<size)
  (v:Value) (n:Nat) (xs us:List Value) (te:TypeId) (hs:a.eval s=v) (h:Hold w0 W (Go.Proofs.YtmlfangeanmmeaaGreatDoor.rowS e size v n xs*R))
  (k:Nat) (hx:a.eval x = .slice (some ⟨k,0,none⟩) 1 1) (hk:W.heap.size=k) (hl:us.length=size) (h1:(us.all fun u=>u.oneCell')=true) (hn:n<=1000000000) (hb:bytes<=4096)
  (K:∀A' c' w',Hold w0 w' (Go.Proofs.YtmlfangeanmmeaaGreatDoor.rowS e size (.slice A' (n+1) c') (n+1) (xs++us)*R)->wpList P ops Q rest (a.put o.dst (.slice A' (n+1) c')) w') :
  wpList P ops Q (o::rest) a (W.alloc (.cells us.toArray te)):=by
 subst hk;obtain⟨fp,⟨hown|⟨g,cs,rfl,hg,hx2,rfl,hl2⟩,rfl⟩,hO⟩:=h.open_
 case inr =>
  have hbl:=Blk.new W te us.toArray;have hgl:=(Array.getElem?_eq_some_iff.1 hg).1;refine wpList_append_arg (W.alloc (.cells us.toArray te)) hgd s x t ho e i z 1 bytes ht hi hz hsize hby hzs (by decide) g 0 n n xs hs (by simp[hl2]) (fun j u hj=>?_) ⟨W.heap.size,0,none⟩ 1 1 us hx (by omega) (fun j u hj=>?_) (fun u hu=>List.all_eq_true.1 h1 u hu) (fun hr=>by omega) (by unfold maxLen;omega) ?_ (fun hr=>by omega) (fun _ v' w' how hgr=>?_)
  ·have hjl:=(List.getElem?_eq_some_iff.1 hj).1
   rw[((Chg.refl [] W).alloc _).cell (p:=⟨g,0+j,none⟩) hgl (by simp),cell_of_row W g (0+j) cs e (n,n+1) hg,Nat.zero_add,<- hj,<- hx2];simp
  ·have ha:(⟨W.heap.size,0,none⟩:Addr).add j=⟨W.heap.size,j,none⟩:=by unfold Addr.add;split <;> simp_all
   rw[ha,hbl.cell];simpa using hj
  ·have:(n+1)*bytes<=(n+1)*4096:=Nat.mul_le_mul_left _ hb
   omega
  ·obtain⟨A',c',rfl⟩:=Z1m how
   refine K A' c' w' (hO w' _ _ (((Chg.refl _ W).alloc _).grown hgr (by simp)) ⟨.inl (Zbh how (Nat.zero_le _)),rfl⟩ (fun b hb'=>.inr ?_));have:=Z8p how b hb';simp at this;omega
 have hbl:=Blk.new W te us.toArray;refine wpList_append_own_at (W.alloc (.cells us.toArray te)) hgd s x t ho 0 e i z size bytes ht hi hz hsize hby hzs hsz v n xs hs (hown.alloc _) ⟨W.heap.size,0,none⟩ 1 1 us hx (by omega) (fun j u hj=>?_) (fun u hu=>List.all_eq_true.1 h1 u hu) ?_ ?_ (Nat.zero_le _) ?_
 ·have ha:(⟨W.heap.size,0,none⟩:Addr).add j=⟨W.heap.size,j,none⟩:=by unfold Addr.add;split <;> simp_all
  rw[ha,hbl.cell];simpa using hj
 ·unfold maxLen;omega
 ·have:(n+1)*bytes<=(n+1)*4096:=Nat.mul_le_mul_left _ hb
  omega
 ·intro v' w' hown' hg _ hat
  obtain⟨A',c',hv⟩:=Z1m hown';subst hv;refine K A' c' w' (hO w' _ _ (((Chg.refl _ W).alloc _).grown hg (fun k hk=>.inl (mem_fpV.2 hk))) ⟨.inl hown',rfl⟩ (fun k hk=>?_));rcases hat with e1|e1
  ·left;rw[mem_fpV] at hk |-;rw[<- e1];exact hk
  ·right;rw[mem_fpV] at hk;rw[e1] at hk;simp at hk;omega
end
end Go.Proofs.YtmlfangeanmmeaaGreatDoor
