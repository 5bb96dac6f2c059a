/-
 What the proof of TopAlone leans on, part 35 of 49: Ap. No statement of its own.
-/
import Derived.Test.YtmlfangeanmmeaaGreatDoorAm1
import Derived.Test.YtmlfangeanmmeaaGreatDoorAm32
import Derived.Maps.AppendAt
import Derived.Deep.Upon
set_option maxHeartbeats 16000000
set_option maxRecDepth 8000
set_option linter.unusedVariables false
namespace Go.Proofs.YtmlfangeanmmeaaGreatDoor
open Go.RowKit
section
variable {w0:World} {R:Asr}
theorem Zdj {w:World} {e:TypeId} {size n:Nat} {v:Value} {xs:List Value} (hs:size≠1) (h:Hold w0 w (rowT e size v n xs*R)):w.ownsRow 0 e size v n xs/\∀(w':World) (q:Asr) (fp':List Nat),Chg (fpV v) w w'->q.P w' fp'->(∀b∈fp',b∈fpV v\/w.heap.size<=b)->Hold w0 w' (q*R):=by
 obtain⟨fp,⟨h1,rfl⟩,hO⟩:=h.open_;refine⟨?_,hO⟩;rcases h1 with h1|⟨g,cs,hv,hg,hx,h2,hl⟩
 ·exact h1
 ·exact absurd h2 hs
theorem Z2n {P:Program} {W:World} {ops:Array Oper} {rest:List Oper} {o:Oper} {a:Act} {Q:Exit->Act->World->Prop} (hgd:o.guard=none) (s x:Operand) (t:TypeId)
  (ho:o.op = .call {callee:=.builtin .append,args:=#[s,x],argTypes:=#[t,t]})
  (e:TypeId) (i:TypeInfo) (z:Value) (size bytes:Nat) (ht:P.underlying t=some (.slice e)) (hi:P.info? e=some i) (hz:i.zero=some z)
  (hsize:i.size=size) (hby:i.bytes=bytes) (hzs:z.cells.size=size) (hsz:1<size)
  (v:Value) (n:Nat) (xs us:List Value) (hs:a.eval s=v) (h:Hold w0 W (rowT e size v n xs*R))
  (A:Option Addr) (m c:Nat) (hx:a.eval x = .slice A m c) (hl:us.length=m*size) (hr:0<m->∃ad,A=some ad/\∀j u,us[j]?=some u->W.cell? (ad.add j)=some u) (h1:(us.all fun u=>u.oneCell')=true) (hn:n+m<=1000000000) (hb:bytes<=4096)
  (K:∀A' c' w',Hold w0 w' (rowT e size (.slice A' (n+m) c') (n+m) (xs++us)*R)->wpList P ops Q rest (a.put o.dst (.slice A' (n+m) c')) w') :
  wpList P ops Q (o::rest) a W:=by
 obtain⟨hown,hO⟩:=Zdj (by omega) h;rcases Nat.eq_zero_or_pos m with rfl|hm
 ·obtain rfl:us=[]:=List.length_eq_zero_iff.1 (by omega)
  obtain⟨A',c',rfl⟩:=h.Zlt;have hc:n<=c':=by
   rcases hown.2 with⟨hv,h0⟩|⟨g,cap,cur,hv,_,_,h3,_⟩
   ·omega
   ·injection hv with _ _ h4;omega
  have hsrc:Src P i.size t (.slice A 0 c) 0 [] W:=by
   refine⟨.inl ⟨e,ht⟩,fun w'=>by simp[Builtin.lenOf],?_,?_,by simp,by simp⟩ <;> cases A <;> simp[Builtin.firstCells,loadCells,loadCellsFrom]
  have hrun:=run_append_nothing (P:=P) W t t o.type e i ht hi A' n c' hc (.slice A 0 c) hsrc;refine wpList_plain hgd fun K' hK'=>?_;unfold Oper.wp;simp[execOp,ho,resolve,invoke,builtin,hs,hx,hrun,Result.andThen];have hK:=K A' c' W (by simpa using h);exact hK' _ _ (by simpa using hK)
 ·obtain⟨ad,hAd,hrd⟩:=hr hm
  subst hAd;refine wpList_append_own_at W hgd s x t ho 0 e i z size bytes ht hi hz hsize hby hzs (by omega) v n xs hs hown ad m c us hx hl hrd (fun u hu=>List.all_eq_true.1 h1 u hu) ?_ ?_ (Nat.zero_le _) ?_
  ·unfold maxLen;omega
  ·have:(n+m)*bytes<=(n+m)*4096:=Nat.mul_le_mul_left _ hb
   omega
  ·intro v' w' hown' hg _ hat
   obtain⟨A',c',hv⟩:=Z1m hown';subst hv;refine K A' c' w' (hO w' _ _ ((Chg.refl _ W).grown hg (fun k hk=>.inl (mem_fpV.2 hk))) ⟨.inl hown',rfl⟩ (fun k hk=>?_));rcases hat with e1|e1
   ·left;rw[mem_fpV] at hk |-;rw[<- e1];exact hk
   ·right;rw[mem_fpV] at hk;rw[e1] at hk;simp at hk;omega
end
theorem Hold.rowSrc {w0 w:World} {R:Asr} {e:TypeId} {size n c:Nat} {xs:List Value} {A:Option Addr} (h:Hold w0 w (rowT e size (.slice A n c) n xs*R)) (hs:1<size):0<n->∃ad,A=some ad/\∀j u,xs[j]?=some u->w.cell? (ad.add j)=some u:=by
 intro hn;obtain⟨g,hA,hc,_⟩:=Hold.rowSBlk h hs hn;refine⟨⟨g,0,none⟩,hA,fun j u hj=>?_⟩;rw[Z23];exact hc j u hj
theorem Hold.rowLen {w0 w:World} {R:Asr} {e:TypeId} {size n:Nat} {v:Value} {xs:List Value} (h:Hold w0 w (rowT e size v n xs*R)):xs.length=n*size:=h.rowSLen
theorem Zbp (x:ObR) (l:List ObR):obL (x::l)=[.int .i64 x.pc,.int .i64 x.kind,.int .u64 x.val]++obL l:=by unfold obL;rw[List.flatMap_cons]
theorem Zio (l:List ObR):(obL l).length=l.length*3:=by
 induction l with
 | nil=>rfl
 | cons i p ih=>rw[Zbp,List.length_append,ih];show 3+p.length*3=(p.length+1)*3;omega
theorem Zip (a b:List ObR):obL (a++b)=obL a++obL b:=by unfold obL;rw[List.flatMap_append]
theorem Za4:∀l:List ObR,(obL l).all (fun u=>u.oneCell')=true
 | []=>rfl
 | x::l=>by
  rw[Zbp,List.all_append,Za4 l];rfl
end Go.Proofs.YtmlfangeanmmeaaGreatDoor
