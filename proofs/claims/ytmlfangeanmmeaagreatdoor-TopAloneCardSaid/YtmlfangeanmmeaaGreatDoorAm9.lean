/-
 What the proof of TopAlone leans on, part 9 of 49: Fn. No statement of its own.
-/
import Derived.Test.YtmlfangeanmmeaaGreatDoorAm1
import Derived.Test.YtmlfangeanmmeaaGreatDoorAm2
import Derived.Test.YtmlfangeanmmeaaGreatDoorAm7
import Derived.Test.YtmlfangeanmmeaaGreatDoorAm8
set_option maxHeartbeats 16000000
set_option maxRecDepth 8000
set_option linter.unusedVariables false
namespace Go.Proofs.YtmlfangeanmmeaaGreatDoor
open Go.RowKit
def updV (F:Nat->Value) (i:Nat) (u:Value):Nat->Value:=fun j=>if j=i then u else F j
def Zdv (F:Nat->Value) (off:Nat) (l:List Value):Nat->Value:=fun j=>if off<=j/\j<off+l.length then l.getD (j - off) undef else F j
def fnA (t:TypeId) (g n:Nat) (F:Nat->Value):Asr:=blkA t g ((List.range n).map F).toArray
theorem Zc2 {t:TypeId} {g n:Nat} {F G:Nat->Value} (h:∀i,i<n->F i=G i):fnA t g n F=fnA t g n G:=by
 unfold fnA;rw[show (List.range n).map F=(List.range n).map G from List.map_congr_left fun i hi=>h i (by simpa using hi)]
section
variable {w0 w:World} {R:Asr} {t:TypeId} {g n i:Nat} {F:Nat->Value}
theorem Z0g (h:Hold w0 w (fnA t g n F*R)) (hi:i<n):w.cell? ⟨g,i,none⟩=some (F i):=h.blk.some_ (by simp[hi])
theorem Z22 (h:Hold w0 w (fnA t g n F*R)) (i:Nat):w.frozen? ⟨g,i,none⟩=false:=h.blk.frozen i
theorem Z0p (h:Hold w0 w (fnA t g n F*R)) (hi:i<n) (u:Value):Hold w0 (w.setCell ⟨g,i,none⟩ u) (fnA t g n (updV F i u)*R):=by
 have h1:=h.Zlp i u;have e:((List.range n).map F).toArray.setIfInBounds i u=((List.range n).map (updV F i u)).toArray:=by
  apply Array.ext';simp only[Array.toList_setIfInBounds];refine List.ext_getElem? fun j=>?_
  by_cases hj:i=j
  ·subst hj
   rw[List.getElem?_set_self (by simp;exact hi)];simp[hi,updV]
  ·rw[List.getElem?_set_ne hj]
   by_cases hj2:j<n
   ·simp[hj2,updV,Ne.symm hj]
   ·simp[hj2]
 rw[e] at h1;exact h1
theorem Zhr (h:Hold w0 w R) (t:TypeId) (n:Nat) (F:Nat->Value):Hold w0 (w.alloc (.cells ((List.range n).map F).toArray t)) (fnA t w.heap.size n F*R):=h.newBlk
theorem Zf7 (g off j:Nat):(⟨g,off,none⟩:Addr).add j=⟨g,off+j,none⟩:=by unfold Addr.add;split <;> simp_all
theorem Z0l {P:Program} {ops:Array Oper} {rest:List Oper} {o:Oper} {a:Act} {Q:Exit->Act->World->Prop} (hgd:Region.wanted o (yielded ops a.tmps)=true) (T:TypeId) (x:Operand)
  (ho:o.op = .load T x) (g off:Nat) (t:TypeId) (n:Nat) (F:Nat->Value) (ds:Array Value) (hx:a.eval x = .pointer (some ⟨g,off,none⟩)) (hA:∀w,(isAgg T).run P w = .ok true w) (m:Nat) (hs:∀w,(sizeOf T).run P w = .ok m w) (h:Hold w0 w (fnA t g n F*R))
  (hd:ds.toList=(List.range m).map fun j=>F (off+j)) (hn:off+m<=n)
  (K:wpList P ops Q rest (a.put o.dst (.agg ds)) w):wpList P ops Q (o::rest) a w:=by
 refine Z33 hgd T x ho g off t _ ds hx hA m hs h.blk ?_ (by rw[<- Array.length_toList,hd];simp) K;rw[hd];refine List.ext_getElem? fun j=>?_;rw[List.getElem?_take]
 by_cases hj:j<m
 ·rw[if_pos hj,List.getElem?_drop,List.getElem?_map,List.getElem?_map,List.getElem?_range (by omega),List.getElem?_range hj]
  rfl
 ·rw[if_neg hj,List.getElem?_eq_none (by simp;omega)]
theorem Z8o {P:Program} {g off:Nat}:∀(vs:List Value) (i:Nat) (F:Nat->Value) (w:World),Hold w0 w (fnA t g n F*R)->off+i+vs.length<=n->(∀v∈vs,v.oneCell'=true) ->
  ∃w',(storeCells ⟨g,off,none⟩ vs i).run P w = .ok () w'/\Hold w0 w' (fnA t g n (Zdv F (off+i) vs)*R)
 | [],i,F,w,h,_,_=>⟨w,rfl,by
   rw[Zc2 (G:=F) (fun j _=>by unfold Zdv;rw[if_neg (by simp only[List.length_nil];omega)])];exact h⟩
 | v::r, i,F,w,h,hl,h1=>by
  simp only[List.length_cons] at hl;have hi:off+i<n:=by omega
  obtain⟨w',hr,h'⟩:=Z8o (P:=P) (off:=off) r (i+1) _ _ (Z0p h hi v) (by omega) (fun u hu=>h1 u (List.mem_cons_of_mem _ hu));refine⟨w',?_,?_⟩
  ·rw[storeCells,Zf7,Sem.run_bind,Z6r (h1 v List.mem_cons_self) (Z0g h hi) (Z22 h _)]
   exact hr
  ·rw[Zc2 (G:=Zdv (updV F (off+i) v) (off+(i+1)) r) (fun j _=>by
    unfold Zdv updV;simp only[List.length_cons]
    by_cases h2:off+(i+1)<=j/\j<off+(i+1)+r.length
    ·rw[if_pos h2,if_pos (by omega)]
     obtain⟨k,hk⟩:∃k,j - (off+i)=k+1:=⟨j - (off+i) - 1,by omega⟩;rw[hk,List.getD_cons_succ]
     congr 1;omega
    ·rw[if_neg h2]
     by_cases h3:j=off+i
     ·subst h3
      rw[if_pos (by omega),if_pos rfl,Nat.sub_self];rfl
     ·rw[if_neg (by omega),if_neg h3])]
   exact h'
theorem Z0q {P:Program} {ops:Array Oper} {rest:List Oper} {o:Oper} {a:Act} {Q:Exit->Act->World->Prop} (hgd:Region.wanted o (yielded ops a.tmps)=true) (T:TypeId) (p x:Operand)
  (ho:o.op = .store T p x) (g off:Nat) (t:TypeId) (n:Nat) (F:Nat->Value) (c2:Array Value) (hp:a.eval p = .pointer (some ⟨g,off,none⟩)) (hx:(a.eval x).cells=c2) (m:Nat) (hs:∀w,(sizeOf T).run P w = .ok m w) (h:Hold w0 w (fnA t g n F*R))
  (hn:c2.size=m) (hz:off+m<=n) (h1:(c2.toList.all fun u=>u.oneCell')=true)
  (K:∀w',Hold w0 w' (fnA t g n (Zdv F off c2.toList)*R)->wpList P ops Q rest (a.put o.dst undef) w'):wpList P ops Q (o::rest) a w:=by
 refine Z1h hgd fun K' hK'=>?_;subst hn;obtain⟨w',hr,h'⟩:=Z8o (P:=P) (off:=off) c2.toList 0 F w h (by simp;omega) (fun v hv=>List.all_eq_true.1 h1 v hv);rw[Nat.add_zero] at h';unfold Oper.wp;simp[execOp,ho,hp,hx,Instr.storeAt,Instr.sureAddr,storeVar,hs,hr,Result.andThen,Sem.run_bind];exact hK' _ _ (K w' h')
end
def stA (g cap:Nat) (xs:List Int):Asr:=⟨fun w fp=>SetAt 251 w fp g cap xs,fun h hc hS=>h.chg hc hS,fun h=>h.lt⟩
def lgA (g:Nat) (L:PL):Asr:=⟨fun w fp=>LogAt 227 w fp g L,fun h hc hS=>h.chg hc hS,fun h=>h.lt⟩
section
variable {w0 w:World} {R:Asr} {g cap:Nat} {xs:List Int} {L:PL}
theorem Hold.listQue {w':World} {e:TypeId} {A:Option Addr} {n c:Nat} {us:List Value} (h:Hold w0 w R) (ho:w'.ownsRow w.heap.size e 1 (.slice A n c) n us) (hc:Chg [] w w'):Hold w0 w' (queA e (.slice A n c) us*R) :=
 h.new hc (Z8q ho) (fun b hb=>Z8p ho b hb)
theorem Zjw (c:Int) (h:Hold w0 w R):Calls Tryz.prog 187 #[.int .i64 c] w fun e w'=>∃g,e = .returned (.pointer (some ⟨g,0,none⟩))/\Hold w0 w' (stA g (Z09 c) []*R):=by
 refine(Zfr w c).mono ?_;rintro e w' ⟨g,rfl,hs,hc,hg⟩;exact⟨g,rfl,h.new hc hs (by simpa using hg)⟩
theorem Zjx (v:Int) (h:Hold w0 w (stA g cap xs*R)) (hl:xs.length<=cap) (hcap:cap<=1000000) :
  Calls Tryz.prog 149 #[.pointer (some ⟨g,0,none⟩),.int .i64 v] w fun e w'=>e = .returned (.bool (Z4x cap xs v))/\Hold w0 w' (stA g cap (addL cap xs v)*R):=by
 obtain⟨fp,hp,K⟩:=h.open_;refine(Zid w fp g cap xs v hp hl hcap).mono ?_;rintro e w' ⟨rfl,fp',hs,hc,hf⟩;exact⟨rfl,K w' _ fp' hc hs hf⟩
theorem Zdb (h:Hold w0 w (stA g cap xs*R)) (hl:xs.length<=1000000) :
  Calls Tryz.prog 161 #[.pointer (some ⟨g,0,none⟩)] w fun e w'=>∃A c,e = .returned (.slice A xs.length c)/\Hold w0 w' (queA 3 (.slice A xs.length c) (xs.map (Value.int .i64))*(stA g cap xs*R)):=by
 obtain⟨fp,hp⟩:=h.get;refine(Zfs w fp g cap xs hp hl).mono ?_;rintro e w' ⟨A,c,rfl,ho,hc⟩;exact⟨A,c,rfl,h.listQue ho hc⟩
theorem Zki (c:Int) (h:Hold w0 w R):Calls Tryz.prog 188 #[.int .i64 c] w fun e w'=>∃g,e = .returned (.pointer (some ⟨g,0,none⟩))/\Hold w0 w' (lgA g (newL c)*R):=by
 refine(Zfw w c).mono ?_;rintro e w' ⟨g,fp,rfl,hs,hc,hg⟩;exact⟨g,rfl,h.new hc hs hg⟩
theorem Zho (a v:Int) (h:Hold w0 w (lgA g L*R)) (H:Inv L) :
  Calls Tryz.prog 186 #[.pointer (some ⟨g,0,none⟩),.int .i64 a,.int .u64 v] w fun e w'=>e = .returned (.bool (Z1y L a))/\Hold w0 w' (lgA g (putL L a v)*R):=by
 obtain⟨fp,hp,K⟩:=h.open_;refine(Zj1 w fp g L a v hp H).mono ?_;rintro e w' ⟨rfl,fp',hs,hc,hf⟩;exact⟨rfl,K w' _ fp' hc hs hf⟩
theorem Ze8 (a:Int) (h:Hold w0 w (lgA g L*R)) (H:Inv L) :
  Calls Tryz.prog 113 #[.pointer (some ⟨g,0,none⟩),.int .i64 a] w fun e w'=>e = .returned (.tuple #[.int .u64 (getV L a),.bool (Z91 L a)])/\Hold w0 w' (lgA g L*R):=by
 obtain⟨fp,hp⟩:=h.get;refine(Zj3 w fp g L a hp H).mono ?_;rintro e w' ⟨rfl,q,rfl⟩;exact⟨rfl,h.drewN q⟩
theorem Zkj (h:Hold w0 w (lgA g L*R)):Calls Tryz.prog 213 #[.pointer (some ⟨g,0,none⟩)] w fun e w'=>e = .returned (.int .i64 L.addrs.length)/\w=w':=by
 obtain⟨fp,hp⟩:=h.get;exact Zj2 w fp g L hp
theorem Z5t (h:Hold w0 w (lgA g L*R)) (H:Inv L) :
  Calls Tryz.prog 101 #[.pointer (some ⟨g,0,none⟩)] w fun e w'=>∃A c,e = .returned (.slice A L.addrs.length c)/\Hold w0 w' (queA 3 (.slice A L.addrs.length c) (L.addrs.map (Value.int .i64))*(lgA g L*R)):=by
 obtain⟨fp,hp⟩:=h.get;refine(Ze3 w fp g L hp H).mono ?_;rintro e w' ⟨A,c,rfl,ho,hc⟩;exact⟨A,c,rfl,h.listQue ho hc⟩
theorem Ze7 (h:Hold w0 w (lgA g L*R)) (H:Inv L) :
  Calls Tryz.prog 169 #[.pointer (some ⟨g,0,none⟩)] w fun e w'=>∃A c,e = .returned (.slice A L.addrs.length c)/\Hold w0 w' (queA 34 (.slice A L.addrs.length c) (L.vals.map (Value.int .u64))*(lgA g L*R)):=by
 obtain⟨fp,hp⟩:=h.get;refine(Zcm w fp g L hp H).mono ?_;rintro e w' ⟨A,c,rfl,ho,hc⟩;exact⟨A,c,rfl,h.listQue ho hc⟩
end
end Go.Proofs.YtmlfangeanmmeaaGreatDoor
