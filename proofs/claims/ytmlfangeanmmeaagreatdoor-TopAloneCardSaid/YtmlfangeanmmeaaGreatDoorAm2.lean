/-
 What the proof of TopAlone leans on, part 2 of 49: Cp. No statement of its own.
-/
import Derived.Test.YtmlfangeanmmeaaGreatDoorAm1
import Derived.Laws.Cells
set_option maxHeartbeats 16000000
set_option maxRecDepth 8000
set_option linter.unusedVariables false
namespace Go.Proofs.YtmlfangeanmmeaaGreatDoor
open Go.RowKit
theorem Z23 (g i:Nat):(⟨g,0,none⟩:Addr).add i=⟨g,i,none⟩:=by unfold Addr.add;split <;> simp_all
theorem Z1h {P:Program} {w:World} {ops:Array Oper} {rest:List Oper} {o:Oper} {a:Act} {Q:Exit->Act->World->Prop} (hw:Region.wanted o (yielded ops a.tmps)=true)
  (h:∀K:Act->World->Prop,(∀a w,wpList P ops Q rest a w->K a w)->o.wp P a w K Q):wpList P ops Q (o::rest) a w :=
 wpList_step fun K hK=>by rw[if_pos hw];exact h K hK
theorem Z03 {P:Program} {w:World} {ops:Array Oper} {rest:List Oper} {o:Oper} {a:Act} {Q:Exit->Act->World->Prop} (hgd:Region.wanted o (yielded ops a.tmps)=true) (T:TypeId) (x:Operand)
  (ho:o.op = .load T x) (g:Nat) (t:TypeId) (cs:Array Value) (hx:a.eval x = .pointer (some ⟨g,0,none⟩)) (hA:∀w,(isAgg T).run P w = .ok true w) (n:Nat) (hs:∀w,(sizeOf T).run P w = .ok n w) (hb:Blk w g t cs) (hn:cs.size=n)
  (K:wpList P ops Q rest (a.put o.dst (.agg cs)) w):wpList P ops Q (o::rest) a w:=by
 refine Z1h hgd fun K' hK'=>?_;subst hn;have hl:(loadCells ⟨g,0,none⟩ cs.toList.length).run P w = .ok cs.toList.toArray w:=by
  refine run_loadCells_list w _ _ fun j v hj=>?_;rw[Z23];refine hb.some_ ?_;rw[<- hj];simp
 have hl2:(loadCells ⟨g,0,none⟩ cs.size).run P w = .ok cs w:=by simpa using hl
 unfold Oper.wp;simp[execOp,ho,hx,Instr.loadAt,Instr.sureAddr,loadVar,hA,hs,hl2,Result.andThen,Sem.run_bind];exact hK' _ _ K
theorem Z33 {P:Program} {w:World} {ops:Array Oper} {rest:List Oper} {o:Oper} {a:Act} {Q:Exit->Act->World->Prop} (hgd:Region.wanted o (yielded ops a.tmps)=true) (T:TypeId) (x:Operand)
  (ho:o.op = .load T x) (g off:Nat) (t:TypeId) (cs ds:Array Value) (hx:a.eval x = .pointer (some ⟨g,off,none⟩)) (hA:∀w,(isAgg T).run P w = .ok true w) (n:Nat) (hs:∀w,(sizeOf T).run P w = .ok n w) (hb:Blk w g t cs)
  (hd:(cs.toList.drop off).take n=ds.toList) (hn:ds.size=n)
  (K:wpList P ops Q rest (a.put o.dst (.agg ds)) w):wpList P ops Q (o::rest) a w:=by
 refine Z1h hgd fun K' hK'=>?_;subst hn;have hl:(loadCells ⟨g,off,none⟩ ds.toList.length).run P w = .ok ds.toList.toArray w:=by
  refine run_loadCells_list w _ _ fun j v hj=>?_;have ha:(⟨g,off,none⟩:Addr).add j=⟨g,off+j,none⟩:=by unfold Addr.add;split <;> simp_all
  rw[ha];refine hb.some_ ?_;have hl:=(List.getElem?_eq_some_iff.1 hj).1;rw[Array.length_toList] at hl;rw[<- hd,List.getElem?_take,if_pos hl,List.getElem?_drop] at hj;rw[<- hj];simp
 have hl2:(loadCells ⟨g,off,none⟩ ds.size).run P w = .ok ds w:=by simpa using hl
 unfold Oper.wp;simp[execOp,ho,hx,Instr.loadAt,Instr.sureAddr,loadVar,hA,hs,hl2,Result.andThen,Sem.run_bind];exact hK' _ _ K
def over (cs:Array Value):Nat->List Value->Array Value
 | _,[]=>cs
 | i,v::r=>over (cs.setIfInBounds i v) (i+1) r
theorem Z8t:∀(vs:List Value) (cs:Array Value) (i:Nat),(over cs i vs).size=cs.size
 | [],cs,i=>rfl
 | v::r,cs,i=>by rw[over,Z8t r];simp
theorem Z7i:∀(vs:List Value) (cs:Array Value) (i j:Nat),i+vs.length<=cs.size->(over cs i vs)[j]?=if i<=j/\j<i+vs.length then vs[j - i]? else cs[j]?
 | [],cs,i,j,h=>by
  rw[over,if_neg];simp only[List.length_nil];omega
 | v::r,cs,i,j,h=>by
  simp only[List.length_cons] at h;rw[over,Z7i r _ _ _ (by simp;omega)];simp only[List.length_cons]
  by_cases h1:i+1<=j/\j<i+1+r.length
  ·rw[if_pos h1,if_pos (by omega)]
   obtain⟨k,hk⟩:∃k,j - i=k+1:=⟨j - i - 1,by omega⟩;rw[hk,List.getElem?_cons_succ]
   congr 1;omega
  ·rw[if_neg h1]
   by_cases h2:i=j
   ·subst h2
    rw[if_pos (by omega),Nat.sub_self,Array.getElem?_setIfInBounds_self_of_lt (by omega)]
    rfl
   ·rw[if_neg (by omega),Array.getElem?_setIfInBounds_ne h2]
theorem Zg3 (cs c2:Array Value) (h:c2.size=cs.size):over cs 0 c2.toList=c2:=by
 apply Array.ext_getElem?;intro j;rw[Z7i _ _ _ _ (by simp;omega)]
 by_cases hj:j<c2.size
 ·rw[if_pos (by simp;omega)];simp
 ·rw[if_neg (by simp;omega),Array.getElem?_eq_none (by omega),Array.getElem?_eq_none (by omega)]
theorem Z6r {P:Program} {w:World} {p:Addr} {v u:Value} (hv:v.oneCell'=true) (hc:w.cell? p=some u) (hf:w.frozen? p=false):(store p v).run P w = .ok () (w.setCell p v):=by
 cases v <;> simp_all [store,Sem.run,Value.oneCell']
theorem Zbg {P:Program} {w0:World} {R:Asr} {t:TypeId} {g:Nat}:∀(vs:List Value) (i:Nat) (cs:Array Value) (w:World),Hold w0 w (blkA t g cs*R)->i+vs.length<=cs.size->(∀v∈vs,v.oneCell'=true) ->
  ∃w',(storeCells ⟨g,0,none⟩ vs i).run P w = .ok () w'/\Hold w0 w' (blkA t g (over cs i vs)*R)
 | [],i,cs,w,h,_,_=>⟨w,rfl,h⟩
 | v::r,i,cs,w,h,hl,h1=>by
  simp only[List.length_cons] at hl;have hi:i<cs.size:=by omega
  have hc:=h.blk.some_ (i:=i) (Array.getElem?_eq_getElem hi);obtain⟨w',hr,h'⟩:=Zbg (P:=P) r (i+1) (cs.setIfInBounds i v) _ (h.Zlp i v) (by simp;omega) (fun u hu=>h1 u (List.mem_cons_of_mem _ hu));refine⟨w',?_,h'⟩;rw[storeCells,Z23,Sem.run_bind,Z6r (h1 v List.mem_cons_self) hc (h.blk.frozen i)];exact hr
theorem Z00 {P:Program} {w0 w:World} {R:Asr} {ops:Array Oper} {rest:List Oper} {o:Oper} {a:Act} {Q:Exit->Act->World->Prop} (hgd:Region.wanted o (yielded ops a.tmps)=true) (T:TypeId) (p x:Operand)
  (ho:o.op = .store T p x) (g:Nat) (t:TypeId) (cs c2:Array Value) (hp:a.eval p = .pointer (some ⟨g,0,none⟩)) (hx:(a.eval x).cells=c2) (n:Nat) (hs:∀w,(sizeOf T).run P w = .ok n w) (h:Hold w0 w (blkA t g cs*R))
  (hn:c2.size=n) (hz:c2.size=cs.size) (h1:(c2.toList.all fun u=>u.oneCell')=true)
  (K:∀w',Hold w0 w' (blkA t g c2*R)->wpList P ops Q rest (a.put o.dst undef) w'):wpList P ops Q (o::rest) a w:=by
 refine Z1h hgd fun K' hK'=>?_;subst hn;obtain⟨w',hr,h'⟩:=Zbg (P:=P) c2.toList 0 cs w h (by simp;omega) (fun v hv=>List.all_eq_true.1 h1 v hv);rw[Zg3 cs c2 hz] at h';unfold Oper.wp;simp[execOp,ho,hp,hx,Instr.storeAt,Instr.sureAddr,storeVar,hs,hr,Result.andThen,Sem.run_bind];exact hK' _ _ (K w' h')
theorem Z05 {P:Program} {w:World} {fn:Func} {x y:Tmp} {T:TypeId} (h:fn.results=#[.cell x T,.tmp y]) (tmps:Array Value) {g:Nat} {t:TypeId} {cs:Array Value} (hx:tmps.getD x undef = .pointer (some ⟨g,0,none⟩))
  (hA:∀w,(isAgg T).run P w = .ok true w) (n:Nat) (hs:∀w,(sizeOf T).run P w = .ok n w) (hb:Blk w g t cs) (hn:cs.size=n):(results fn tmps).run P w = .ok (.tuple #[.agg cs,tmps.getD y undef]) w:=by
 subst hn;have hl:(loadCells ⟨g,0,none⟩ cs.toList.length).run P w = .ok cs.toList.toArray w:=by
  refine run_loadCells_list w _ _ fun j v hj=>?_;rw[Z23];refine hb.some_ ?_;rw[<- hj];simp
 have hl2:(loadCells ⟨g,0,none⟩ cs.size).run P w = .ok cs w:=by simpa using hl
 unfold results;rw[h];rw[Array.getD_eq_getD_getElem?] at hx;simp[hx,asAddr,loadVar,hA,hs,hl2,Result.andThen,Sem.run_bind]
theorem Z0j {P:Program} {w:World} {fn:Func} {x:Tmp} {T:TypeId} (h:fn.results=#[.cell x T]) (tmps:Array Value) {g:Nat} {t:TypeId} {cs:Array Value} (hx:tmps.getD x undef = .pointer (some ⟨g,0,none⟩))
  (hA:∀w,(isAgg T).run P w = .ok true w) (n:Nat) (hs:∀w,(sizeOf T).run P w = .ok n w) (hb:Blk w g t cs) (hn:cs.size=n):(results fn tmps).run P w = .ok (.agg cs) w:=by
 subst hn;have hl:(loadCells ⟨g,0,none⟩ cs.toList.length).run P w = .ok cs.toList.toArray w:=by
  refine run_loadCells_list w _ _ fun j v hj=>?_;rw[Z23];refine hb.some_ ?_;rw[<- hj];simp
 have hl2:(loadCells ⟨g,0,none⟩ cs.size).run P w = .ok cs w:=by simpa using hl
 unfold results;rw[h];rw[Array.getD_eq_getD_getElem?] at hx;simp[hx,asAddr,loadVar,hA,hs,hl2,Result.andThen,Sem.run_bind]
end Go.Proofs.YtmlfangeanmmeaaGreatDoor
