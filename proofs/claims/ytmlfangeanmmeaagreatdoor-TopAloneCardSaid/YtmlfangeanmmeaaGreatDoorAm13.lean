/-
 What the proof of TopAlone leans on, part 13 of 49: Map. No statement of its own.
-/
import Derived.Test.YtmlfangeanmmeaaGreatDoorAm1
import Derived.Maps.Own
set_option maxHeartbeats 16000000
set_option maxRecDepth 8000
set_option linter.unusedVariables false
namespace Go.Proofs.YtmlfangeanmmeaaGreatDoor
open Go.RowKit Go.ChangeMaps
def look (os:List (Option Value)) (k:Int):Option Value:=if 1<=k then (os[(k - 1).toNat]?).join else none
def Says (es:List MapEntry) (os:List (Option Value)):Prop:=∀(k:Int) (i:Nat),(Instr.findNow (.int .i64) (.int .i64 k) es i).map (Option.map (·.2))=some (look os k)
theorem Z57 (k k':Int) (v:Value) (c:Nat):∀(es:List MapEntry) (i:Nat),(Instr.findNow (.int .i64) (.int .i64 k) (es++[⟨.int .i64 k',v,c⟩]) i).map (Option.map (·.2)) =
  (match (Instr.findNow (.int .i64) (.int .i64 k) es i).map (Option.map (·.2)) with
  | some none=>some (if k=k' then some v else none)
  | r=>r)
 | [],i=>by
  simp only[List.nil_append,Instr.findNow,Instr.sameNow,if_true,Option.map_some,Option.map_none]
  by_cases h:k=k'
  ·subst h;simp
  ·have:(k==k')=false:=beq_eq_false_iff_ne.2 h
   simp[this,h]
 | e::es,i=>by
  simp only[List.cons_append,Instr.findNow]
  cases hs:Instr.sameNow (.int .i64) (.int .i64 k) e.key with
  | none=>simp
  | some b =>
   cases b with
   | true=>simp
   | false=>simpa using Z57 k k' v c es (i+1)
theorem Says.nil (n:Nat):Says [] (List.replicate n none):=fun k i=>by
 simp only[Instr.findNow,look,Option.map_some,Option.map_none]
 split
 ·cases h:(List.replicate n (none:Option Value))[(k - 1).toNat]? with
  | none=>rfl
  | some x =>
   rw[List.getElem?_replicate] at h
   split at h
   ·cases h;rfl
   ·cases h
 ·rfl
theorem Says.push {es:List MapEntry} {os:List (Option Value)} (h:Says es os) {j:Nat} (hj:j<os.length) (h0:os[j]?=some none) (v:Value) (c:Nat):Says (es++[⟨.int .i64 ((j:Int)+1),v,c⟩]) (os.set j (some v)):=fun k i=>by
 rw[Z57,h k i]
 by_cases hk:k=(j:Int)+1
 ·subst hk
  have e1:((j:Int)+1 - 1).toNat=j:=by omega
  rw[show look os ((j:Int)+1)=none by simp only[look,e1,h0];simp,show look (os.set j (some v)) ((j:Int)+1)=some v by simp[look,hj];omega];simp
 ·by_cases h1:1<=k
  ·have e2:j≠(k - 1).toNat:=by omega
   simp only[look,if_pos h1,List.getElem?_set_ne e2]
   cases (os[(k - 1).toNat]?).join <;> simp[hk]
  ·simp[look,h1,hk]
def mapA (m:Nat) (os:List (Option Value)):Asr where
 P w fp:=fp=[m]/\∃es clock,w.heap[m]?=some (.map es clock)/\Says es.toList os
 chg:=by
  rintro S w w' fp ⟨rfl,es,clock,hb,hs⟩ hc hS;exact⟨rfl,es,clock,by rw[hc.block m (Array.getElem?_eq_some_iff.1 hb).1 (hS m (by simp))];exact hb,hs⟩
 lt:=by
  rintro w fp ⟨rfl,es,clock,hb,hs⟩ b hb';rw[List.mem_singleton.1 hb'];exact(Array.getElem?_eq_some_iff.1 hb).1
section
variable {P:Program} {w0 w:World} {R:Asr} {m:Nat} {os:List (Option Value)} {t kt et:TypeId}
theorem Hold.newMap (h:Hold w0 w R) (n:Nat):Hold w0 (w.alloc (.map #[] 0)) (mapA w.heap.size (List.replicate n none)*R) :=
 h.new (fp:=[w.heap.size]) ((Chg.refl _ _).alloc _) ⟨rfl,#[],0,(MapKept.heap_alloc w _).1,Says.nil n⟩ (by simp)
theorem Z6a {k:Int} {es:List MapEntry} (hk:P.underlying kt=some (.int .i64)) {r:Option (Nat × Value)} (h:Instr.findNow (.int .i64) (.int .i64 k) es 0=some r) (w:World):(Instr.findKey kt (.int .i64 k) es).run P w = .ok r w:=by
 simp[Instr.findKey,run_underlying hk,h]
theorem Z39 {k:Int} {b:Bool} (hk:P.underlying kt=some (.int .i64)) (n:Nat) (w:World):(Instr.checkKey b (n+1) kt (.int .i64 k)).run P w = .ok () w:=by
 unfold Instr.checkKey;simp[run_underlying hk]
theorem Hold.mapLook (h:Hold w0 w (mapA m os*R)) (ht:P.underlying t=some (.map kt et)) (hk:P.underlying kt=some (.int .i64)) (z:Value) (hz:∀w,(zeroValue et).run P w = .ok z w) (k:Int) :
  (Instr.lookup t (.map (some m)) (.int .i64 k) false).run P w = .ok ((look os k).getD z) w:=by
 obtain⟨fp,_,es,clock,hb,hs⟩:=h.get;have h1:=hs k 0;have hgo:(getObj m).run P w = .ok (.map es clock) w:=by simp[getObj,Sem.run,hb]
 cases hf:Instr.findNow (.int .i64) (.int .i64 k) es.toList 0 with
 | none=>rw[hf] at h1;cases h1
 | some r =>
  rw[hf] at h1;simp at h1;have hfk:=Z6a (P:=P) hk hf w
  cases r with
  | none =>
   simp at h1;simp[Instr.lookup,run_underlying ht,hgo,Z39 hk 9999,hfk,hz,<- h1]
  | some p =>
   obtain⟨i,v⟩:=p;simp at h1;simp[Instr.lookup,run_underlying ht,hgo,Z39 hk 9999,hfk,<- h1]
theorem Hold.mapPut (h:Hold w0 w (mapA m os*R)) (ht:P.underlying t=some (.map kt et)) (hk:P.underlying kt=some (.int .i64)) {j:Nat} (hj:j<os.length) (h0:os[j]?=some none) (v:Value) :
  ∃w',(Instr.mapUpdate t (.map (some m)) (.int .i64 ((j:Int)+1)) v).run P w = .ok () w'/\Hold w0 w' (mapA m (os.set j (some v))*R):=by
 obtain⟨fp,⟨hfp,es,clock,hb,hs⟩,K⟩:=h.open_;have h1:=hs ((j:Int)+1) 0;have hl:look os ((j:Int)+1)=none:=by simp[look,h0,show (1:Int)<=(j:Int)+1 by omega]
 have hgo:(getObj m).run P w = .ok (.map es clock) w:=by simp[getObj,Sem.run,hb]
 rw[hl] at h1
 cases hf:Instr.findNow (.int .i64) (.int .i64 ((j:Int)+1)) es.toList 0 with
 | none=>rw[hf] at h1;cases h1
 | some r =>
  rw[hf] at h1;simp at h1;subst h1;have hfk:=Z6a (P:=P) hk hf w;subst hfp;refine⟨setBlock w m (.map (es.push ⟨.int .i64 ((j:Int)+1),v,clock⟩) (clock+1)),?_,K _ _ [m] ⟨rfl,rfl,rfl,?_,fun i hi hn=>?_⟩ ⟨rfl,_,_,heap_setBlock_same hb _,?_⟩ (fun b hb=>.inl hb)⟩
  ·simp[Instr.mapUpdate,run_underlying ht,hgo,Z39 hk 9999,hfk,MapKept.run_setObj_map _ hb,setBlock]
  ·simp[setBlock]
  ·exact heap_setBlock_other hb _ (fun e=>hn (by simp[e]))
  ·simpa using hs.push hj h0 v clock
theorem Z11 {ops:Array Oper} {rest:List Oper} {o:Oper} {a:Act} {Q:Exit->Act->World->Prop} (hgd:o.guard=none) (mo ko xo:Operand)
  (ho:o.op = .insert t mo ko xo) (ht:P.underlying t=some (.map kt et)) (hk:P.underlying kt=some (.int .i64)) (j:Nat) (v:Value)
  (hm:a.eval mo = .map (some m)) (hkv:a.eval ko = .int .i64 ((j:Int)+1)) (hx:a.eval xo=v) (h:Hold w0 w (mapA m os*R)) (hj:j<os.length) (h0:os[j]?=some none)
  (hK:∀w',Hold w0 w' (mapA m (os.set j (some v))*R)->wpList P ops Q rest (a.put o.dst undef) w'):wpList P ops Q (o::rest) a w:=by
 refine wpList_plain hgd fun K' hK'=>?_;obtain⟨w',hrun,hw'⟩:=h.mapPut (P:=P) ht hk hj h0 v;unfold Oper.wp;simp[execOp,ho,hm,hkv,hx,hrun,Result.andThen];exact hK' _ _ (hK w' hw')
end
end Go.Proofs.YtmlfangeanmmeaaGreatDoor
