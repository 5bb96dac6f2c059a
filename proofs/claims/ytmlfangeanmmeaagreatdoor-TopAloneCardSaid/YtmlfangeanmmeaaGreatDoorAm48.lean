/-
 What the proof of TopAlone leans on, part 48 of 49: Arg3. No statement of its own.
-/
import Derived.Test.YtmlfangeanmmeaaGreatDoorAm1
import Derived.WideKeyArr2
set_option maxHeartbeats 16000000
set_option maxRecDepth 8000
set_option linter.unusedVariables false
namespace Go.Proofs.YtmlfangeanmmeaaGreatDoor
open Go.RowKit Go.ChangeShapes Go.WideShapes
section
variable {H:Type} {enc:TypeId × Value->H} {P:Program} {w:World} {base b0:Nat} {sp:Nat->Bool} {held:Bool}
theorem Zbv {α β:Type} {f:α->Option β}:∀{l:List α} {ys:List β},l.mapM f=some ys->∀a∈l,∃y,f a=some y
 | [],_,_,a,ha=>by cases ha
 | b::l,ys,h,a,ha=>by
  rw[List.mapM_cons] at h;simp only[bind,Option.bind_eq_some_iff,pure,Option.some.injEq] at h;obtain⟨y,hy,zs,hz,rfl⟩:=h;rcases List.mem_cons.1 ha with rfl|ha
  ·exact⟨y,hy⟩
  ·exact Zbv hz a ha
theorem Z67 {q:IntKind}:∀l:List Value,(∀v∈l,∃a,v = .int q a/\(Lit.int q a).wf=true)->∃zs:List Int,l=zs.map (Value.int q)/\∀z∈zs,(Lit.int q z).wf=true
 | [],_=>⟨[],rfl,fun z hz=>by cases hz⟩
 | v::l,h=>by
  obtain⟨a,rfl,ha⟩:=h v (by simp);obtain⟨zs,rfl,hz⟩:=Z67 l (fun u hu=>h u (by simp[hu]));exact⟨a::zs,rfl,fun z hz2=>(List.mem_cons.1 hz2).elim (fun h=>h ▸ ha) (fun h=>hz z h)⟩
theorem Zh4 {k e:TypeId} {n:Nat} {q:IntKind} (hu:P.underlying k=some (.array n e)) (he:P.underlying e=some (.int q)) (h1:P.cellsOf e=1) (hk:P.cellsOf k=n) {r:Reach} {v:Value} {d:DataW H} {ps:List MemPlace}
  (hv:Value.okWide P w r b0 k v) (hd:DataW.Trod enc P w base sp held k v d ps):∃zs:List Int,zs.length=n/\v = .agg (zs.map (Value.int q)).toArray/\∀z∈zs,(Lit.int q z).wf=true:=by
 simp only[Value.okWide,hu] at hv;obtain⟨cs,rfl,hs,_⟩:=hv;obtain⟨fuel,hf⟩:=hd
 cases fuel with
 | zero=>simp[DataW.trod] at hf
 | succ m =>
  rw[DataW.trod_step] at hf;unfold DataW.trodStep at hf;simp only[hu,Value.cells] at hf;rw[if_pos (by rw[hk];rw[hk] at hs;simpa using hs)] at hf;simp only[Option.map_eq_some_iff] at hf;obtain⟨ys,hy,_⟩:=hf;obtain⟨zs,hz,hw⟩:=Z67 (q:=q) cs.toList (fun v hv=>by
   obtain⟨i,hi,rfl⟩:=List.mem_iff_getElem.1 hv;obtain⟨y,hy2⟩:=Zbv hy i (by simp at hi |-;omega);obtain⟨a,ea,_,wa⟩:=DataW.trod_int he hy2;rw[h1,Nat.mul_one,List.drop_eq_getElem_cons hi] at ea;simp at ea;exact⟨a,by simpa using ea,wa⟩)
  refine⟨zs,?_,?_,hw⟩
  ·have:cs.toList.length=zs.length:=by rw[hz];simp
   simp at this;omega
  ·rw[<- hz]
theorem Zh5 {k e:TypeId} {q:IntKind} (hu:P.underlying k=some (.array 5 e)) (he:P.underlying e=some (.int q)) (h1:P.cellsOf e=1) (hk:P.cellsOf k=5) {r:Reach} {v:Value} {d:DataW H} {ps:List MemPlace}
  (hv:Value.okWide P w r b0 k v) (hd:DataW.Trod enc P w base sp held k v d ps):∃x0 x1 x2 x3 x4:Int,v = .agg #[.int q x0,.int q x1,.int q x2,.int q x3,.int q x4]/\(Lit.int q x0).wf=true/\(Lit.int q x1).wf=true/\(Lit.int q x2).wf=true/\(Lit.int q x3).wf=true/\(Lit.int q x4).wf=true:=by
 obtain⟨zs,hl,rfl,hw⟩:=Zh4 hu he h1 hk hv hd
 match zs,hl with
 | [x0,x1,x2,x3,x4],_=>exact⟨x0,x1,x2,x3,x4,by simp,hw _ (by simp),hw _ (by simp),hw _ (by simp),hw _ (by simp),hw _ (by simp)⟩
end
end Go.Proofs.YtmlfangeanmmeaaGreatDoor
