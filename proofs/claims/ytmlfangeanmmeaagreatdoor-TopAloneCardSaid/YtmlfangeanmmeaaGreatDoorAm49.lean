/-
 What the proof of TopAlone leans on, part 49 of 49: Zq. No statement of its own.
-/
import Derived.Test.YtmlfangeanmmeaaGreatDoorAm47
import Derived.Test.YtmlfangeanmmeaaGreatDoorAm48
import Derived.Test.YtmlfangeanmmeaaGreatDoorTie
import Derived.ProofKit
import Derived.OpenShut
import Derived.LaidMore
import Derived.Lay
import Derived.SevenTiedAt
import Derived.Stop.Joined
set_option maxHeartbeats 16000000
set_option maxRecDepth 8000
set_option linter.unusedVariables false
namespace Go.Proofs.YtmlfangeanmmeaaGreatDoor
open Go Go.ChangeShapes Go.WideShapes Go.ChangeAt Go.RowKit
abbrev Zag : List (String × DataW Unit) := [("strongtx/isa.forms", Rows.laid_strongtx_isa_forms)]
theorem Zcq {W:World} (h:laidMetH Tryz.prog Zag W):∃(cs:Array Value) (fuel:Nat) (ps:List MemPlace) (enc:TypeId × Value->Unit) (base:Nat) (spare:Nat->Bool) (held:Bool),(∀i,W.cell? ⟨0,i,none⟩=cs[i]?)/\DataW.trod enc Tryz.prog W base spare held fuel 205 cs.toList=some (Rows.laid_strongtx_isa_forms,ps):=by
 rw[MakeChecks.laidMetH_plain _ _ _ (by kernel_rfl)] at h;obtain⟨ps,⟨g,t,cs,fuel,p,q,hg,ht,hv,hd,_,_⟩,_,_⟩:=h;obtain rfl := Option.some.inj ((show Tryz.prog.globalNamed "strongtx/isa.forms" = some 0 by kernel_rfl).symm.trans hg)
 obtain rfl:=Option.some.inj ((show (Tryz.prog.globals[0]?).map (·.type)=some 205 by kernel_rfl).symm.trans ht);exact⟨cs,fuel,p,_,_,_,_,fun i=>World.var?_cell hg hv i,hd⟩
def Zen:List (DataW Unit):=match (Rows.laid_strongtx_isa_forms:DataW Unit) with | .agg l=>l|_=>[]
theorem Zem:(Rows.laid_strongtx_isa_forms:DataW Unit) = .agg Zen:=rfl
theorem Zjc {W:World} (h:laidMetH Tryz.prog Zag W) {k:Nat} (hk:k<18) {nm:DataW Unit} {ops:List UInt8} (hf:Zen[k]?=some (.agg [nm,.lit (.string ops)])):W.cell? ⟨0,k*2+1,none⟩=some (.string ⟨ops.toArray⟩):=by
 obtain⟨cs,fuel,ps,enc,base,spare,held,hc,hd⟩:=Zcq h;obtain⟨xs,m,_,ex,_,hl,hel⟩:=DataW.trod_array Tryz.underlying205 hd;have c2:Tryz.prog.cellsOf 204=2:=by kernel_rfl
 have c1:Tryz.prog.cellsOf 9=1:=by kernel_rfl
 have hE:=hel k hk;rw[c2,List.getElem?_eq_getElem (by omega)] at hE;obtain⟨y0,y1,n,ey,_,h0,h1⟩:=trod_struct2 Tryz.underlying204 hE;replace h1:DataW.trod enc Tryz.prog W base spare held n 9 (((((cs.toList.drop (k*2)).take 2).drop 1).take (Tryz.prog.cellsOf 9)))=some y1:=h1;rw[c1] at h1;obtain⟨s,e1,e2,_⟩:=DataW.trod_string Tryz.underlying9 h1;have e3:Zen=xs.map (·.1):=by
  have:=(Prod.mk.inj ex).1;rw[Zem] at this;exact DataW.agg.inj this
 rw[e3,List.getElem?_map,List.getElem?_eq_getElem (by omega:k<xs.length),ey] at hf;have e4:y1.1 = .lit (.string ops):=by
  have:=Option.some.inj hf;have:=DataW.agg.inj this;injection this with _ h2
  injection h2
 rw[e2] at e4;have e5:s.data.toList=ops:=by
  have:=DataW.lit.inj e4;injection this
 have e6:s=⟨ops.toArray⟩:=by
  obtain⟨d⟩:=s;subst e5;simp
 rw[hc,<- e6];have h2:((((cs.toList.drop (k*2)).take 2).drop 1).take 1)[0]?=some (.string s):=by rw[e1];rfl
 rw[List.getElem?_take,if_pos (by decide),List.getElem?_drop,List.getElem?_take,if_pos (by decide),List.getElem?_drop] at h2;rw[<- h2];simp
theorem Z7x {W:World} (h:laidMetH Tryz.prog Zag W):Z17 W:=by
 intro o ho;rcases Z1s ho with rfl|rfl|rfl|rfl|rfl|rfl|rfl|rfl|rfl|rfl|rfl|rfl|rfl|rfl|rfl|rfl|rfl|rfl
 all_goals exact Zjc h (by decide) rfl
theorem Zf3 {H:Type} {enc:TypeId × Value->H} {P:Program} {w:World} {base b0:Nat} {sp:Nat->Bool} {held:Bool} {k e:TypeId} {q:IntKind} (hu:P.underlying k=some (.array 5 e)) (he:P.underlying e=some (.int q)) (h1:P.cellsOf e=1) (hk:P.cellsOf k=5) {r:Reach} {v:Value} {d:DataW H} {ps:List MemPlace}
  (hv:Value.okWide P w r b0 k v) (hd:DataW.Trod enc P w base sp held k v d ps):∃x0 x1 x2 x3 x4:Int,v = .agg #[.int q x0,.int q x1,.int q x2,.int q x3,.int q x4]:=by
 obtain⟨x0,x1,x2,x3,x4,h,_⟩:=Zh5 hu he h1 hk hv hd;exact⟨x0,x1,x2,x3,x4,h⟩
end Go.Proofs.YtmlfangeanmmeaaGreatDoor
