/-
  What the proof of TopTransfers leans on, part 48 of 48: Xt. No statement of its own.
-/
import Derived.Test.YtmlfangeanmmeaaGreatDoorTm44
import Derived.Test.YtmlfangeanmmeaaGreatDoorTie
import Derived.ProofKit
import Derived.OpenShut
import Derived.LaidMore
import Derived.Lay
import Derived.SevenTiedAt
import Derived.Stop.Joined
namespace Go.Proofs.YtmlfangeanmmeaaGreatDoor
set_option maxRecDepth 8000
open Go Go.ChangeShapes Go.WideShapes Go.ChangeAt Go.RowKit
set_option linter.unusedVariables false
abbrev Zb4 : List (String × DataW Unit) := [("strongtx/isa.forms", Rows.laid_strongtx_isa_forms)]
theorem Zdl {W:World} (h:laidMetH Tryz.prog Zb4 W):∃ (cs:Array Value) (fuel:Nat) (ps:List MemPlace) (enc:TypeId × Value→Unit) (base:Nat) (spare:Nat→Bool) (held:Bool),(∀ i,W.cell? ⟨0,i,none⟩=cs[i]?)∧DataW.trod enc Tryz.prog W base spare held fuel 205 cs.toList=some (Rows.laid_strongtx_isa_forms,ps):=by
  rw [MakeChecks.laidMetH_plain _ _ _ (by kernel_rfl)] at h
  obtain ⟨ps,⟨g,t,cs,fuel,p,q,hg,ht,hv,hd,_,_⟩,_,_⟩:=h
  obtain rfl := Option.some.inj ((show Tryz.prog.globalNamed "strongtx/isa.forms" = some 0 by kernel_rfl).symm.trans hg)
  obtain rfl:=Option.some.inj ((show (Tryz.prog.globals[0]?).map (·.type)=some 205 by kernel_rfl).symm.trans ht)
  exact ⟨cs,fuel,p,_,_,_,_,fun i=>World.var?_cell hg hv i,hd⟩
def Zf7:List (DataW Unit):=match (Rows.laid_strongtx_isa_forms:DataW Unit) with | .agg l=>l | _=>[]
theorem Zf6:(Rows.laid_strongtx_isa_forms:DataW Unit) = .agg Zf7:=rfl
theorem Z4f {W:World} (h:laidMetH Tryz.prog Zb4 W) {k:Nat} (hk:k < 18) {nm:DataW Unit} {ops:List UInt8} (hf:Zf7[k]?=some (.agg [nm,.lit (.string ops)])):W.cell? ⟨0,k*2 + 1,none⟩=some (.string ⟨ops.toArray⟩):=by
  obtain ⟨cs,fuel,ps,enc,base,spare,held,hc,hd⟩:=Zdl h
  obtain ⟨xs,m,_,ex,_,hl,hel⟩:=DataW.trod_array Tryz.underlying205 hd
  have c2:Tryz.prog.cellsOf 204=2:=by kernel_rfl
  have c1:Tryz.prog.cellsOf 9=1:=by kernel_rfl
  have hE:=hel k hk
  rw [c2,List.getElem?_eq_getElem (by omega)] at hE
  obtain ⟨y0,y1,n,ey,_,h0,h1⟩:=trod_struct2 Tryz.underlying204 hE
  replace h1:DataW.trod enc Tryz.prog W base spare held n 9 (((((cs.toList.drop (k*2)).take 2).drop 1).take (Tryz.prog.cellsOf 9)))=some y1:=h1
  rw [c1] at h1
  obtain ⟨s,e1,e2,_⟩:=DataW.trod_string Tryz.underlying9 h1
  have e3:Zf7=xs.map (·.1):=by
    have:=(Prod.mk.inj ex).1
    rw [Zf6] at this
    exact DataW.agg.inj this
  rw [e3,List.getElem?_map,List.getElem?_eq_getElem (by omega:k < xs.length),ey] at hf
  have e4:y1.1 = .lit (.string ops):=by
    have:=Option.some.inj hf
    have:=DataW.agg.inj this
    injection this with _ h2
    injection h2
  rw [e2] at e4
  have e5:s.data.toList=ops:=by
    have:=DataW.lit.inj e4
    injection this
  have e6:s=⟨ops.toArray⟩:=by
    obtain ⟨d⟩:=s
    subst e5
    simp
  rw [hc,← e6]
  have h2:((((cs.toList.drop (k*2)).take 2).drop 1).take 1)[0]?=some (.string s):=by rw [e1];rfl
  rw [List.getElem?_take,if_pos (by decide),List.getElem?_drop,List.getElem?_take,if_pos (by decide),List.getElem?_drop] at h2
  rw [← h2]
  simp
theorem Z8f {W:World} (h:laidMetH Tryz.prog Zb4 W):FormsAt W where
  f0:=Z4f h (k:=0) (by decide) rfl
  f1:=Z4f h (k:=1) (by decide) rfl
  f3:=Z4f h (k:=3) (by decide) rfl
  f7:=Z4f h (k:=7) (by decide) rfl
  f8:=Z4f h (k:=8) (by decide) rfl
  f10:=Z4f h (k:=10) (by decide) rfl
  f11:=Z4f h (k:=11) (by decide) rfl
end Go.Proofs.YtmlfangeanmmeaaGreatDoor
