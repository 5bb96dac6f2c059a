/-
 What the proof of TopAlone leans on, part 15 of 49: MemP, Ref08. No statement of its own.
-/
import Derived.Test.YtmlfangeanmmeaaGreatDoorAm14
set_option maxHeartbeats 16000000
set_option maxRecDepth 8000
set_option linter.unusedVariables false
namespace Go.Proofs.YtmlfangeanmmeaaGreatDoor
open Go.RowKit
theorem Z07 {w:World} {g:Nat} {t:TypeId} {a b c d e f:Value} (h:Blk w g t #[a,b,c,d,e,f]) :
  (w.cell? ⟨g,0,none⟩=some a/\w.cell? ⟨g,1,none⟩=some b/\w.cell? ⟨g,2,none⟩=some c/\w.cell? ⟨g,3,none⟩=some d/\w.cell? ⟨g,4,none⟩=some e/\w.cell? ⟨g,5,none⟩=some f) /\
  w.frozen? ⟨g,0,none⟩=false/\w.frozen? ⟨g,1,none⟩=false/\w.frozen? ⟨g,2,none⟩=false/\w.frozen? ⟨g,3,none⟩=false/\w.frozen? ⟨g,4,none⟩=false/\w.frozen? ⟨g,5,none⟩=false :=
 ⟨⟨h.some_ rfl,h.some_ rfl,h.some_ rfl,h.some_ rfl,h.some_ rfl,h.some_ rfl⟩,h.frozen 0,h.frozen 1,h.frozen 2,h.frozen 3,h.frozen 4,h.frozen 5⟩
structure Acc where
 kind:Int
 cell:Int
 index:Int
 got:Int
 put:Int
 done:Bool
abbrev Acc.val (a:Acc):Value:=.agg #[.int .i64 a.kind,.int .i64 a.cell,.int .i64 a.index,.int .u64 a.got,.int .u64 a.put,.bool a.done]
def acc0:Acc:=⟨0,0,0,0,0,false⟩
def getC (C:Nat->List Int) (cell:Int):List Int:=if 1<=cell/\cell<=8 then C cell.toNat else []
def hasC (C:Nat->List Int) (cell index:Int):Prop:=0<=index/\index<(getC C cell).length
instance (C:Nat->List Int) (cell index:Int):Decidable (hasC C cell index):=by unfold hasC;infer_instance
def setK (C:Nat->List Int) (k i:Nat) (v:Int):Nat->List Int:=fun j=>if j=k then (C j).set i v else C j
def valC (C:Nat->List Int) (cell index:Int):Int:=(getC C cell).getD index.toNat 0
def opA (C:Nat->List Int) (kind cell index v:Int) (done:Bool):Acc:=if hasC C cell index then ⟨kind,cell,index,valC C cell index,if done then v else valC C cell index,done⟩ else acc0
def opC (C:Nat->List Int) (cell index v:Int) (done:Bool):Nat->List Int:=if hasC C cell index/\done=true then setK C cell.toNat index.toNat v else C
def opE (C:Nat->List Int) (cell index:Int):Int:=if hasC C cell index then 0 else 60
theorem Z48 (C:Nat->List Int) (x:Lay) (cell:Int) :
  (look [some (slV C x 1),some (slV C x 2),some (slV C x 3),some (slV C x 4),some (slV C x 5),some (slV C x 6),some (slV C x 7),some (slV C x 8)] cell).getD (.slice none 0 0) =
   if 1<=cell/\cell<=8 then slV C x cell.toNat else .slice none 0 0:=by
 by_cases h1:1<=cell
 ·by_cases h8:cell<=8
  ·obtain h|h|h|h|h|h|h|h:cell=1\/cell=2\/cell=3\/cell=4\/cell=5\/cell=6\/cell=7\/cell=8:=by omega
   all_goals subst h;rfl
  ·have h9:8<=(cell - 1).toNat:=by omega
   rw[if_neg (by omega)];unfold look;rw[if_pos h1,List.getElem?_eq_none (by simpa using h9)]
   rfl
 ·rw[if_neg (by omega)]
  unfold look;rw[if_neg h1]
  rfl
section
variable {w0 w:World} {R:Asr} {g:Nat} {C:Nat->List Int} {x:Lay}
abbrev memL (C:Nat->List Int) (x:Lay):List Asr:=[mapA x.m [some (slV C x 1),some (slV C x 2),some (slV C x 3),some (slV C x 4),some (slV C x 5),some (slV C x 6),some (slV C x 7),some (slV C x 8)],
  Z12 C x 1,Z12 C x 2,Z12 C x 3,Z12 C x 4,Z12 C x 5,Z12 C x 6,Z12 C x 7,Z12 C x 8]
theorem Hold.memOpen (h:Hold w0 w (memA g C*R)):∃x,Hold w0 w (blkA 104 g #[.map (some x.m)]*sepR (memL C x) R):=by
 obtain⟨x,h⟩:=h.exOpen;exact⟨x,h.part.imp (Imp.under _ (Imp.flat R _))⟩
theorem Hold.memShut (h:Hold w0 w (blkA 104 g #[.map (some x.m)]*sepR (memL C x) R)):Hold w0 w (memA g C*R) :=
 Hold.exClose (x:=x) (h.imp (Imp.under _ (Imp.fold R _))).join
theorem Hold.memMap (h:Hold w0 w (blkA 104 g #[.map (some x.m)]*sepR (memL C x) R)):Hold w0 w (mapA x.m [some (slV C x 1),some (slV C x 2),some (slV C x 3),some (slV C x 4),some (slV C x 5),some (slV C x 6),some (slV C x 7),some (slV C x 8)]*(blkA 104 g #[.map (some x.m)]*sepR (Asr.emp::(memL C x).tail) R)) :=
 (h.imp (Imp.under _ (Imp.nth _ R _ 0 rfl))).swap
theorem Zbf (zs:List Int) (i:Nat):zs.set i (zs.getD i 0)=zs:=by
 refine List.ext_getElem (by simp) fun j h1 h2=>?_;rw[List.getElem_set]
 split
 ·subst_vars;simp[List.getD,List.getElem?_eq_getElem h2]
 ·rfl
theorem Z8n (C:Nat->List Int) (k i:Nat):setK C k i ((C k).getD i 0)=C:=by
 funext j
 unfold setK
 split
 ·subst_vars;exact Zbf _ _
 ·rfl
theorem Z78 (C:Nat->List Int) (k i:Nat) (v:Int) (j:Nat):(setK C k i v j).length=(C j).length:=by unfold setK;split <;> simp
theorem Zdi {C:Nat->List Int} {k i j:Nat} {v:Int} (h:j≠k):setK C k i v j=C j:=if_neg h
theorem Z9w {C:Nat->List Int} {k i:Nat} {v:Int}:setK C k i v k=(C k).set i v:=if_pos rfl
theorem Z9u (C:Nat->List Int) (x:Lay) (k i:Nat) (v:Int) (j:Nat):slV (setK C k i v) x j=slV C x j:=by unfold slV;rw[Z78]
theorem Zgy {C:Nat->List Int} {x:Lay} {k i j:Nat} {v:Int} (h:j≠k):Z12 (setK C k i v) x j=Z12 C x j:=by unfold Z12;rw[Z9u,Zdi h]
theorem Zgz {C:Nat->List Int} {x:Lay} {k i:Nat} {v:Int}:Z12 (setK C k i v) x k=numA (slV C x k) (C k).length ((C k).set i v):=by unfold Z12;rw[Z9u,Z78,Z9w]
theorem Zga (C:Nat->List Int) (x:Lay) {k:Nat} (hk:1<=k/\k<=8) (i:Nat) (v:Int):((memL C x).set k Asr.emp).set k (numA (slV C x k) (C k).length ((C k).set i v))=memL (setK C k i v) x:=by
 obtain h|h|h|h|h|h|h|h:k=1\/k=2\/k=3\/k=4\/k=5\/k=6\/k=7\/k=8:=by omega
 all_goals
  subst h;unfold memL;simp only[Z9u,Zgz]
  repeat rw[Zgy (by decide)]
  rfl
theorem Hold.memRow (h:Hold w0 w (blkA 104 g #[.map (some x.m)]*sepR (memL C x) R)) {k:Nat} (hk:1<=k/\k<=8) :
  ∃R',Hold w0 w (Z12 C x k*R')/\∀w' i v,Hold w0 w' (numA (slV C x k) (C k).length ((C k).set i v)*R')->Hold w0 w' (blkA 104 g #[.map (some x.m)]*sepR (memL (setK C k i v) x) R):=by
 have hg:(memL C x)[k]?=some (Z12 C x k):=by
  obtain h|h|h|h|h|h|h|h:k=1\/k=2\/k=3\/k=4\/k=5\/k=6\/k=7\/k=8:=by omega
  all_goals subst h;rfl
 have hl:k<(memL C x).length:=(List.getElem?_eq_some_iff.1 hg).1;refine⟨_,(h.imp (Imp.under _ (Imp.nth _ R _ k hg))).swap,fun w' i v h'=>?_⟩;have h2:=h'.swap.imp (Imp.under _ (Imp.putAt _ R ((memL C x).set k Asr.emp) k (List.getElem?_set_self hl)));rwa [Zga C x hk i v] at h2
end
def w1 (C:Nat->List Int) (k:Nat):Int:=(C k).getD 0 0
structure COk (C:Nat->List Int):Prop where
 len:∀k,(C k).length<=1000
 l3:(C 3).length=1
 l4:(C 4).length=1
 l5:(C 5).length=1
abbrev refL (C:Nat->List Int) (x:Lay):List Asr:=[Z12 C x 1,Z12 C x 2,Z12 C x 6,Z12 C x 7,Z12 C x 8]
section
variable {w0 w:World} {R:Asr} {g:Nat} {c:Cfg} {C:Nat->List Int} {x:Lay}
end
theorem Zek {C:Nat->List Int} {k:Nat} (h1:1<=k) (h8:k<=8):getC C (k:Int)=C k:=by unfold getC;rw[if_pos (by omega)];simp
end Go.Proofs.YtmlfangeanmmeaaGreatDoor
