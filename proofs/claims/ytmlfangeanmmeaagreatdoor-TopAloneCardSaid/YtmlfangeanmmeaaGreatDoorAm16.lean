/-
 What the proof of TopAlone leans on, part 16 of 49: MemOps. No statement of its own.
-/
import Derived.Test.YtmlfangeanmmeaaGreatDoorAm15
set_option maxHeartbeats 16000000
set_option maxRecDepth 8000
set_option linter.unusedVariables false
namespace Go.Proofs.YtmlfangeanmmeaaGreatDoor
open Go.RowKit
theorem Zll (w:World) (v:Int):Calls Tryz.prog 135 #[.int .u64 v] w fun e w'=>e = .returned (.tuple #[.int .u64 v,.bool true])/\w=w':=by
 go_enter Tryz.func135,Tryz.ntmps135;go_wp2
 go_ret2
 exact⟨rfl,rfl⟩
theorem Zju (w:World) (u v:Int) (p:Nat) (hp:w.cell? ⟨p,0,none⟩=some (.int .u64 v)):Calls Tryz.prog 177 #[.int .u64 u,.pointer (some ⟨p,0,none⟩)] w fun e w'=>e = .returned (.tuple #[.int .u64 v,.bool true])/\w=w':=by
 go_enter Tryz.func177,Tryz.ntmps177;go_wp2
 go_ret2
 exact⟨rfl,rfl⟩
theorem add1 (w:World) (u v:Int) (p:Nat) (hp:w.cell? ⟨p,0,none⟩=some (.int .u64 v)):Calls Tryz.prog 227 #[.int .u64 u,.pointer (some ⟨p,0,none⟩)] w fun e w'=>e = .returned (.tuple #[.int .u64 (IntKind.u64.wrap (u+v)),.bool true])/\w=w':=by
 go_enter Tryz.func227,Tryz.ntmps227;go_wp2
 go_ret2
 exact⟨by simp[IntKind.wrap_u64],rfl⟩
theorem Zl4 (w:World) (u v old:Int) (p q:Nat) (hp:w.cell? ⟨p,0,none⟩=some (.int .u64 v)) (hq:w.cell? ⟨q,0,none⟩=some (.int .u64 old)) :
  Calls Tryz.prog 206 #[.int .u64 u,.pointer (some ⟨p,0,none⟩),.pointer (some ⟨q,0,none⟩)] w fun e w'=>e = .returned (.tuple #[.int .u64 v,.bool (u==old)])/\∃k,w'=w.drewN k:=by
 go_enter Tryz.func206,Tryz.ntmps206;go_wp2_with fail;go_quiet (fail);go_wp2_with fail
 go_ret2
 exact⟨rfl,_,rfl⟩
theorem Z2c (w:World):(zeroValue 33).run Tryz.prog w = .ok (.slice none 0 0) w:=by kernel_rfl
def Z3g (w0:World) (R:Asr) (g:Nat) (C:Nat->List Int) (cell index:Int) (e:Ending) (w':World):Prop :=
 e = .returned (.tuple #[(opA C 1 cell index ((valC C cell index)) (true)).val,.int .i64 (opE C cell index)])/\Hold w0 w' (memA g (opC C cell index ((valC C cell index)) (true))*(R))
theorem Z8v (w0 w:World) (R:Asr) (g:Nat) (C:Nat->List Int) (cell index:Int) (hx:-9223372036854775808<=index/\index<=9223372036854775807) (h:Hold w0 w (memA g C*(R))) (hlen:∀k,(C k).length<=1000) :
  Calls Tryz.prog 134 #[.pointer (some ⟨g,0,none⟩),.int .i64 1,.int .i64 cell,.int .i64 index,.func (.func 135) #[] #[]] w (Z3g w0 R g C cell index):=by
 have hlen':(getC C cell).length<=1000:=by unfold getC;split;exact hlen _;simp
 obtain⟨x,hX0⟩:=h.memOpen;have hX:=hX0.alloc (.cells #[.int .i64 0,.int .i64 0,.int .i64 0,.int .u64 0,.int .u64 0,.bool false] 50);have c0:(w.alloc (.cells #[.int .i64 0,.int .i64 0,.int .i64 0,.int .u64 0,.int .u64 0,.bool false] 50)).cell? ⟨g,0,none⟩=some (.map (some x.m)):=hX.blk.some_ rfl;have hlk:=hX.memMap.mapLook (P:=Tryz.prog) Tryz.underlying102 Tryz.underlying3 (.slice none 0 0) Z2c cell;rw[Z48] at hlk;have hsl:∃A c',(if 1<=cell/\cell<=8 then slV C x cell.toNat else .slice none 0 0) = .slice A (getC C cell).length c':=by
  unfold getC
  split
  ·exact⟨_,_,rfl⟩
  ·exact⟨_,_,rfl⟩
 obtain⟨A,c',hA⟩:=hsl;rw[hA] at hlk;have hAD:=hid hA;have HX:=hid hX0;have Hh:=hid h;clear hX hX0 h hA;obtain⟨n,hn⟩:∃n,n=(getC C cell).length:=⟨_,rfl⟩;rw[<- hn] at hlk hlen';have Hn:=hid hn;clear hn hlen
 by_cases hi0:0<=index
 ·by_cases hin:index<n
  ·have hh:hasC C cell index:=⟨hi0,by rw[<- Hn.out];exact hin⟩
   have hcell:1<=cell/\cell<=8:=by
    have h2:=hh.2;unfold getC at h2
    split at h2
    ·assumption
    ·simp at h2;omega
   obtain⟨i,rfl⟩:∃i:Nat,index=i:=⟨index.toNat,by omega⟩;have hi:i<(getC C cell).length:=by have:=hh.2;omega
   have hgetC:getC C cell=C cell.toNat:=if_pos hcell;obtain⟨R',hR,hK⟩:=HX.out.memRow (k:=cell.toNat) (by omega);obtain⟨gr,hgr,hcr,hfr,hst⟩:=Z1p (zs:=C cell.toNat) (k:=.u64) (A:=x.A cell.toNat) (cp:=x.c cell.toNat) (n:=(C cell.toNat).length) (e:=34) hR (i:=i) (by rw[<- hgetC];exact hi);have hAx:A=x.A cell.toNat/\c'=x.c cell.toNat:=by
    have:=hAD.out;rw[if_pos hcell,hgetC] at this;injection this with a b c
    exact⟨a.symm,c.symm⟩
   rw[hgr] at hAx;obtain⟨rfl,rfl⟩:=hAx;have hval:(C cell.toNat).getD i 0=valC C cell i:=by unfold valC;rw[hgetC];rfl
   rw[hval] at hcr;have hset:∀W v,Hold w0 W (Z12 C x cell.toNat*R')->Hold w0 (W.setCell ⟨gr,i,none⟩ (.int .u64 v)) (memA g (setK C cell.toNat i v)*(R)):=fun W v hW=>by
    obtain⟨gr',hgr',_,_,hst'⟩:=Z1p (zs:=C cell.toNat) (k:=.u64) (A:=x.A cell.toNat) (cp:=x.c cell.toNat) (n:=(C cell.toNat).length) (e:=34) hW (i:=i) (by rw[<- hgetC];exact hi);rw[hgr] at hgr';injection hgr' with hgr'
    injection hgr' with hgr'
    subst hgr';exact(hK _ _ _ (hst' v)).memShut
   have hopA:∀v b,opA C 1 cell i v b=⟨1,cell,i,valC C cell i,if b then v else valC C cell i,b⟩:=fun v b=>if_pos hh;have hopT:∀v,opC C cell i v true=setK C cell.toNat i v:=fun v=>if_pos ⟨hh,rfl⟩;have hopF:∀v,opC C cell i v false=C:=fun v=>if_neg (by simp);have hopE:opE C cell i=0:=if_pos hh;have HR:=hid hR;have Hset:=hid hset;have Hops:=hid (And.intro hopA (And.intro hopT (And.intro hopF hopE)));have hmem:∀W,Hold w0 W (Z12 C x cell.toNat*R')->W.cell? ⟨gr,i,none⟩=some (.int .u64 (valC C cell i))/\W.frozen? ⟨gr,i,none⟩=false:=fun W hW=>by
    obtain⟨gr',hgr',hc2,hf2,_⟩:=Z1p (zs:=C cell.toNat) (k:=.u64) (A:=x.A cell.toNat) (cp:=x.c cell.toNat) (n:=(C cell.toNat).length) (e:=34) hW (i:=i) (by rw[<- hgetC];exact hi);rw[hgr] at hgr';injection hgr' with hgr'
    injection hgr' with hgr'
    subst hgr';rw[hval] at hc2;exact⟨hc2,hf2⟩
   have hcr':=(hmem _ (hR.alloc (.cells #[.int .i64 0,.int .i64 0,.int .i64 0,.int .u64 0,.int .u64 0,.bool false] 50))).1;have HRo:Hid (∀o,Hold w0 (w.alloc o) (Z12 C x cell.toNat*R')):=hid (fun o=>hR.alloc o);have HRd:Hid (∀o k,Hold w0 ((w.alloc o).drewN k) (Z12 C x cell.toNat*R')):=hid (fun o k=>(hR.alloc o).drewN k);have Hmem:=hid hmem;obtain⟨v,hv⟩:∃v,v=valC C cell i:=⟨_,rfl⟩;rw[<- hv] at hcr';have Hv:=hid hv;have b1:(0:Int)<=(i:Int):=by omega
   have b2:(i:Int)<(n:Int):=by omega
   have b3:decide ((i:Int)<0)=false:=by simp
   have b4:decide ((n:Int)<=(i:Int))=false:=by simp;omega
   clear hh hcell hi hgetC hgr hcr hfr hst hval hset hopA hopT hopF hopE hR hmem hK hv hi0;go_enter Tryz.func134,Tryz.ntmps134;go_wp2_with fail;have hcw:=(Hmem.out w HR.out).1;rw[<- Hv.out] at hcw;have hfw:=(Hmem.out w HR.out).2;have hgl:gr<w.heap.size:=World.block_lt_of_cell? w _ hcw;have hne:gr≠w.heap.size:=by omega
   have hne2:w.heap.size≠gr:=by omega
   refine(Zll _ v).mono ?_;rintro e w' ⟨rfl,rfl⟩;go_wp2_with fail;have hfin:Hid (∀o,Z3g w0 R g C cell i (.returned (.tuple #[.agg #[.int .i64 1,.int .i64 cell,.int .i64 i,.int .u64 v,.int .u64 (v),.bool true],.int .i64 0])) ((w.setCell ⟨gr,i,none⟩ (.int .u64 (v))).alloc o)):=hid fun o=>⟨by rw[Hops.out.1,Hops.out.2.2.2,<- Hv.out];rfl,by rw[Hops.out.2.1];(try rw[<- Hv.out]);exact(Hset.out w (v) HR.out).alloc _⟩;exact bodyPost_ret (v:=.tuple #[.agg #[.int .i64 1,.int .i64 cell,.int .i64 i,.int .u64 v,.int .u64 (v),.bool true],.int .i64 0]) (by simp[results,Tryz.results134,go_sem]) rfl (hfin.out _)
  ·have hh:¬ hasC C cell index:=fun h=>hin (by rw[Hn.out];exact h.2)
   have hpost:∀W,Hold w0 W (memA g C*(R))->Z3g w0 R g C cell index (.returned (.tuple #[acc0.val,.int .i64 60])) W:=fun W hW=>by
    have e1:∀v b,opA C 1 cell index v b=acc0:=fun v b=>if_neg hh;have e2:∀v b,opC C cell index v b=C:=fun v b=>if_neg (fun h=>hh h.1);have e3:opE C cell index=60:=if_neg hh;exact⟨by rw[e1,e3],by rw[e2];exact hW⟩
   have HP:=hid hpost;have b3:decide (index<0)=false:=decide_eq_false (by omega);have b4:decide ((n:Int)<=index)=true:=decide_eq_true (by omega);clear hh hpost hin hi0;go_enter Tryz.func134,Tryz.ntmps134;go_wp2_with fail;exact bodyPost_ret (v:=.tuple #[acc0.val,.int .i64 60]) (by simp[results,Tryz.results134,acc0,go_sem]) rfl (HP.out _ (Hh.out.alloc _))
 ·have hh:¬ hasC C cell index:=fun h=>hi0 h.1
  have hpost:∀W,Hold w0 W (memA g C*(R))->Z3g w0 R g C cell index (.returned (.tuple #[acc0.val,.int .i64 60])) W:=fun W hW=>by
   have e1:∀v b,opA C 1 cell index v b=acc0:=fun v b=>if_neg hh;have e2:∀v b,opC C cell index v b=C:=fun v b=>if_neg (fun h=>hh h.1);have e3:opE C cell index=60:=if_neg hh;exact⟨by rw[e1,e3],by rw[e2];exact hW⟩
  have HP:=hid hpost;have b3:decide (index<0)=true:=decide_eq_true (by omega);clear hh hpost hi0;go_enter Tryz.func134,Tryz.ntmps134;go_wp2_with fail;exact bodyPost_ret (v:=.tuple #[acc0.val,.int .i64 60]) (by simp[results,Tryz.results134,acc0,go_sem]) rfl (HP.out _ (Hh.out.alloc _))
def Z2w (w0:World) (R:Asr) (g p:Nat) (C:Nat->List Int) (cell index:Int) (nv:Int) (e:Ending) (w':World):Prop :=
 e = .returned (.tuple #[(opA C 2 cell index (nv) (true)).val,.int .i64 (opE C cell index)])/\Hold w0 w' (memA g (opC C cell index (nv) (true))*(blkA 34 p #[.int .u64 nv]*R))
theorem Z7j (w0 w:World) (R:Asr) (g p:Nat) (C:Nat->List Int) (cell index nv:Int) (hx:-9223372036854775808<=index/\index<=9223372036854775807) (h:Hold w0 w (memA g C*(blkA 34 p #[.int .u64 nv]*R))) (hlen:∀k,(C k).length<=1000) :
  Calls Tryz.prog 134 #[.pointer (some ⟨g,0,none⟩),.int .i64 2,.int .i64 cell,.int .i64 index,.func (.func 177) #[] #[.pointer (some ⟨p,0,none⟩)]] w (Z2w w0 R g p C cell index nv):=by
 have hlen':(getC C cell).length<=1000:=by unfold getC;split;exact hlen _;simp
 obtain⟨x,hX0⟩:=h.memOpen;have hX:=hX0.alloc (.cells #[.int .i64 0,.int .i64 0,.int .i64 0,.int .u64 0,.int .u64 0,.bool false] 50);have c0:(w.alloc (.cells #[.int .i64 0,.int .i64 0,.int .i64 0,.int .u64 0,.int .u64 0,.bool false] 50)).cell? ⟨g,0,none⟩=some (.map (some x.m)):=hX.blk.some_ rfl;have hlk:=hX.memMap.mapLook (P:=Tryz.prog) Tryz.underlying102 Tryz.underlying3 (.slice none 0 0) Z2c cell;rw[Z48] at hlk;have hsl:∃A c',(if 1<=cell/\cell<=8 then slV C x cell.toNat else .slice none 0 0) = .slice A (getC C cell).length c':=by
  unfold getC
  split
  ·exact⟨_,_,rfl⟩
  ·exact⟨_,_,rfl⟩
 obtain⟨A,c',hA⟩:=hsl;rw[hA] at hlk;have hAD:=hid hA;have HX:=hid hX0;have Hh:=hid h;clear hX hX0 h hA;obtain⟨n,hn⟩:∃n,n=(getC C cell).length:=⟨_,rfl⟩;rw[<- hn] at hlk hlen';have Hn:=hid hn;clear hn hlen
 by_cases hi0:0<=index
 ·by_cases hin:index<n
  ·have hh:hasC C cell index:=⟨hi0,by rw[<- Hn.out];exact hin⟩
   have hcell:1<=cell/\cell<=8:=by
    have h2:=hh.2;unfold getC at h2
    split at h2
    ·assumption
    ·simp at h2;omega
   obtain⟨i,rfl⟩:∃i:Nat,index=i:=⟨index.toNat,by omega⟩;have hi:i<(getC C cell).length:=by have:=hh.2;omega
   have hgetC:getC C cell=C cell.toNat:=if_pos hcell;obtain⟨R',hR,hK⟩:=HX.out.memRow (k:=cell.toNat) (by omega);obtain⟨gr,hgr,hcr,hfr,hst⟩:=Z1p (zs:=C cell.toNat) (k:=.u64) (A:=x.A cell.toNat) (cp:=x.c cell.toNat) (n:=(C cell.toNat).length) (e:=34) hR (i:=i) (by rw[<- hgetC];exact hi);have hAx:A=x.A cell.toNat/\c'=x.c cell.toNat:=by
    have:=hAD.out;rw[if_pos hcell,hgetC] at this;injection this with a b c
    exact⟨a.symm,c.symm⟩
   rw[hgr] at hAx;obtain⟨rfl,rfl⟩:=hAx;have hval:(C cell.toNat).getD i 0=valC C cell i:=by unfold valC;rw[hgetC];rfl
   rw[hval] at hcr;have hset:∀W v,Hold w0 W (Z12 C x cell.toNat*R')->Hold w0 (W.setCell ⟨gr,i,none⟩ (.int .u64 v)) (memA g (setK C cell.toNat i v)*(blkA 34 p #[.int .u64 nv]*R)):=fun W v hW=>by
    obtain⟨gr',hgr',_,_,hst'⟩:=Z1p (zs:=C cell.toNat) (k:=.u64) (A:=x.A cell.toNat) (cp:=x.c cell.toNat) (n:=(C cell.toNat).length) (e:=34) hW (i:=i) (by rw[<- hgetC];exact hi);rw[hgr] at hgr';injection hgr' with hgr'
    injection hgr' with hgr'
    subst hgr';exact(hK _ _ _ (hst' v)).memShut
   have hopA:∀v b,opA C 2 cell i v b=⟨2,cell,i,valC C cell i,if b then v else valC C cell i,b⟩:=fun v b=>if_pos hh;have hopT:∀v,opC C cell i v true=setK C cell.toNat i v:=fun v=>if_pos ⟨hh,rfl⟩;have hopF:∀v,opC C cell i v false=C:=fun v=>if_neg (by simp);have hopE:opE C cell i=0:=if_pos hh;have HR:=hid hR;have Hset:=hid hset;have Hops:=hid (And.intro hopA (And.intro hopT (And.intro hopF hopE)));have hmem:∀W,Hold w0 W (Z12 C x cell.toNat*R')->W.cell? ⟨gr,i,none⟩=some (.int .u64 (valC C cell i))/\W.frozen? ⟨gr,i,none⟩=false:=fun W hW=>by
    obtain⟨gr',hgr',hc2,hf2,_⟩:=Z1p (zs:=C cell.toNat) (k:=.u64) (A:=x.A cell.toNat) (cp:=x.c cell.toNat) (n:=(C cell.toNat).length) (e:=34) hW (i:=i) (by rw[<- hgetC];exact hi);rw[hgr] at hgr';injection hgr' with hgr'
    injection hgr' with hgr'
    subst hgr';rw[hval] at hc2;exact⟨hc2,hf2⟩
   have hcr':=(hmem _ (hR.alloc (.cells #[.int .i64 0,.int .i64 0,.int .i64 0,.int .u64 0,.int .u64 0,.bool false] 50))).1;have HRo:Hid (∀o,Hold w0 (w.alloc o) (Z12 C x cell.toNat*R')):=hid (fun o=>hR.alloc o);have HRd:Hid (∀o k,Hold w0 ((w.alloc o).drewN k) (Z12 C x cell.toNat*R')):=hid (fun o k=>(hR.alloc o).drewN k);have Hmem:=hid hmem;have pp:∀W,Hold w0 W (memA g C*(blkA 34 p #[.int .u64 nv]*R))->W.cell? ⟨p,0,none⟩=some (.int .u64 nv):=fun W h=>h.swap.blk.some_ rfl;obtain⟨v,hv⟩:∃v,v=valC C cell i:=⟨_,rfl⟩;rw[<- hv] at hcr';have Hv:=hid hv;have b1:(0:Int)<=(i:Int):=by omega
   have b2:(i:Int)<(n:Int):=by omega
   have b3:decide ((i:Int)<0)=false:=by simp
   have b4:decide ((n:Int)<=(i:Int))=false:=by simp;omega
   clear hh hcell hi hgetC hgr hcr hfr hst hval hset hopA hopT hopF hopE hR hmem hK hv hi0;go_enter Tryz.func134,Tryz.ntmps134;go_wp2_with fail;have hcw:=(Hmem.out w HR.out).1;rw[<- Hv.out] at hcw;have hfw:=(Hmem.out w HR.out).2;have hgl:gr<w.heap.size:=World.block_lt_of_cell? w _ hcw;have hne:gr≠w.heap.size:=by omega
   have hne2:w.heap.size≠gr:=by omega
   have hp:=pp _ (Hh.out.alloc (.cells #[.int .i64 0,.int .i64 0,.int .i64 0,.int .u64 0,.int .u64 0,.bool false] 50));refine(Zju _ v nv p hp).mono ?_;rintro e w' ⟨rfl,rfl⟩;go_wp2_with fail;have hfin:Hid (∀o,Z2w w0 R g p C cell i nv (.returned (.tuple #[.agg #[.int .i64 2,.int .i64 cell,.int .i64 i,.int .u64 v,.int .u64 (nv),.bool true],.int .i64 0])) ((w.setCell ⟨gr,i,none⟩ (.int .u64 (nv))).alloc o)):=hid fun o=>⟨by rw[Hops.out.1,Hops.out.2.2.2,<- Hv.out];rfl,by rw[Hops.out.2.1];(try rw[<- Hv.out]);exact(Hset.out w (nv) HR.out).alloc _⟩;exact bodyPost_ret (v:=.tuple #[.agg #[.int .i64 2,.int .i64 cell,.int .i64 i,.int .u64 v,.int .u64 (nv),.bool true],.int .i64 0]) (by simp[results,Tryz.results134,go_sem]) rfl (hfin.out _)
  ·have hh:¬ hasC C cell index:=fun h=>hin (by rw[Hn.out];exact h.2)
   have hpost:∀W,Hold w0 W (memA g C*(blkA 34 p #[.int .u64 nv]*R))->Z2w w0 R g p C cell index nv (.returned (.tuple #[acc0.val,.int .i64 60])) W:=fun W hW=>by
    have e1:∀v b,opA C 2 cell index v b=acc0:=fun v b=>if_neg hh;have e2:∀v b,opC C cell index v b=C:=fun v b=>if_neg (fun h=>hh h.1);have e3:opE C cell index=60:=if_neg hh;exact⟨by rw[e1,e3],by rw[e2];exact hW⟩
   have HP:=hid hpost;have b3:decide (index<0)=false:=decide_eq_false (by omega);have b4:decide ((n:Int)<=index)=true:=decide_eq_true (by omega);clear hh hpost hin hi0;go_enter Tryz.func134,Tryz.ntmps134;go_wp2_with fail;exact bodyPost_ret (v:=.tuple #[acc0.val,.int .i64 60]) (by simp[results,Tryz.results134,acc0,go_sem]) rfl (HP.out _ (Hh.out.alloc _))
 ·have hh:¬ hasC C cell index:=fun h=>hi0 h.1
  have hpost:∀W,Hold w0 W (memA g C*(blkA 34 p #[.int .u64 nv]*R))->Z2w w0 R g p C cell index nv (.returned (.tuple #[acc0.val,.int .i64 60])) W:=fun W hW=>by
   have e1:∀v b,opA C 2 cell index v b=acc0:=fun v b=>if_neg hh;have e2:∀v b,opC C cell index v b=C:=fun v b=>if_neg (fun h=>hh h.1);have e3:opE C cell index=60:=if_neg hh;exact⟨by rw[e1,e3],by rw[e2];exact hW⟩
  have HP:=hid hpost;have b3:decide (index<0)=true:=decide_eq_true (by omega);clear hh hpost hi0;go_enter Tryz.func134,Tryz.ntmps134;go_wp2_with fail;exact bodyPost_ret (v:=.tuple #[acc0.val,.int .i64 60]) (by simp[results,Tryz.results134,acc0,go_sem]) rfl (HP.out _ (Hh.out.alloc _))
def Z4j (w0:World) (R:Asr) (g p:Nat) (C:Nat->List Int) (cell index:Int) (nv:Int) (e:Ending) (w':World):Prop :=
 e = .returned (.tuple #[(opA C 4 cell index (IntKind.u64.wrap ((valC C cell index)+nv)) (true)).val,.int .i64 (opE C cell index)])/\Hold w0 w' (memA g (opC C cell index (IntKind.u64.wrap ((valC C cell index)+nv)) (true))*(blkA 34 p #[.int .u64 nv]*R))
theorem Za3 (w0 w:World) (R:Asr) (g p:Nat) (C:Nat->List Int) (cell index nv:Int) (hx:-9223372036854775808<=index/\index<=9223372036854775807) (h:Hold w0 w (memA g C*(blkA 34 p #[.int .u64 nv]*R))) (hlen:∀k,(C k).length<=1000) :
  Calls Tryz.prog 134 #[.pointer (some ⟨g,0,none⟩),.int .i64 4,.int .i64 cell,.int .i64 index,.func (.func 227) #[] #[.pointer (some ⟨p,0,none⟩)]] w (Z4j w0 R g p C cell index nv):=by
 have hlen':(getC C cell).length<=1000:=by unfold getC;split;exact hlen _;simp
 obtain⟨x,hX0⟩:=h.memOpen;have hX:=hX0.alloc (.cells #[.int .i64 0,.int .i64 0,.int .i64 0,.int .u64 0,.int .u64 0,.bool false] 50);have c0:(w.alloc (.cells #[.int .i64 0,.int .i64 0,.int .i64 0,.int .u64 0,.int .u64 0,.bool false] 50)).cell? ⟨g,0,none⟩=some (.map (some x.m)):=hX.blk.some_ rfl;have hlk:=hX.memMap.mapLook (P:=Tryz.prog) Tryz.underlying102 Tryz.underlying3 (.slice none 0 0) Z2c cell;rw[Z48] at hlk;have hsl:∃A c',(if 1<=cell/\cell<=8 then slV C x cell.toNat else .slice none 0 0) = .slice A (getC C cell).length c':=by
  unfold getC
  split
  ·exact⟨_,_,rfl⟩
  ·exact⟨_,_,rfl⟩
 obtain⟨A,c',hA⟩:=hsl;rw[hA] at hlk;have hAD:=hid hA;have HX:=hid hX0;have Hh:=hid h;clear hX hX0 h hA;obtain⟨n,hn⟩:∃n,n=(getC C cell).length:=⟨_,rfl⟩;rw[<- hn] at hlk hlen';have Hn:=hid hn;clear hn hlen
 by_cases hi0:0<=index
 ·by_cases hin:index<n
  ·have hh:hasC C cell index:=⟨hi0,by rw[<- Hn.out];exact hin⟩
   have hcell:1<=cell/\cell<=8:=by
    have h2:=hh.2;unfold getC at h2
    split at h2
    ·assumption
    ·simp at h2;omega
   obtain⟨i,rfl⟩:∃i:Nat,index=i:=⟨index.toNat,by omega⟩;have hi:i<(getC C cell).length:=by have:=hh.2;omega
   have hgetC:getC C cell=C cell.toNat:=if_pos hcell;obtain⟨R',hR,hK⟩:=HX.out.memRow (k:=cell.toNat) (by omega);obtain⟨gr,hgr,hcr,hfr,hst⟩:=Z1p (zs:=C cell.toNat) (k:=.u64) (A:=x.A cell.toNat) (cp:=x.c cell.toNat) (n:=(C cell.toNat).length) (e:=34) hR (i:=i) (by rw[<- hgetC];exact hi);have hAx:A=x.A cell.toNat/\c'=x.c cell.toNat:=by
    have:=hAD.out;rw[if_pos hcell,hgetC] at this;injection this with a b c
    exact⟨a.symm,c.symm⟩
   rw[hgr] at hAx;obtain⟨rfl,rfl⟩:=hAx;have hval:(C cell.toNat).getD i 0=valC C cell i:=by unfold valC;rw[hgetC];rfl
   rw[hval] at hcr;have hset:∀W v,Hold w0 W (Z12 C x cell.toNat*R')->Hold w0 (W.setCell ⟨gr,i,none⟩ (.int .u64 v)) (memA g (setK C cell.toNat i v)*(blkA 34 p #[.int .u64 nv]*R)):=fun W v hW=>by
    obtain⟨gr',hgr',_,_,hst'⟩:=Z1p (zs:=C cell.toNat) (k:=.u64) (A:=x.A cell.toNat) (cp:=x.c cell.toNat) (n:=(C cell.toNat).length) (e:=34) hW (i:=i) (by rw[<- hgetC];exact hi);rw[hgr] at hgr';injection hgr' with hgr'
    injection hgr' with hgr'
    subst hgr';exact(hK _ _ _ (hst' v)).memShut
   have hopA:∀v b,opA C 4 cell i v b=⟨4,cell,i,valC C cell i,if b then v else valC C cell i,b⟩:=fun v b=>if_pos hh;have hopT:∀v,opC C cell i v true=setK C cell.toNat i v:=fun v=>if_pos ⟨hh,rfl⟩;have hopF:∀v,opC C cell i v false=C:=fun v=>if_neg (by simp);have hopE:opE C cell i=0:=if_pos hh;have HR:=hid hR;have Hset:=hid hset;have Hops:=hid (And.intro hopA (And.intro hopT (And.intro hopF hopE)));have hmem:∀W,Hold w0 W (Z12 C x cell.toNat*R')->W.cell? ⟨gr,i,none⟩=some (.int .u64 (valC C cell i))/\W.frozen? ⟨gr,i,none⟩=false:=fun W hW=>by
    obtain⟨gr',hgr',hc2,hf2,_⟩:=Z1p (zs:=C cell.toNat) (k:=.u64) (A:=x.A cell.toNat) (cp:=x.c cell.toNat) (n:=(C cell.toNat).length) (e:=34) hW (i:=i) (by rw[<- hgetC];exact hi);rw[hgr] at hgr';injection hgr' with hgr'
    injection hgr' with hgr'
    subst hgr';rw[hval] at hc2;exact⟨hc2,hf2⟩
   have hcr':=(hmem _ (hR.alloc (.cells #[.int .i64 0,.int .i64 0,.int .i64 0,.int .u64 0,.int .u64 0,.bool false] 50))).1;have HRo:Hid (∀o,Hold w0 (w.alloc o) (Z12 C x cell.toNat*R')):=hid (fun o=>hR.alloc o);have HRd:Hid (∀o k,Hold w0 ((w.alloc o).drewN k) (Z12 C x cell.toNat*R')):=hid (fun o k=>(hR.alloc o).drewN k);have Hmem:=hid hmem;have pp:∀W,Hold w0 W (memA g C*(blkA 34 p #[.int .u64 nv]*R))->W.cell? ⟨p,0,none⟩=some (.int .u64 nv):=fun W h=>h.swap.blk.some_ rfl;obtain⟨v,hv⟩:∃v,v=valC C cell i:=⟨_,rfl⟩;rw[<- hv] at hcr';have Hv:=hid hv;have b1:(0:Int)<=(i:Int):=by omega
   have b2:(i:Int)<(n:Int):=by omega
   have b3:decide ((i:Int)<0)=false:=by simp
   have b4:decide ((n:Int)<=(i:Int))=false:=by simp;omega
   clear hh hcell hi hgetC hgr hcr hfr hst hval hset hopA hopT hopF hopE hR hmem hK hv hi0;go_enter Tryz.func134,Tryz.ntmps134;go_wp2_with fail;have hcw:=(Hmem.out w HR.out).1;rw[<- Hv.out] at hcw;have hfw:=(Hmem.out w HR.out).2;have hgl:gr<w.heap.size:=World.block_lt_of_cell? w _ hcw;have hne:gr≠w.heap.size:=by omega
   have hne2:w.heap.size≠gr:=by omega
   have hp:=pp _ (Hh.out.alloc (.cells #[.int .i64 0,.int .i64 0,.int .i64 0,.int .u64 0,.int .u64 0,.bool false] 50));obtain⟨s,hs⟩:∃s,s=IntKind.u64.wrap (v+nv):=⟨_,rfl⟩;have Hs:=hid hs;refine(add1 _ v nv p hp).mono ?_;rintro e w' ⟨rfl,rfl⟩;rw[<- hs];clear hs;go_wp2_with fail;have hfin:Hid (∀o,Z4j w0 R g p C cell i nv (.returned (.tuple #[.agg #[.int .i64 4,.int .i64 cell,.int .i64 i,.int .u64 v,.int .u64 (s),.bool true],.int .i64 0])) ((w.setCell ⟨gr,i,none⟩ (.int .u64 (s))).alloc o)):=hid fun o=>⟨by rw[Hs.out];rw[Hops.out.1,Hops.out.2.2.2,<- Hv.out];rfl,by rw[Hops.out.2.1];(try rw[<- Hv.out]);rw[<- Hs.out];exact(Hset.out w (s) HR.out).alloc _⟩;exact bodyPost_ret (v:=.tuple #[.agg #[.int .i64 4,.int .i64 cell,.int .i64 i,.int .u64 v,.int .u64 (s),.bool true],.int .i64 0]) (by simp[results,Tryz.results134,go_sem]) rfl (hfin.out _)
  ·have hh:¬ hasC C cell index:=fun h=>hin (by rw[Hn.out];exact h.2)
   have hpost:∀W,Hold w0 W (memA g C*(blkA 34 p #[.int .u64 nv]*R))->Z4j w0 R g p C cell index nv (.returned (.tuple #[acc0.val,.int .i64 60])) W:=fun W hW=>by
    have e1:∀v b,opA C 4 cell index v b=acc0:=fun v b=>if_neg hh;have e2:∀v b,opC C cell index v b=C:=fun v b=>if_neg (fun h=>hh h.1);have e3:opE C cell index=60:=if_neg hh;exact⟨by rw[e1,e3],by rw[e2];exact hW⟩
   have HP:=hid hpost;have b3:decide (index<0)=false:=decide_eq_false (by omega);have b4:decide ((n:Int)<=index)=true:=decide_eq_true (by omega);clear hh hpost hin hi0;go_enter Tryz.func134,Tryz.ntmps134;go_wp2_with fail;exact bodyPost_ret (v:=.tuple #[acc0.val,.int .i64 60]) (by simp[results,Tryz.results134,acc0,go_sem]) rfl (HP.out _ (Hh.out.alloc _))
 ·have hh:¬ hasC C cell index:=fun h=>hi0 h.1
  have hpost:∀W,Hold w0 W (memA g C*(blkA 34 p #[.int .u64 nv]*R))->Z4j w0 R g p C cell index nv (.returned (.tuple #[acc0.val,.int .i64 60])) W:=fun W hW=>by
   have e1:∀v b,opA C 4 cell index v b=acc0:=fun v b=>if_neg hh;have e2:∀v b,opC C cell index v b=C:=fun v b=>if_neg (fun h=>hh h.1);have e3:opE C cell index=60:=if_neg hh;exact⟨by rw[e1,e3],by rw[e2];exact hW⟩
  have HP:=hid hpost;have b3:decide (index<0)=true:=decide_eq_true (by omega);clear hh hpost hi0;go_enter Tryz.func134,Tryz.ntmps134;go_wp2_with fail;exact bodyPost_ret (v:=.tuple #[acc0.val,.int .i64 60]) (by simp[results,Tryz.results134,acc0,go_sem]) rfl (HP.out _ (Hh.out.alloc _))
def Z2l (w0:World) (R:Asr) (g p q:Nat) (C:Nat->List Int) (cell index:Int) (nv:Int) (old:Int) (e:Ending) (w':World):Prop :=
 e = .returned (.tuple #[(opA C 3 cell index (nv) (((valC C cell index)==old))).val,.int .i64 (opE C cell index)])/\Hold w0 w' (memA g (opC C cell index (nv) (((valC C cell index)==old)))*(blkA 34 p #[.int .u64 nv]*(blkA 34 q #[.int .u64 old]*R)))
theorem Z8u (w0 w:World) (R:Asr) (g p q:Nat) (C:Nat->List Int) (cell index nv old:Int) (hx:-9223372036854775808<=index/\index<=9223372036854775807) (h:Hold w0 w (memA g C*(blkA 34 p #[.int .u64 nv]*(blkA 34 q #[.int .u64 old]*R)))) (hlen:∀k,(C k).length<=1000) :
  Calls Tryz.prog 134 #[.pointer (some ⟨g,0,none⟩),.int .i64 3,.int .i64 cell,.int .i64 index,.func (.func 206) #[] #[.pointer (some ⟨p,0,none⟩),.pointer (some ⟨q,0,none⟩)]] w (Z2l w0 R g p q C cell index nv old):=by
 have hlen':(getC C cell).length<=1000:=by unfold getC;split;exact hlen _;simp
 obtain⟨x,hX0⟩:=(nb h).swap.memOpen;have hX:=hX0;have c0:(w.alloc (.cells #[.int .i64 0,.int .i64 0,.int .i64 0,.int .u64 0,.int .u64 0,.bool false] 50)).cell? ⟨g,0,none⟩=some (.map (some x.m)):=hX.blk.some_ rfl;have hlk:=hX.memMap.mapLook (P:=Tryz.prog) Tryz.underlying102 Tryz.underlying3 (.slice none 0 0) Z2c cell;rw[Z48] at hlk;have hsl:∃A c',(if 1<=cell/\cell<=8 then slV C x cell.toNat else .slice none 0 0) = .slice A (getC C cell).length c':=by
  unfold getC
  split
  ·exact⟨_,_,rfl⟩
  ·exact⟨_,_,rfl⟩
 obtain⟨A,c',hA⟩:=hsl;rw[hA] at hlk;have hAD:=hid hA;have HX:=hid hX0;have Hh:=hid h;clear hX hX0 h hA;obtain⟨n,hn⟩:∃n,n=(getC C cell).length:=⟨_,rfl⟩;rw[<- hn] at hlk hlen';have Hn:=hid hn;clear hn hlen
 by_cases hi0:0<=index
 ·by_cases hin:index<n
  ·have hh:hasC C cell index:=⟨hi0,by rw[<- Hn.out];exact hin⟩
   have hcell:1<=cell/\cell<=8:=by
    have h2:=hh.2;unfold getC at h2
    split at h2
    ·assumption
    ·simp at h2;omega
   obtain⟨i,rfl⟩:∃i:Nat,index=i:=⟨index.toNat,by omega⟩;have hi:i<(getC C cell).length:=by have:=hh.2;omega
   have hgetC:getC C cell=C cell.toNat:=if_pos hcell;obtain⟨R',hR,hK⟩:=HX.out.memRow (k:=cell.toNat) (by omega);obtain⟨gr,hgr,hcr,hfr,hst⟩:=Z1p (zs:=C cell.toNat) (k:=.u64) (A:=x.A cell.toNat) (cp:=x.c cell.toNat) (n:=(C cell.toNat).length) (e:=34) hR (i:=i) (by rw[<- hgetC];exact hi);have hAx:A=x.A cell.toNat/\c'=x.c cell.toNat:=by
    have:=hAD.out;rw[if_pos hcell,hgetC] at this;injection this with a b c
    exact⟨a.symm,c.symm⟩
   rw[hgr] at hAx;obtain⟨rfl,rfl⟩:=hAx;have hval:(C cell.toNat).getD i 0=valC C cell i:=by unfold valC;rw[hgetC];rfl
   rw[hval] at hcr;have hback:∀W,Hold w0 W (Z12 C x cell.toNat*R')->Hold w0 W (memA g C*(blkA 50 w.heap.size #[.int .i64 0,.int .i64 0,.int .i64 0,.int .u64 0,.int .u64 0,.bool false]*(blkA 34 p #[.int .u64 nv]*(blkA 34 q #[.int .u64 old]*R)))):=fun W hW=>by
    have h9:=hK W i ((C cell.toNat).getD i 0) (by rw[Zbf];exact hW);rw[Z8n] at h9;exact h9.memShut
   have hset:∀W v,Hold w0 W (Z12 C x cell.toNat*R')->Hold w0 (W.setCell ⟨gr,i,none⟩ (.int .u64 v)) (memA g (setK C cell.toNat i v)*(blkA 50 w.heap.size #[.int .i64 0,.int .i64 0,.int .i64 0,.int .u64 0,.int .u64 0,.bool false]*(blkA 34 p #[.int .u64 nv]*(blkA 34 q #[.int .u64 old]*R)))):=fun W v hW=>by
    obtain⟨gr',hgr',_,_,hst'⟩:=Z1p (zs:=C cell.toNat) (k:=.u64) (A:=x.A cell.toNat) (cp:=x.c cell.toNat) (n:=(C cell.toNat).length) (e:=34) hW (i:=i) (by rw[<- hgetC];exact hi);rw[hgr] at hgr';injection hgr' with hgr'
    injection hgr' with hgr'
    subst hgr';exact(hK _ _ _ (hst' v)).memShut
   have hshut:∀W,Hold w0 W (Z12 C x cell.toNat*R')->Hold w0 W (memA g C*(blkA 50 w.heap.size #[.int .i64 0,.int .i64 0,.int .i64 0,.int .u64 0,.int .u64 0,.bool false]*(blkA 34 p #[.int .u64 nv]*(blkA 34 q #[.int .u64 old]*R)))):=fun W hW=>hback W hW;have Hshut:=hid hshut;have hopA:∀v b,opA C 3 cell i v b=⟨3,cell,i,valC C cell i,if b then v else valC C cell i,b⟩:=fun v b=>if_pos hh;have hopT:∀v,opC C cell i v true=setK C cell.toNat i v:=fun v=>if_pos ⟨hh,rfl⟩;have hopF:∀v,opC C cell i v false=C:=fun v=>if_neg (by simp);have hopE:opE C cell i=0:=if_pos hh;have HR:=hid hR;have Hset:=hid hset;have Hops:=hid (And.intro hopA (And.intro hopT (And.intro hopF hopE)));have hmem:∀W,Hold w0 W (Z12 C x cell.toNat*R')->W.cell? ⟨gr,i,none⟩=some (.int .u64 (valC C cell i))/\W.frozen? ⟨gr,i,none⟩=false:=fun W hW=>by
    obtain⟨gr',hgr',hc2,hf2,_⟩:=Z1p (zs:=C cell.toNat) (k:=.u64) (A:=x.A cell.toNat) (cp:=x.c cell.toNat) (n:=(C cell.toNat).length) (e:=34) hW (i:=i) (by rw[<- hgetC];exact hi);rw[hgr] at hgr';injection hgr' with hgr'
    injection hgr' with hgr'
    subst hgr';rw[hval] at hc2;exact⟨hc2,hf2⟩
   have hcr':=(hmem _ hR).1;have Hmem:=hid hmem;have pp:∀W,Hold w0 W (memA g C*(blkA 34 p #[.int .u64 nv]*(blkA 34 q #[.int .u64 old]*R)))->W.cell? ⟨p,0,none⟩=some (.int .u64 nv):=fun W h=>h.swap.blk.some_ rfl;have pq:∀W,Hold w0 W (memA g C*(blkA 34 p #[.int .u64 nv]*(blkA 34 q #[.int .u64 old]*R)))->W.cell? ⟨q,0,none⟩=some (.int .u64 old):=fun W h=>h.third.blk.some_ rfl;obtain⟨v,hv⟩:∃v,v=valC C cell i:=⟨_,rfl⟩;rw[<- hv] at hcr';have Hv:=hid hv;have b1:(0:Int)<=(i:Int):=by omega
   have b2:(i:Int)<(n:Int):=by omega
   have b3:decide ((i:Int)<0)=false:=by simp
   have b4:decide ((n:Int)<=(i:Int))=false:=by simp;omega
   clear hback hshut hh hcell hi hgetC hgr hcr hfr hst hval hset hopA hopT hopF hopE hR hmem hK hv hi0;go_enter Tryz.func134,Tryz.ntmps134;go_wp2_with fail;have hp:=pp _ (Hh.out.alloc (.cells #[.int .i64 0,.int .i64 0,.int .i64 0,.int .u64 0,.int .u64 0,.bool false] 50));have hq:=pq _ (Hh.out.alloc (.cells #[.int .i64 0,.int .i64 0,.int .i64 0,.int .u64 0,.int .u64 0,.bool false] 50));refine(Zl4 _ v nv old p q hp hq).mono ?_;rintro e w' ⟨rfl,k,rfl⟩;have HR1:=hid (HR.out.drewN k);have hcw:=(Hmem.out _ HR1.out).1;rw[<- Hv.out] at hcw;have hfw:=(Hmem.out _ HR1.out).2
   by_cases hvo:v=old
   ·have hb:(v==old)=true:=by simpa using hvo
    rw[hb];have h2:=Hset.out _ nv HR1.out;have hB:=h2.swap.blk;obtain⟨⟨x0,x1,x2,x3,x4,x5⟩,zz0,zz1,zz2,zz3,zz4,zz5⟩:=Z07 hB;have H3:=hid ((((((h2.swap.Zlp 0 (.int .i64 3)).Zlp 1 (.int .i64 cell)).Zlp 2 (.int .i64 i)).Zlp 3 (.int .u64 v)).Zlp 4 (.int .u64 nv)).Zlp 5 (.bool true));have hfin:Hid (∀W,Hold w0 W (memA g (setK C cell.toNat i nv)*(blkA 34 p #[.int .u64 nv]*(blkA 34 q #[.int .u64 old]*R)))->Z2l w0 R g p q C cell i nv old (.returned (.tuple #[.agg #[.int .i64 3,.int .i64 cell,.int .i64 i,.int .u64 v,.int .u64 nv,.bool true],.int .i64 0])) W):=hid fun W hW=>⟨by rw[Hops.out.1,Hops.out.2.2.2,<- Hv.out,hb];rfl,by rw[<- Hv.out,hb,Hops.out.2.1];exact hW⟩;clear hB h2 hvo;go_wp2_with fail;have h3:=H3.out;generalize hW:World.setCell _ _ _=W3 at h3 |-;clear hW H3 x0 x1 x2 x3 x4 x5 zz0 zz1 zz2 zz3 zz4 zz5;have hB:=h3.blk;obtain⟨⟨y0,y1,y2,y3,y4,y5⟩,_⟩:=Z07 hB;exact bodyPost_ret (v:=.tuple #[.agg #[.int .i64 3,.int .i64 cell,.int .i64 i,.int .u64 v,.int .u64 nv,.bool true],.int .i64 0]) (by simp[results,Tryz.results134,go_sem,y0,y1,y2,y3,y4,y5]) rfl (hfin.out _ h3.drop)
   ·have hb:(v==old)=false:=by simpa using hvo
    rw[hb];have h2:=Hshut.out _ HR1.out;have hB:=h2.swap.blk;obtain⟨⟨x0,x1,x2,x3,x4,x5⟩,zz0,zz1,zz2,zz3,zz4,zz5⟩:=Z07 hB;have H3:=hid ((((((h2.swap.Zlp 0 (.int .i64 3)).Zlp 1 (.int .i64 cell)).Zlp 2 (.int .i64 i)).Zlp 3 (.int .u64 v)).Zlp 4 (.int .u64 v)).Zlp 5 (.bool false));have hfin:Hid (∀W,Hold w0 W (memA g C*(blkA 34 p #[.int .u64 nv]*(blkA 34 q #[.int .u64 old]*R)))->Z2l w0 R g p q C cell i nv old (.returned (.tuple #[.agg #[.int .i64 3,.int .i64 cell,.int .i64 i,.int .u64 v,.int .u64 v,.bool false],.int .i64 0])) W):=hid fun W hW=>⟨by rw[Hops.out.1,Hops.out.2.2.2,<- Hv.out,hb];rfl,by rw[<- Hv.out,hb,Hops.out.2.2.1];exact hW⟩;clear hB h2 hvo;go_wp2_with fail;have h3:=H3.out;generalize hW:World.setCell _ _ _=W3 at h3 |-;clear hW H3 x0 x1 x2 x3 x4 x5 zz0 zz1 zz2 zz3 zz4 zz5;have hB:=h3.blk;obtain⟨⟨y0,y1,y2,y3,y4,y5⟩,_⟩:=Z07 hB;exact bodyPost_ret (v:=.tuple #[.agg #[.int .i64 3,.int .i64 cell,.int .i64 i,.int .u64 v,.int .u64 v,.bool false],.int .i64 0]) (by simp[results,Tryz.results134,go_sem,y0,y1,y2,y3,y4,y5]) rfl (hfin.out _ h3.drop)
  ·have hh:¬ hasC C cell index:=fun h=>hin (by rw[Hn.out];exact h.2)
   have hpost:∀W,Hold w0 W (memA g C*(blkA 34 p #[.int .u64 nv]*(blkA 34 q #[.int .u64 old]*R)))->Z2l w0 R g p q C cell index nv old (.returned (.tuple #[acc0.val,.int .i64 60])) W:=fun W hW=>by
    have e1:∀v b,opA C 3 cell index v b=acc0:=fun v b=>if_neg hh;have e2:∀v b,opC C cell index v b=C:=fun v b=>if_neg (fun h=>hh h.1);have e3:opE C cell index=60:=if_neg hh;exact⟨by rw[e1,e3],by rw[e2];exact hW⟩
   have HP:=hid hpost;have b3:decide (index<0)=false:=decide_eq_false (by omega);have b4:decide ((n:Int)<=index)=true:=decide_eq_true (by omega);clear hh hpost hin hi0;go_enter Tryz.func134,Tryz.ntmps134;go_wp2_with fail;exact bodyPost_ret (v:=.tuple #[acc0.val,.int .i64 60]) (by simp[results,Tryz.results134,acc0,go_sem]) rfl (HP.out _ (Hh.out.alloc _))
 ·have hh:¬ hasC C cell index:=fun h=>hi0 h.1
  have hpost:∀W,Hold w0 W (memA g C*(blkA 34 p #[.int .u64 nv]*(blkA 34 q #[.int .u64 old]*R)))->Z2l w0 R g p q C cell index nv old (.returned (.tuple #[acc0.val,.int .i64 60])) W:=fun W hW=>by
   have e1:∀v b,opA C 3 cell index v b=acc0:=fun v b=>if_neg hh;have e2:∀v b,opC C cell index v b=C:=fun v b=>if_neg (fun h=>hh h.1);have e3:opE C cell index=60:=if_neg hh;exact⟨by rw[e1,e3],by rw[e2];exact hW⟩
  have HP:=hid hpost;have b3:decide (index<0)=true:=decide_eq_true (by omega);clear hh hpost hi0;go_enter Tryz.func134,Tryz.ntmps134;go_wp2_with fail;exact bodyPost_ret (v:=.tuple #[acc0.val,.int .i64 60]) (by simp[results,Tryz.results134,acc0,go_sem]) rfl (HP.out _ (Hh.out.alloc _))
end Go.Proofs.YtmlfangeanmmeaaGreatDoor
