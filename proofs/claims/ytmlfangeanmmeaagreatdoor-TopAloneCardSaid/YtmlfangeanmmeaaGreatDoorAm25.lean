/-
 What the proof of TopAlone leans on, part 25 of 49: Lk. No statement of its own.
-/
import Derived.Test.YtmlfangeanmmeaaGreatDoorAm9
import Derived.Test.YtmlfangeanmmeaaGreatDoorAm24
import Derived.Sort.OwnSortedInts
set_option maxHeartbeats 16000000
set_option maxRecDepth 8000
set_option linter.unusedVariables false
namespace Go.Proofs.YtmlfangeanmmeaaGreatDoor
open Go.RowKit
theorem Zfq (blk off cap:Nat) (zs:List Int) (w:World) (hH:Go.Sort.Holds (Value.int .i64) w blk off zs.toArray) (hblk:blk<w.heap.size) (hsz:zs.length<4611686018427387904) :
  Calls Tryz.prog 216 #[.slice (some ⟨blk,off,none⟩) zs.length cap] w fun e w'=>e = .returned (.tuple #[])/\∃n os,w'=Go.Sort.grow (Go.Sort.putRow (Value.int .i64) (Go.Sort.ahead w n) blk off (zs.mergeSort fun x y=>decide (x<=y)).toArray) os:=Any.slices_Sort_int Zj9 blk off cap zs w hH hblk hsz
theorem Zaq (b off n c:Nat) (zs:List Int) (w:World) (hz:n<=zs.length) (hbig:n<=9223372036854775807) (hcap:n<=c) (hc:∀j,j<zs.length->w.cell? ⟨b,off+j,none⟩=some (.int .i64 (zs.getD j 0))) (hf:∀j,j<n->w.frozen? ⟨b,off+j,none⟩=false) :
  Calls Tryz.prog 217 #[.slice (some ⟨b,off,none⟩) n c] w fun e w'=>e = .returned (.slice (some ⟨b,off,none⟩) (Lib.compact (zs.take n)).length c)/\∃q,w'=(w.drewN q).setCells b off ((Lib.compact (zs.take n)++List.replicate (n - (Lib.compact (zs.take n)).length) 0).map (Value.int .i64)):=Any.slices_Compact_int_cells Ze9 b off n c zs w hz hbig hcap hc hf
def srt (xs:List Int):List Int:=Lib.compact (xs.mergeSort fun x y=>decide (x<=y))
theorem Z6z (zs:List Int):(Lib.compact zs).length<=zs.length:=by
 unfold Lib.compact Lib.compactUpTo;rw[List.length_map];exact Nat.le_trans (List.length_filter_le _ _) (by simp)
theorem Zdd (xs:List Int):(srt xs).length<=xs.length:=by
 have:=Z6z (xs.mergeSort fun x y=>decide (x<=y));rw[List.length_mergeSort] at this;exact this
theorem Z5b {g:Nat} {t:TypeId}:∀(us:List Value) (o:Nat) (cs:Array Value) (w:World),Blk w g t cs->Blk (w.setCells g o us) g t (over cs o us)
 | [],o,cs,w,h=>h
 | u::us,o,cs,w,h=>Z5b us (o+1) _ _ (h.set_ o u)
theorem Z5a {S:List Nat} {g:Nat} (hg:g∈S) {w0:World}:∀(us:List Value) (o:Nat) (w:World),Chg S w0 w->Chg S w0 (w.setCells g o us)
 | [],o,w,h=>h
 | u::us,o,w,h=>Z5a hg us (o+1) _ (h.setCell (.inl hg) u)
theorem sorted_any (w0 w:World) (R:Asr) (A:Option Addr) (n c bA:Nat) (xs:List Int) (h:Hold w0 w R) (hA:Reads w bA A n (xs.map (Value.int .i64))) (hn:n<=1000) (h0:0<n) :
  Calls Tryz.prog 182 #[.slice A n c] w fun e w'=>∃A' c',e = .returned (.slice A' (srt xs).length c')/\Hold w0 w' (queA 3 (.slice A' (srt xs).length c') ((srt xs).map (Value.int .i64))*R):=by
 have lx:xs.length=n:=by simpa using hA.len
 have HL:=hid lx;have HH:=hid h;have HC:=hid (Z1c w A n c bA xs hA (by omega));clear h hA lx;go_enter Tryz.func182,Tryz.ntmps182;go_wp2_with fail;refine HC.out.mono ?_;rintro e w1 ⟨A',c',rfl,hown,hc⟩;have h1:=HH.out.newRow hc hown (Nat.le_refl _);clear HC;obtain⟨_,ho⟩:=hown;rcases ho with⟨_,hz⟩|⟨g,cap,cur,hv,hg,hb,hle,hm,hsz,ht⟩
 ·omega
 injection hv with hv hv2 hv3
 subst hv hv3;rw[Nat.mul_one] at hsz ht;have hb2:Blk w1 g 3 cur:=hb;have hlx:=HL.out;have ht2:cur.toList.take xs.length=xs.map (Value.int .i64):=by rw[hlx];exact ht
 have hgl:g<w1.heap.size:=(Array.getElem?_eq_some_iff.1 hb).1;have hS:=Zfq g 0 c' xs w1 (holds_of_blockI hb ht2) hgl (by omega);rw[hlx] at hS;have HS:=hid hS;have hle2:=Zdd xs;have hcp:Hid (∀(w2:World),(∃n2 os,w2=Go.Sort.grow (Go.Sort.putRow (Value.int .i64) (Go.Sort.ahead w1 n2) g 0 (xs.mergeSort fun x y=>decide (x<=y)).toArray) os)->Calls Tryz.prog 217 #[.slice (some ⟨g,0,none⟩) n c'] w2 fun e w'=>e = .returned (.slice (some ⟨g,0,none⟩) (srt xs).length c')/\Hold w0 w' (queA 3 (.slice (some ⟨g,0,none⟩) (srt xs).length c') ((srt xs).map (Value.int .i64))*R)):=hid (by
  rintro w2 ⟨n2,os,rfl⟩;obtain⟨ts,hts⟩:∃ts,ts=xs.mergeSort fun x y=>decide (x<=y):=⟨_,rfl⟩;have hl2:ts.length=n:=by rw[hts,List.length_mergeSort];exact hlx
  have hsr:srt xs=Lib.compact ts:=by rw[hts];rfl
  rw[<- hts,hsr];have hb3:Blk (Go.Sort.grow (Go.Sort.putRow (Value.int .i64) (Go.Sort.ahead w1 n2) g 0 ts.toArray) os) g 3 (Go.Sort.putCells (Value.int .i64) 0 ts.toArray cur):=heap_sortedI _ hb;have htk:=take_putCellsI cur ts (by rw[hl2,hsz];exact hle);have hcs:(Go.Sort.putCells (Value.int .i64) 0 ts.toArray cur).size=c':=by simp[Go.Sort.putCells,hsz]
  have hgr:Chg [g] w1 (Go.Sort.grow (Go.Sort.putRow (Value.int .i64) (Go.Sort.ahead w1 n2) g 0 ts.toArray) os):=(Chg.refl _ w1).grown (grownBy_sortedI ts.toArray) (fun k hk=>by injection hk with hk;exact .inl (by simp[hk]));generalize Go.Sort.grow _ os=w2 at hb3 hgr |-;generalize Go.Sort.putCells _ 0 ts.toArray cur=cs at hb3 htk hcs;have hcell:∀j,j<ts.length->w2.cell? ⟨g,0+j,none⟩=some (.int .i64 (ts.getD j 0)):=fun j hj=>by
   rw[Nat.zero_add];refine hb3.some_ ?_;have h9:(cs.toList.take ts.length)[j]?=(ts.map (Value.int .i64))[j]?:=by rw[htk]
   rw[List.getElem?_take_of_lt hj,List.getElem?_map,List.getElem?_eq_getElem hj] at h9;rw[<- Array.getElem?_toList,h9];simp[List.getD,List.getElem?_eq_getElem hj]
  refine(Zaq g 0 n c' ts w2 (by omega) (by omega) (by omega) hcell (fun j _=>hb3.frozen _)).mono ?_;rintro e w3 ⟨rfl,q,rfl⟩;rw[List.take_of_length_le (by omega)];refine⟨rfl,?_⟩;obtain⟨fp,hp,K⟩:=h1.open_;have hfp:fp=[g]:=by
   have:=hp.2;rw[this,Z0x]
  have hlc:=Z6z ts;have hlm:((Lib.compact ts++List.replicate (n - (Lib.compact ts).length) 0).map (Value.int .i64)).length=n:=by simp;omega
  refine K _ _ [g] (by rw[hfp];exact Z5a (by simp) _ _ _ (hgr.drewN q)) (.inr ⟨g,0,c',_,by rw[List.length_map],Z5b _ 0 cs _ (hb3.chg ((Chg.refl [] w2).drewN q) (by simp)),?_,?_,hm,?_,rfl⟩) (by rw[hfp];exact fun b hb=>.inl hb)
  ·rw[Z8t];omega
  ·rw[List.length_map];omega
  ·intro j hj
   rw[List.length_map] at hj;rw[Nat.zero_add,Z7i _ _ _ _ (by rw[hlm];omega),if_pos ⟨Nat.zero_le _,by rw[hlm];omega⟩,Nat.sub_zero,List.map_append,List.getElem?_append_left (by rw[List.length_map];exact hj)])
 clear h1 hb hb2 ht ht2 hS hsz hgl;go_wp2_with fail;refine HS.out.mono ?_;rintro e w2 ⟨rfl,hw2⟩;have HW2:=hid (hcp.out w2 hw2);clear hw2 HS hcp;go_wp2_with fail;refine HW2.out.mono ?_;rintro e w3 ⟨rfl,h3⟩;have H3:=hid h3;clear h3 HW2;go_wp2_with fail;go_ret;exact⟨_,_,rfl,H3.out⟩
end Go.Proofs.YtmlfangeanmmeaaGreatDoor
