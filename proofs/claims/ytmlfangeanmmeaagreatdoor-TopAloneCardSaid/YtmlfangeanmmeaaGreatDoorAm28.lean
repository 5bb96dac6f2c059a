/-
 What the proof of TopAlone leans on, part 28 of 49: Nm, Mp, Wf, Nn, No, Np, Nq, Nt, At15. No statement of its own.
-/
import Derived.Test.YtmlfangeanmmeaaGreatDoorAm21
import Derived.Test.YtmlfangeanmmeaaGreatDoorAm26
import Derived.Test.YtmlfangeanmmeaaGreatDoorAm27
set_option maxHeartbeats 16000000
set_option maxRecDepth 8000
set_option linter.unusedVariables false
namespace Go.Proofs.YtmlfangeanmmeaaGreatDoor
open Go.RowKit
section
variable {w0 w:World} {R R':Asr} {g gl:Nat} {c:Cfg} {x:AtR} {L:PL} {A:Option Addr} {n cp:Nat} {al:List Int}
theorem Z1l {ι:Type} {Q:ι->Asr} {m:Value} {f:FuncId} {cs:Array Value} (h:Hold w0 w (atA g c x*R)) (ha:x.at_=1) (ht:x.then_ = .func (.func f) #[] cs) (hce:∀w,(callFunc f cs).run Tryz.prog w = .ok (.enter f cs) w)
  (hs:∀w' gr,Hold w0 w' (atA g c {x with at_:=0}*(blkA 50 gr (acD acc0)*R))->Calls Tryz.prog f cs w' fun e w''=>e = .returned (.tuple #[])/\∃i,Hold w0 w'' (blkA 50 gr (acD acc0)*Q i)) :
  Calls Tryz.prog 57 #[ptrV g,m] w (Z0e w0 Q acc0 0):=by
 have H1:=hid (nb h);have HA:=hid (And.intro ha ht);have HS:=hid hs;clear h ha ht hs;go_enter Tryz.func57,Tryz.ntmps57;go_upto_region 1 with fail
 have h1:=H1.out;generalize hW:w.alloc _=W at h1 |-;generalize w.heap.size=gr at h1 |-;clear hW H1;have h2:Hold w0 W (atA g c x*(blkA 50 gr (acD acc0)*R)):=h1.swap;have p1:=h2.Zly;rw[HA.out.1] at p1;have z1:=h2.atZ 31;have p2:=h2.at_then_;rw[HA.out.2] at p2;have h3:=h2.Zlx 0;have HC:=hid (HS.out _ _ h3);clear h1 h2 h3;go_wp2_with fail;refine HC.out.mono ?_;rintro e w1 ⟨rfl,i,h4⟩;clear HC p1 z1 p2;go_wp2_with (refine Z00 rfl 50 _ _ rfl gr _ _ (acD acc0) rfl rfl _ Tryz.sizeOf50 h4 rfl rfl rfl ?_;intro y h5);exact bodyPost_ret (Z05 Tryz.results57 _ rfl Tryz.isAgg50 _ Tryz.sizeOf50 h5.blk rfl) rfl ⟨i,rfl,h5.drop⟩
theorem Z4i {v:Int} (h:Hold w0 w (atA g c x*(lgA gl L*R))) (hxl:x.log=gl) (hv:v≠1) :
  Calls Tryz.prog 109 #[ptrV g,.int .i64 v] w fun e w'=>∃gt,e = .returned (.tuple #[])/\Hold w0 w' (atA g c {x with code:=v,at_:=6,turn:=ptrV gt}*(tuA gt false 0 false*(lgA gl L*R))):=by
 have p:=h.at_code;have z:=h.atZ 30;have h1:=h.at_code_set v;have H1:=hid h1;have HX:=hid hxl;have hvb:(v==1)=false:=beq_eq_false_iff_ne.2 hv;clear h h1 hxl hv;go_enter Tryz.func109,Tryz.ntmps109;go_upto_region 1 with fail
 have h1:=H1.out;generalize hW:World.setCell _ _ _=W at h1 |-;clear hW H1 p z;have hs:=Z1j h1 HX.out;rw[show (({x with code:=v}:AtR).code==1)=false from hvb,Bool.false_and] at hs;have HS:=hid hs;clear hs;go_wp2_with fail;refine HS.out.mono ?_;rintro e w' ⟨rfl,rfl⟩;go_wp2_with fail;refine(Z76 w0 W _ h1).mono ?_;rintro e w2 ⟨gt,rfl,h2⟩;clear HS h1;replace h2:=h2.swap;have p1:=h2.Zly;have z1:=h2.atZ 31;have h3:=h2.Zlx 6;have p2:=h2.at_turn;have z2:=h2.atZ 10;have H4:=hid (h3.at_turn_set (ptrV gt));clear h2 h3;go_wp2_with fail;refine bodyPost_ret (results_none rfl _ _ _) rfl ?_;exact⟨gt,rfl,H4.out⟩
theorem Zb0 {b1:Nat} (h:Hold w0 w (atA g c x*(lgA gl L*(blkA 108 b1 #[ptrV g]*R)))) (hxl:x.log=gl) :
  Calls Tryz.prog 111 #[ptrV b1] w fun e w'=>∃gt,e = .returned (.tuple #[])/\Hold w0 w' (atA g c {x with code:=7,at_:=6,turn:=ptrV gt}*(tuA gt false 0 false*(lgA gl L*(blkA 108 b1 #[ptrV g]*R)))):=by
 have HE:=hid (Z4i (v:=7) h hxl (by decide));have q0:=h.drop.drop.blk.some_ (i:=0) rfl;clear h;go_enter Tryz.func111,Tryz.ntmps111;go_wp2_with fail;refine HE.out.mono ?_;rintro e w' ⟨gt,rfl,h1⟩;have H1:=hid h1;clear h1 q0;go_wp2_with fail
 go_end0
 exact⟨gt,rfl,H1.out⟩
theorem Z8c {b1:Nat} (h:Hold w0 w (atA g c x*(lgA gl L*(blkA 108 b1 #[ptrV g]*R)))) (hxl:x.log=gl) :
  Calls Tryz.prog 195 #[ptrV b1] w fun e w'=>∃gt,e = .returned (.tuple #[])/\Hold w0 w' (atA g c {x with code:=8,at_:=6,turn:=ptrV gt}*(tuA gt false 0 false*(lgA gl L*(blkA 108 b1 #[ptrV g]*R)))):=by
 have HE:=hid (Z4i (v:=8) h hxl (by decide));have q0:=h.drop.drop.blk.some_ (i:=0) rfl;clear h;go_enter Tryz.func195,Tryz.ntmps195;go_wp2_with fail;refine HE.out.mono ?_;rintro e w' ⟨gt,rfl,h1⟩;have H1:=hid h1;clear h1 q0;go_wp2_with fail
 go_end0
 exact⟨gt,rfl,H1.out⟩
theorem Z6o {b1 k:Nat} (h:Hold w0 w (atA g c x*(queA 3 (.slice A n cp) (iL al)*(blkA 108 b1 #[ptrV g]*R)))) (hx:x.allocs = .slice A n cp) (hn:n=al.length) (hp:x.pushed=(k:Int)) (hk:k<=n) (hn2:n<=1000) (hcf:CfS c) (hal:∀b∈al,0<=b/\b<(nbl c:Nat)) :
  Calls Tryz.prog 190 #[ptrV b1] w fun e w'=>e = .returned (.tuple #[])/\FinQ w0 g c {x with code:=3} al (queA 3 (.slice A n cp) (iL al)*(blkA 108 b1 #[ptrV g]*R)) w':=by
 have HE:=hid (Z2j 3 h hx hn hp hk hn2 (by decide) hcf hal);have q0:=h.drop.drop.blk.some_ (i:=0) rfl;clear h;go_enter Tryz.func190,Tryz.ntmps190;go_wp2_with fail;refine HE.out.mono ?_;rintro e w' ⟨rfl,h1⟩;have H1:=hid h1;clear h1 q0;go_wp2_with fail
 go_end0
 exact⟨rfl,H1.out⟩
end
end Go.Proofs.YtmlfangeanmmeaaGreatDoor
namespace Go.Proofs.YtmlfangeanmmeaaGreatDoor
open Go
section
variable {C:Cells} {k k' i j v:Int} {d:Bool}
theorem Z69 (h:hasC C k i):1<=k/\k<=8:=by
 unfold hasC getC at h
 by_cases hk:1<=k/\k<=8
 ·exact hk
 ·rw[if_neg hk] at h;simp at h;omega
theorem Zjb (h:k≠k'):getC (opC C k i v d) k'=getC C k':=by
 unfold opC
 split
 ·rename_i hh
  have hk:=Z69 hh.1;unfold getC
  split
  ·rename_i h1
   exact Zdi (by omega)
  ·rfl
 ·rfl
theorem Z0y (h:k≠k'):valC (opC C k i v d) k' j=valC C k' j:=by unfold valC;rw[Zjb h]
theorem Z2d (h:hasC C k i):valC (opC C k i v true) k i=v:=by
 have hk:=Z69 h;have h2:=h.2;unfold valC opC;rw[if_pos ⟨h,rfl⟩];unfold getC at h2 |-;rw[if_pos hk] at h2 |-;rw[Z9w];have:i.toNat<(C k.toNat).length:=by have:=h.1;omega
 simp[List.getD,this]
theorem Z4k (hi:0<=i) (hj:0<=j) (h:i≠j):valC (opC C k i v d) k j=valC C k j:=by
 unfold opC
 split
 ·rename_i hh
  have hk:=Z69 hh.1;unfold valC getC;rw[if_pos hk,if_pos hk,Z9w];have:i.toNat≠j.toNat:=by omega
  simp[List.getD,this]
 ·rfl
theorem Z1z (h:hasC C k i) (kd:Int):(opA C kd k i v d).got=valC C k i:=by unfold opA;rw[if_pos h]
theorem Z5s (h:hasC C k i) (kd:Int):(opA C kd k i v d).done=d:=by unfold opA;rw[if_pos h]
theorem Z7k (h:hasC C k i) (kd:Int):(opA C kd k i v d).kind=kd:=by unfold opA;rw[if_pos h]
end
section
variable {c:Cfg} {n:Nat} {C:Cells} {k i v:Int} {d:Bool}
end
theorem Z20 {d:Array Int} {x:Int}:∀{m:Nat},m<=d.size->(x∈Lib.compactUpTo d m ↔ ∃j,j<m/\d[j]! = x)
 | 0,_=>by simp[Lib.compactUpTo]
 | m+1,hm=>by
  rw[Lib.compactUpTo_succ,List.mem_append,Z20 (by omega)];constructor
  ·rintro(⟨j,hj,rfl⟩|h)
   ·exact⟨j,by omega,rfl⟩
   ·by_cases hk:Lib.keeps d m=true
    ·rw[if_pos hk] at h;exact⟨m,by omega,(List.mem_singleton.1 h).symm⟩
    ·rw[if_neg hk] at h;cases h
  ·rintro⟨j,hj,rfl⟩
   by_cases hjm:j<m
   ·exact .inl ⟨j,hjm,rfl⟩
   ·have:j=m:=by omega
    subst this
    by_cases hk:Lib.keeps d j=true
    ·right;rw[if_pos hk];simp
    ·left
     have h0:j≠0:=by intro h0;subst h0;simp[Lib.keeps] at hk
     have he:d[j]! = d[j - 1]!:=by
      by_cases he:d[j]! = d[j - 1]!
      ·exact he
      ·exact absurd (Lib.keeps_pos he) hk
     exact⟨j - 1,by omega,he.symm⟩
theorem Z30 {d:Array Int} (hs:∀i j,i<=j->j<d.size->d[i]!<=d[j]!):∀{m:Nat},m<=d.size->(Lib.compactUpTo d m).Pairwise (· < ·)
 | 0,_=>by simp[Lib.compactUpTo]
 | m+1,hm=>by
  rw[Lib.compactUpTo_succ,List.pairwise_append];refine⟨Z30 hs (by omega),?_,?_⟩
  ·split <;> simp
  ·intro x hx y hy
   by_cases hk:Lib.keeps d m=true
   ·rw[if_pos hk] at hy
    have hy:y=d[m]!:=by simpa using hy
    subst hy;obtain⟨j,hj,rfl⟩:=(Z20 (by omega)).1 hx;have hne:d[m]! ≠ d[m - 1]!:=by
     intro he;rw[Lib.keeps_neg (by omega) he] at hk
     cases hk
    have h1:=hs j (m - 1) (by omega) (by omega);have h2:=hs (m - 1) m (by omega) (by omega);omega
   ·rw[if_neg hk] at hy;cases hy
theorem Z9a {zs:List Int} (h:zs.Pairwise (·<=·)):(Lib.compact zs).Pairwise (· < ·):=by
 refine Z30 (fun i j hij hj=>?_) (by simp);have hj:j<zs.length:=by simpa using hj
 have e1:zs.toArray[i]! = zs[i]:=by simp[getElem!_pos,show i<zs.length by omega]
 have e2:zs.toArray[j]! = zs[j]:=by simp[getElem!_pos,hj]
 rw[e1,e2];rcases Nat.lt_or_ge i j with h1|h1
 ·exact List.pairwise_iff_getElem.1 h i j _ hj h1
 ·have:i=j:=by omega
  subst this;exact Int.le_refl _
theorem Za7 {zs:List Int} {x:Int}:x∈Lib.compact zs ↔ x∈zs:=by
 unfold Lib.compact;rw[Z20 (by simp),List.mem_iff_getElem];constructor
 ·rintro⟨j,hj,rfl⟩
  exact⟨j,hj,by simp[getElem!_pos,hj]⟩
 ·rintro⟨j,hj,rfl⟩
  exact⟨j,hj,by simp[getElem!_pos,hj]⟩
theorem Zdh (xs:List Int):(xs.mergeSort fun x y=>decide (x<=y)).Pairwise (·<=·):=by
 have:=List.pairwise_mergeSort (le:=fun x y:Int=>decide (x<=y)) (fun a b c h1 h2=>by simp at h1 h2 |-;omega) (fun a b=>by simp;omega) xs;exact this.imp (fun h=>by simpa using h)
theorem Zbe (xs:List Int):(srt xs).Pairwise (· < ·):=Z9a (Zdh xs)
theorem mem_srt {xs:List Int} {x:Int}:x∈srt xs ↔ x∈xs:=by
 unfold srt;rw[Za7,List.mem_mergeSort]
theorem Z99 {zs:List Int} (h:zs.Pairwise (· < ·)):Lib.compact zs=zs:=by
 refine Lib.compact_all zs fun j hj=>?_;unfold Lib.keeps
 by_cases h0:j=0
 ·simp[h0]
 ·have e1:zs.toArray[j - 1]! = zs[j - 1]:=by simp[getElem!_pos,show j - 1<zs.length by omega]
  have e2:zs.toArray[j]! = zs[j]:=by simp[getElem!_pos,hj]
  have:=List.pairwise_iff_getElem.1 h (j - 1) j (by omega) hj (by omega);rw[e1,e2];simp
  right;omega
theorem Zi9 (xs:List Int):srt (srt xs)=srt xs:=by
 have hp:=Zbe xs;have h1:(srt xs).mergeSort (fun x y=>decide (x<=y))=srt xs:=List.mergeSort_of_pairwise (hp.imp fun h=>by simp;omega);show Lib.compact ((srt xs).mergeSort fun x y=>decide (x<=y))=srt xs;rw[h1];exact Z99 hp
def inT (p:List InsR):Nat->Bool
 | 0=>false
 | k+1=>match p[k]? with|some i=>if i.op=7 then true else if i.op=8 then false else inT p k|none=>inT p k
theorem Z1a {p:List InsR} {k:Nat} {i:InsR} (h:p[k]?=some i):inT p (k+1)=if i.op=7 then true else if i.op=8 then false else inT p k:=by
 show (match p[k]? with|some i=>if i.op=7 then true else if i.op=8 then false else inT p k|none=>inT p k)=_;rw[h]
theorem Z1e {L:PL} {a v:Int}:(putL L a v).cap=L.cap:=by
 unfold putL
 split
 ·rfl
 ·split
  ·rfl
  ·split <;> rfl
theorem Zg0 {L:PL} {a v z:Int} (h:z∈(putL L a v).addrs):z∈L.addrs\/z=a:=by
 unfold putL at h
 split at h
 ·exact .inl h
 ·split at h
  ·exact .inl h
  ·split at h
   ·rcases List.mem_append.1 h with h|h
    ·exact .inl h
    ·exact .inr (List.mem_singleton.1 h)
   ·exact .inl h
section
variable {c:Cfg} {p:List InsR} {B:Nat} {T T':TS} {id:Int} {C C':Cells} {s:StR}
end
end Go.Proofs.YtmlfangeanmmeaaGreatDoor
namespace Go.Proofs.YtmlfangeanmmeaaGreatDoor
open Go.RowKit
structure LgOk (c:Cfg) (L:PL):Prop where
 inv:Inv L
 adr:∀a∈L.addrs,0<=a/\a<c.words+((nbl c:Nat):Int)
theorem LgOk.put {c:Cfg} {L:PL} (h:LgOk c L) {a:Int} (ha:0<=a/\a<c.words+((nbl c:Nat):Int)) (v:Int):LgOk c (putL L a v) :=
 ⟨h.inv.put a v,fun z hz=>by
  rcases Zg0 hz with h1|rfl
  ·exact h.adr z h1
  ·exact ha⟩
def AlcQ (w0:World) (g:Nat) (c:Cfg) (x:AtR) (gl:Nat) (A:Option Addr) (n cp:Nat) (al:List Int) (L:PL) (b:Int) (R:Asr) (w':World):Prop :=
 (b=-1/\FinQ w0 g c {x with code:=4} al (queA 3 (.slice A n cp) (iL al)*(lgA gl L*R)) w') \/
 ∃(L':PL) (A':Option Addr) (cp':Nat),LgOk c L'/\L'.cap=L.cap/\(0<=b/\b<(nbl c:Nat)) /\
  (FinQ w0 g c {x with allocs:=.slice A' (n+1) cp',code:=3} (al++[b]) (queA 3 (.slice A' (n+1) cp') (iL (al++[b]))*(lgA gl L'*R)) w' \/
   Hold w0 w' (atA g c {x with allocs:=.slice A' (n+1) cp',value:=fst c b}*(queA 3 (.slice A' (n+1) cp') (iL (al++[b]))*(lgA gl L'*R))))
section
variable {w0 w:World} {R R':Asr} {g gl gp k:Nat} {c:Cfg} {x:AtR} {L:PL} {A:Option Addr} {n cp:Nat} {al:List Int} {hd nx b:Int}
structure AlOk (c:Cfg) (x:AtR) (gl:Nat) (A:Option Addr) (n cp k:Nat) (al:List Int):Prop where
 log:x.log=gl
 all:x.allocs = .slice A n cp
 len:n=al.length
 pu:x.pushed=(k:Int)
 le:k<=n
 n2:n<=100
 cfg:CfS c
 rng:∀b∈al,0<=b/\b<(nbl c:Nat)
theorem at_put_any {a v:Int} (h:Hold w0 w (atA g c x*(lgA gl L*(queA 3 (.slice A n cp) (iL al)*R)))) (O:AlOk c x gl A n cp k al) (H:Inv L) :
  Calls Tryz.prog 118 #[ptrV g,.int .i64 a,.int .u64 v] w fun e w'=>∃r:Bool,e = .returned (.bool r)/\(r=true/\Hold w0 w' (atA g c x*(lgA gl (putL L a v)*(queA 3 (.slice A n cp) (iL al)*R)))\/r=false/\FinQ w0 g c {x with code:=3} al (queA 3 (.slice A n cp) (iL al)*(lgA gl (putL L a v)*R)) w'):=by
 cases hok:Z1y L a with
 | true=>exact(Zhw h O.log H hok).mono fun e w' h=>⟨true,h.1,.inl ⟨rfl,h.2⟩⟩
 | false=>exact(Z9e h O.log H hok O.all O.len O.pu O.le (by have:=O.n2;omega) O.cfg O.rng).mono fun e w' h=>⟨false,h.1,.inr ⟨rfl,h.2⟩⟩
theorem Z8e (h:Hold w0 w (atA g c x*(poA gp 0 3 hd nx b*(lgA gl L*(queA 3 (.slice A n cp) (iL al)*R))))) (O:AlOk c x gl A n cp k al) (hna:n<=99) (hpop:x.pop=ptrV gp) (H:LgOk c L) (hb:b=-1\/(0<=b/\b<(nbl c:Nat))/\clsS c b=0) :
  Calls Tryz.prog 193 #[ptrV g,.int .i64 0] w fun e w'=>e = .returned (.tuple #[])/\AlcQ w0 g c x gl A n cp al L b (poA gp 0 3 hd nx b*R) w':=by
 obtain⟨iI,hiI,iz0,iz1,iz2⟩:=info_parts Z1i;have HB:=hid (Zbl w0 w _ gp 0 3 hd nx b h.swap);have q0:=h.at_pop;rw[hpop] at q0;have HO:=hid O;have HH:=hid H;have hw:=O.cfg.words;have hnb:nbl c<=64:=Z55 (Z14 O.cfg.ok);clear H O hpop;go_enter Tryz.func193,Tryz.ntmps193;go_wp2_with fail;refine HB.out.mono ?_;rintro e w' ⟨rfl,rfl⟩;clear HB q0;rcases hb with rfl|⟨hb,hcls⟩
 ·have hh:Hold w0 w (atA g c x*(queA 3 (.slice A n cp) (iL al)*(lgA gl L*(poA gp 0 3 hd nx (-1)*R)))):=h.pk4 [0,3,2,1]
  have HU:=hid (Z2j 4 hh HO.out.all HO.out.len HO.out.pu HO.out.le (by have:=HO.out.n2;omega) (by decide) HO.out.cfg HO.out.rng);clear h hh;go_wp2_with fail;refine HU.out.mono ?_;rintro e w' ⟨rfl,h1⟩;have H1:=hid h1;clear h1 HU;go_wp2_with fail;refine bodyPost_ret (results_none rfl _ _ _) rfl ?_;exact⟨rfl,Or.inl ⟨rfl,H1.out⟩⟩
 ·have e1 : decide (b<0)=false:=decide_eq_false (by omega)
  have q1:=h.at_allocs;rw[HO.out.all] at q1;have z1:=h.atZ 3;have H2:=hid (h.pk4 [3,0,1,2]);have HBB:=hid (And.intro hb hcls);clear h hcls;have hlen:(iL (al++[b])).length=n+1:=by rw[List.length_map,List.length_append,<- HO.out.len];rfl
  have happ:iL al++[Value.int .i64 b]=iL (al++[b]):=by simp
  have HLA:=hid (And.intro hlen happ);clear hlen happ;go_upto_region 4 with(at_builtin;refine Z0r rfl _ _ 23 rfl iI (.int .i64 0) 8 Tryz.underlying23 hiI iz0 iz1 iz2 rfl (.int .i64 b) _ rfl H2.out rfl rfl (by rw[List.length_map,<- HO.out.len];have:=HO.out.n2;omega) (by decide) ?_;intro jv w5 h5;rw[HLA.out.2] at h5;obtain⟨A',cp',rfl⟩:=h5.Zlu;rw[HLA.out.1] at h5 |-;have p5:=(h5.pk2 [1]).at_allocs;have y5:=(h5.pk2 [1]).atZ 3)
  have h6:Hold w0 _ (atA g c {x with allocs:=.slice A' (n+1) cp'}*(queA 3 (.slice A' (n+1) cp') (iL (al++[b]))*(poA gp 0 3 hd nx b*(lgA gl L*R)))):=(h5.pk2 [1,0]).at_allocs_set (.slice A' (n+1) cp');generalize hW:World.setCell _ _ _=W6 at h6 |-;clear hW p5 y5 h5 H2 z1 q1 iz0 iz1 iz2 hiI;have O6:AlOk c {x with allocs:=.slice A' (n+1) cp'} gl A' (n+1) cp' k (al++[b]):=⟨HO.out.log,rfl,by rw[List.length_append,<- HO.out.len];rfl,HO.out.pu,by have:=HO.out.le;omega,by omega,HO.out.cfg,fun z hz=>by
   rcases List.mem_append.1 hz with h1|h1
   ·exact HO.out.rng z h1
   ·rw[List.mem_singleton.1 h1];exact HBB.out.1⟩
  have HO6:=hid O6;have q2:=h6.at_words;have HP:=hid (at_put_any (a:=c.words+b) (v:=1) (h6.pk4 [0,3,1,2]) O6 HH.out.inv);clear h6 O6;go_wp2_with fail;refine HP.out.mono ?_;rintro e w7 ⟨r,rfl,⟨rfl,h7⟩|⟨rfl,h7⟩⟩
  rotate_left 1
  ·have H7:=hid h7
   clear h7 HP q2;go_wp2_with fail;refine bodyPost_ret (results_none rfl _ _ _) rfl ?_;exact⟨rfl,Or.inr ⟨_,A',cp',HH.out.put (by omega) _,Z1e,HBB.out.1,.inl H7.out⟩⟩
  ·have HF:=hid (Zal w7 HO.out.cfg hb.1 hb.2)
   have hLk:=HH.out.put (a:=c.words+b) (by omega) 1;have hcp:(putL L (c.words+b) 1).cap=L.cap:=Z1e;generalize putL L (c.words+b) 1=L1 at h7 hLk hcp;have HL1:=hid (And.intro hLk hcp);have h8:=h7;clear HP q2 h7 hLk hcp;go_wp2_with (refine Z0l rfl 32 _ rfl g 15 155 40 _ c.cells rfl Tryz.isAgg32 13 Tryz.sizeOf32 h8 rfl (by decide) ?_);refine HF.out.mono ?_;rintro e w8 ⟨rfl,hc1⟩;have H9:=hid (h8.chg0 hc1);obtain⟨f0,f1,f2⟩:=Zel HO.out.cfg hb.1 hb.2;rw[(show clsS c b=0 from HBB.out.2)] at f2;obtain⟨f,hf⟩:∃f,f=fst c b:=⟨_,rfl⟩;have HFE:=hid hf;rw[<- hf] at f0 f1 f2 |-;clear HF hc1 h8 hf;go_wp2_with fail;go_loopw [50] (fun v50 wr=>∃(j:Nat) (L2:PL),j<=1/\v50 = .int .i64 (j:Int)/\LgOk c L2/\L2.cap=L.cap/\Hold w0 wr (atA g c {x with allocs:=.slice A' (n+1) cp'}*(lgA gl L2*(queA 3 (.slice A' (n+1) cp') (iL (al++[b]))*(poA gp 0 3 hd nx b*R))))) (fun v _=>1 - (intOf v).toNat)
   case atStart=>exact⟨0,L1,by omega,rfl,HL1.out.1,HL1.out.2,H9.out⟩
   case round =>
    clear H9;obtain⟨j,L2,hj,rfl,hL2,hc2,h⟩:=hrel;have HL2:=hid (And.intro hL2 hc2)
    by_cases hlt:j<1
    ·have d1:decide ((j:Int)<1)=true:=decide_eq_true (by omega)
     have d2:decide (j<1)=true:=decide_eq_true hlt;have HP:=hid (at_put_any (a:=f+(j:Int)) (v:=0) h HO6.out hL2.inv);have hfj:0<=f+(j:Int)/\f+(j:Int)<c.words:=by omega
     clear h hL2 hc2;go_wp2_with fail;refine HP.out.mono ?_;rintro e w9 ⟨r,rfl,⟨rfl,h9⟩|⟨rfl,h9⟩⟩
     ·have H9:=hid h9
      clear h9 HP;go_wp2_with fail;go_roundw
      case rel=>exact⟨j+1,_,by omega,by go_num,HL2.out.1.put (by omega) _,by rw[Z1e];exact HL2.out.2,H9.out⟩
      case measure=>simp[intOf];omega
     ·have H9:=hid h9
      clear h9 HP;go_wp2_with fail;refine bodyPost_ret (results_none rfl _ _ _) rfl ?_;exact⟨rfl,Or.inr ⟨_,A',cp',HL2.out.1.put (by omega) _,by rw[Z1e];exact HL2.out.2,HBB.out.1,.inl H9.out⟩⟩
    ·obtain rfl:j=1:=by omega
     have p1:=h.at_value;have z1:=h.atZ 35;have H9:=hid ((h.at_value_set f).pk3 [0,2,1]);clear h hL2 hc2;go_wp2_with fail
     go_end0
     exact⟨rfl,Or.inr ⟨L2,A',cp',HL2.out.1,HL2.out.2,HBB.out.1,.inr (by rw[<- HFE.out];exact H9.out)⟩⟩
theorem Z8d (h:Hold w0 w (atA g c x*(poA gp 1 3 hd nx b*(lgA gl L*(queA 3 (.slice A n cp) (iL al)*R))))) (O:AlOk c x gl A n cp k al) (hna:n<=99) (hpop:x.pop=ptrV gp) (H:LgOk c L) (hb:b=-1\/(0<=b/\b<(nbl c:Nat))/\clsS c b=1) :
  Calls Tryz.prog 193 #[ptrV g,.int .i64 1] w fun e w'=>e = .returned (.tuple #[])/\AlcQ w0 g c x gl A n cp al L b (poA gp 1 3 hd nx b*R) w':=by
 obtain⟨iI,hiI,iz0,iz1,iz2⟩:=info_parts Z1i;have HB:=hid (Zbl w0 w _ gp 1 3 hd nx b h.swap);have q0:=h.at_pop;rw[hpop] at q0;have HO:=hid O;have HH:=hid H;have hw:=O.cfg.words;have hnb:nbl c<=64:=Z55 (Z14 O.cfg.ok);clear H O hpop;go_enter Tryz.func193,Tryz.ntmps193;go_wp2_with fail;refine HB.out.mono ?_;rintro e w' ⟨rfl,rfl⟩;clear HB q0;rcases hb with rfl|⟨hb,hcls⟩
 ·have hh:Hold w0 w (atA g c x*(queA 3 (.slice A n cp) (iL al)*(lgA gl L*(poA gp 1 3 hd nx (-1)*R)))):=h.pk4 [0,3,2,1]
  have HU:=hid (Z2j 4 hh HO.out.all HO.out.len HO.out.pu HO.out.le (by have:=HO.out.n2;omega) (by decide) HO.out.cfg HO.out.rng);clear h hh;go_wp2_with fail;refine HU.out.mono ?_;rintro e w' ⟨rfl,h1⟩;have H1:=hid h1;clear h1 HU;go_wp2_with fail;refine bodyPost_ret (results_none rfl _ _ _) rfl ?_;exact⟨rfl,Or.inl ⟨rfl,H1.out⟩⟩
 ·have e1 : decide (b<0)=false:=decide_eq_false (by omega)
  have q1:=h.at_allocs;rw[HO.out.all] at q1;have z1:=h.atZ 3;have H2:=hid (h.pk4 [3,0,1,2]);have HBB:=hid (And.intro hb hcls);clear h hcls;have hlen:(iL (al++[b])).length=n+1:=by rw[List.length_map,List.length_append,<- HO.out.len];rfl
  have happ:iL al++[Value.int .i64 b]=iL (al++[b]):=by simp
  have HLA:=hid (And.intro hlen happ);clear hlen happ;go_upto_region 4 with(at_builtin;refine Z0r rfl _ _ 23 rfl iI (.int .i64 0) 8 Tryz.underlying23 hiI iz0 iz1 iz2 rfl (.int .i64 b) _ rfl H2.out rfl rfl (by rw[List.length_map,<- HO.out.len];have:=HO.out.n2;omega) (by decide) ?_;intro jv w5 h5;rw[HLA.out.2] at h5;obtain⟨A',cp',rfl⟩:=h5.Zlu;rw[HLA.out.1] at h5 |-;have p5:=(h5.pk2 [1]).at_allocs;have y5:=(h5.pk2 [1]).atZ 3)
  have h6:Hold w0 _ (atA g c {x with allocs:=.slice A' (n+1) cp'}*(queA 3 (.slice A' (n+1) cp') (iL (al++[b]))*(poA gp 1 3 hd nx b*(lgA gl L*R)))):=(h5.pk2 [1,0]).at_allocs_set (.slice A' (n+1) cp');generalize hW:World.setCell _ _ _=W6 at h6 |-;clear hW p5 y5 h5 H2 z1 q1 iz0 iz1 iz2 hiI;have O6:AlOk c {x with allocs:=.slice A' (n+1) cp'} gl A' (n+1) cp' k (al++[b]):=⟨HO.out.log,rfl,by rw[List.length_append,<- HO.out.len];rfl,HO.out.pu,by have:=HO.out.le;omega,by omega,HO.out.cfg,fun z hz=>by
   rcases List.mem_append.1 hz with h1|h1
   ·exact HO.out.rng z h1
   ·rw[List.mem_singleton.1 h1];exact HBB.out.1⟩
  have HO6:=hid O6;have q2:=h6.at_words;have HP:=hid (at_put_any (a:=c.words+b) (v:=2) (h6.pk4 [0,3,1,2]) O6 HH.out.inv);clear h6 O6;go_wp2_with fail;refine HP.out.mono ?_;rintro e w7 ⟨r,rfl,⟨rfl,h7⟩|⟨rfl,h7⟩⟩
  rotate_left 1
  ·have H7:=hid h7
   clear h7 HP q2;go_wp2_with fail;refine bodyPost_ret (results_none rfl _ _ _) rfl ?_;exact⟨rfl,Or.inr ⟨_,A',cp',HH.out.put (by omega) _,Z1e,HBB.out.1,.inl H7.out⟩⟩
  ·have HF:=hid (Zal w7 HO.out.cfg hb.1 hb.2)
   have hLk:=HH.out.put (a:=c.words+b) (by omega) 2;have hcp:(putL L (c.words+b) 2).cap=L.cap:=Z1e;generalize putL L (c.words+b) 2=L1 at h7 hLk hcp;have HL1:=hid (And.intro hLk hcp);have h8:=h7;clear HP q2 h7 hLk hcp;go_wp2_with (refine Z0l rfl 32 _ rfl g 15 155 40 _ c.cells rfl Tryz.isAgg32 13 Tryz.sizeOf32 h8 rfl (by decide) ?_);refine HF.out.mono ?_;rintro e w8 ⟨rfl,hc1⟩;have H9:=hid (h8.chg0 hc1);obtain⟨f0,f1,f2⟩:=Zel HO.out.cfg hb.1 hb.2;rw[(show clsS c b=1 from HBB.out.2)] at f2;obtain⟨f,hf⟩:∃f,f=fst c b:=⟨_,rfl⟩;have HFE:=hid hf;rw[<- hf] at f0 f1 f2 |-;clear HF hc1 h8 hf;go_wp2_with fail;go_loopw [50] (fun v50 wr=>∃(j:Nat) (L2:PL),j<=2/\v50 = .int .i64 (j:Int)/\LgOk c L2/\L2.cap=L.cap/\Hold w0 wr (atA g c {x with allocs:=.slice A' (n+1) cp'}*(lgA gl L2*(queA 3 (.slice A' (n+1) cp') (iL (al++[b]))*(poA gp 1 3 hd nx b*R))))) (fun v _=>2 - (intOf v).toNat)
   case atStart=>exact⟨0,L1,by omega,rfl,HL1.out.1,HL1.out.2,H9.out⟩
   case round =>
    clear H9;obtain⟨j,L2,hj,rfl,hL2,hc2,h⟩:=hrel;have HL2:=hid (And.intro hL2 hc2)
    by_cases hlt:j<2
    ·have d1:decide ((j:Int)<2)=true:=decide_eq_true (by omega)
     have d2:decide (j<2)=true:=decide_eq_true hlt;have HP:=hid (at_put_any (a:=f+(j:Int)) (v:=0) h HO6.out hL2.inv);have hfj:0<=f+(j:Int)/\f+(j:Int)<c.words:=by have:=f2 trivial;omega
     clear h hL2 hc2;go_wp2_with fail;refine HP.out.mono ?_;rintro e w9 ⟨r,rfl,⟨rfl,h9⟩|⟨rfl,h9⟩⟩
     ·have H9:=hid h9
      clear h9 HP;go_wp2_with fail;go_roundw
      case rel=>exact⟨j+1,_,by omega,by go_num,HL2.out.1.put (by omega) _,by rw[Z1e];exact HL2.out.2,H9.out⟩
      case measure=>simp[intOf];omega
     ·have H9:=hid h9
      clear h9 HP;go_wp2_with fail;refine bodyPost_ret (results_none rfl _ _ _) rfl ?_;exact⟨rfl,Or.inr ⟨_,A',cp',HL2.out.1.put (by omega) _,by rw[Z1e];exact HL2.out.2,HBB.out.1,.inl H9.out⟩⟩
    ·obtain rfl:j=2:=by omega
     have p1:=h.at_value;have z1:=h.atZ 35;have H9:=hid ((h.at_value_set f).pk3 [0,2,1]);clear h hL2 hc2;go_wp2_with fail
     go_end0
     exact⟨rfl,Or.inr ⟨L2,A',cp',HL2.out.1,HL2.out.2,HBB.out.1,.inr (by rw[<- HFE.out];exact H9.out)⟩⟩
end
def FreQ (w0:World) (g:Nat) (c:Cfg) (x:AtR) (gl:Nat) (A:Option Addr) (n cp:Nat) (al:List Int) (B:Option Addr) (nf cb:Nat) (fr:List Int) (L:PL) (b:Int) (R:Asr) (w':World):Prop :=
 (∃gt:Nat,Hold w0 w' (atA g c {x with code:=8,at_:=6,turn:=ptrV gt}*(tuA gt false 0 false*(queA 3 (.slice A n cp) (iL al)*(lgA gl L*(queA 3 (.slice B nf cb) (iL fr)*R)))))) \/
 ∃L':PL,LgOk c L'/\L'.cap=L.cap /\
  (FinQ w0 g c {x with code:=3} al (queA 3 (.slice A n cp) (iL al)*(lgA gl L'*(queA 3 (.slice B nf cb) (iL fr)*R))) w' \/
   ∃(B':Option Addr) (cb':Nat),(nf:Int)<c.frees/\Hold w0 w' (atA g c {x with frees:=.slice B' (nf+1) cb'}*(queA 3 (.slice A n cp) (iL al)*(lgA gl L'*(queA 3 (.slice B' (nf+1) cb') (iL (fr++[b]))*R)))))
section
variable {w0 w:World} {R R':Asr} {g gl k:Nat} {c:Cfg} {x:AtR} {L:PL} {A B:Option Addr} {n cp nf cb:Nat} {al fr:List Int} {b st:Int}
theorem Zc8 (h:Hold w0 w (atA g c x*(queA 3 (.slice A n cp) (iL al)*(lgA gl L*(queA 3 (.slice B nf cb) (iL fr)*R))))) (O:AlOk c x gl A n cp k al) (hfr:x.frees = .slice B nf cb) (hnf:nf=fr.length) (hnf2:nf<=1000) (H:LgOk c L) (hb:0<=b/\b<(nbl c:Nat)) :
  Calls Tryz.prog 197 #[ptrV g,.int .i64 b,.int .u64 st] w fun e w'=>e = .returned (.tuple #[])/\FreQ w0 g c x gl A n cp al B nf cb fr L b R w':=by
 obtain⟨iI,hiI,iz0,iz1,iz2⟩:=info_parts Z1i;have HCL:=hid (Z82 w O.cfg hb.1 hb.2);have HO:=hid O;have HH:=hid H;have HFR:=hid (And.intro hfr hnf);have hw:=O.cfg.words;have hnb:nbl c<=64:=Z55 (Z14 O.cfg.ok);have hcl:0<=clsS c b/\clsS c b<=1:=by unfold clsS;split <;> omega
 clear O H hfr hnf;go_enter Tryz.func197,Tryz.ntmps197;go_wp2_with (refine Z0l rfl 32 _ rfl g 15 155 40 _ c.cells rfl Tryz.isAgg32 13 Tryz.sizeOf32 h rfl (by decide) ?_);refine HCL.out.mono ?_;rintro e w1 ⟨rfl,hc1⟩;have h1:=h.chg0 hc1;generalize clsS c b=cl at hcl |-;have HX:=hid h1;clear h hc1 HCL
 by_cases hst:st=cl+1
 ·have e1:(st != cl+1)=false:=by rw[hst];exact bne_self_eq_false _
  clear hst h1;go_upto_region 2 with fail
  have h2:=HX.out.drew;have hs2:w1.drew.cell? ⟨g,4,none⟩=some (.slice B nf cb)/\w1.drew.cell? ⟨g,25,none⟩=some (.int .i64 c.frees):=by
   have t1:=h2.at_frees;rw[HFR.out.1] at t1;exact⟨t1,Z0g h2 (i:=25) (by decide)⟩
  clear HX;refine Z01 [] (by kernel_rfl) ?_;generalize hW:w1.drew=W at h2 hs2 |-;clear hW;refine Z04 (fun w'=>w'.cell? ⟨g,4,none⟩=some (.slice B nf cb)/\w'.cell? ⟨g,25,none⟩=some (.int .i64 c.frees)) (fun _ _=>trivial) _ _ _ _ ?_;refine' wbk [true,true,true,true,true,true,true,true,true,true,true,true,true] 56 hs2 (fun wq hq=>?_) ?_;rotate_left
  ·simp only[Z08]
   obtain⟨q1,q2⟩:=hq
   repeat (go_big_quiet_step (fail))
   exact wpQuiet_nil rfl
  refine Z02 (by kernel_rfl) ?_ _;clear hs2;obtain⟨cf,hcf⟩:∃cf,cf=c.frees:=⟨_,rfl⟩;rw[<- hcf];have HCF:=hid hcf;clear hcf
  by_cases hfull:cf<=(nf:Int)
  ·have d1:decide (cf<=(nf:Int))=true:=decide_eq_true hfull
   have hh:Hold w0 W (atA g c x*(queA 3 (.slice A n cp) (iL al)*(lgA gl L*(queA 3 (.slice B nf cb) (iL fr)*R)))):=h2;have HU:=hid (Z2j 3 hh HO.out.all HO.out.len HO.out.pu HO.out.le (by have:=HO.out.n2;omega) (by decide) HO.out.cfg HO.out.rng);clear h2 hh;go_wp2_with fail;refine HU.out.mono ?_;rintro e w' ⟨rfl,h3⟩;have H3:=hid h3;clear h3 HU;go_wp2_with fail
   go_end0
   exact⟨rfl,Or.inr ⟨L,HH.out,rfl,Or.inl H3.out⟩⟩
  ·have d1:decide (cf<=(nf:Int))=false:=decide_eq_false hfull
   have HNF:Hid ((nf:Int)<c.frees):=hid (by have:=HCF.out;omega);have q2:=h2.at_words;have HP:=hid (at_put_any (a:=c.words+b) (v:=0) (h2.pk3 [0,2,1]) HO.out HH.out.inv);clear h2;go_wp2_with fail;refine HP.out.mono ?_;rintro e w7 ⟨r,rfl,⟨rfl,h7⟩|⟨rfl,h7⟩⟩
   ·have q1:=h7.at_frees
    rw[HFR.out.1] at q1;have z1:=h7.atZ 4;have H2:=hid (h7.pk4 [3,0,2,1]);have hlen:(iL (fr++[b])).length=nf+1:=by rw[List.length_map,List.length_append,<- HFR.out.2];rfl
    have happ:iL fr++[Value.int .i64 b]=iL (fr++[b]):=by simp
    have HLA:=hid (And.intro hlen happ);clear h7 HP q2 hlen happ;go_wp2_with (at_builtin;refine Z0r rfl _ _ 23 rfl iI (.int .i64 0) 8 Tryz.underlying23 hiI iz0 iz1 iz2 rfl (.int .i64 b) _ rfl H2.out rfl rfl (by rw[List.length_map,<- HFR.out.2];omega) (by decide) ?_;intro jv w5 h5;rw[HLA.out.2] at h5;obtain⟨B',cb',rfl⟩:=h5.Zlu;rw[HLA.out.1] at h5 |-;have p5:=(h5.pk2 [1]).at_frees;have y5:=(h5.pk2 [1]).atZ 4;have H6:=hid ((h5.pk2 [1,0]).at_frees_set (.slice B' (nf+1) cb')))
    go_end0
    exact⟨rfl,Or.inr ⟨_,HH.out.put (by omega) 0,Z1e,Or.inr ⟨B',cb',HNF.out,H6.out.pk4 [0,2,3,1]⟩⟩⟩
   ·have H7:=hid h7
    clear h7 HP q2;go_wp2_with fail
    go_end0
    exact⟨rfl,Or.inr ⟨_,HH.out.put (by omega) 0,Z1e,Or.inl H7.out⟩⟩
 ·have e1:(st != cl+1)=true:=bne_iff_ne.2 hst
  have HE:=hid (Z4i (v:=8) (h1.pk3 [0,2,1]) HO.out.log (by decide));clear hst h1 HX;go_wp2_with fail;refine HE.out.mono ?_;rintro e w' ⟨gt,rfl,h3⟩;have H3:=hid h3;clear h3 HE;go_wp2_with fail
  go_end0
  exact⟨rfl,Or.inl ⟨gt,H3.out.pk4 [0,1,3,2]⟩⟩
end
def Z5g (a:Acc):Int:=if a.cell=8 then 9 else if a.kind=3 then 10 else 8
def Z1q (a:Acc):Int:=if a.cell=8 then 22 else if a.kind=3 then 23 else 21
section
variable {w0 w:World} {R R':Asr} {g gl gp m k:Nat} {c:Cfg} {x:AtR} {L:PL} {A B:Option Addr} {n cp nf cb:Nat} {al fr:List Int} {b st:Int} {a:Acc} {C C2:Nat->List Int}
theorem Z2y (h:Hold w0 w R):Calls Tryz.prog 154 #[.agg (acD a)] w fun e w'=>e = .returned (.int .i64 (Z5g a))/\Hold w0 w' R:=by
 have H1:=hid (h.newBlk (t:=50) (cs:=acD a));clear h;obtain⟨v,hv⟩:∃v,v=Z5g a:=⟨_,rfl⟩;rw[<- hv];have HV:=hid hv;clear hv;obtain⟨kd,cl,ix,gt,pt,dn⟩:=a;go_enter Tryz.func154,Tryz.ntmps154;go_upto_region 1 with fail
 have h1:=H1.out;generalize hW:w.alloc _=W at h1 |-;generalize w.heap.size=gi at h1 |-;clear hW H1;have p0:W.cell? ⟨gi,0,none⟩=some (.int .i64 kd):=h1.blk.some_ (i:=0) rfl;have p1:W.cell? ⟨gi,1,none⟩=some (.int .i64 cl):=h1.blk.some_ (i:=1) rfl;have H1:=hid h1.drop;clear h1
 by_cases h8:cl=8
 ·have e8:(cl==8)=true:=beq_iff_eq.2 h8
  have HV:=hid (HV.out.trans (if_pos h8));clear h8;go_wp2_with fail;go_ret;exact⟨by rw[HV.out];rfl,H1.out⟩
 ·have e8:(cl==8)=false:=beq_eq_false_iff_ne.2 h8
  have HV:=hid (HV.out.trans (if_neg h8));clear h8
  by_cases h3:kd=3
  ·have e3:(kd==3)=true:=beq_iff_eq.2 h3
   have HV:=hid (HV.out.trans (if_pos h3));clear h3;go_wp2_with fail;go_ret;exact⟨by rw[HV.out];rfl,H1.out⟩
  ·have e3:(kd==3)=false:=beq_eq_false_iff_ne.2 h3
   have HV:=hid (HV.out.trans (if_neg h3));clear h3;go_wp2_with fail;go_ret;exact⟨by rw[HV.out];rfl,H1.out⟩
theorem Z1k (h:Hold w0 w R):Calls Tryz.prog 53 #[.agg (acD a)] w fun e w'=>e = .returned (.int .i64 (Z1q a))/\Hold w0 w' R:=by
 have H1:=hid (h.newBlk (t:=50) (cs:=acD a));clear h;obtain⟨v,hv⟩:∃v,v=Z1q a:=⟨_,rfl⟩;rw[<- hv];have HV:=hid hv;clear hv;obtain⟨kd,cl,ix,gt,pt,dn⟩:=a;go_enter Tryz.func53,Tryz.ntmps53;go_upto_region 1 with fail
 have h1:=H1.out;generalize hW:w.alloc _=W at h1 |-;generalize w.heap.size=gi at h1 |-;clear hW H1;have p0:W.cell? ⟨gi,0,none⟩=some (.int .i64 kd):=h1.blk.some_ (i:=0) rfl;have p1:W.cell? ⟨gi,1,none⟩=some (.int .i64 cl):=h1.blk.some_ (i:=1) rfl;have H1:=hid h1.drop;clear h1
 by_cases h8:cl=8
 ·have e8:(cl==8)=true:=beq_iff_eq.2 h8
  have HV:=hid (HV.out.trans (if_pos h8));clear h8;go_wp2_with fail;go_ret;exact⟨by rw[HV.out];rfl,H1.out⟩
 ·have e8:(cl==8)=false:=beq_eq_false_iff_ne.2 h8
  have HV:=hid (HV.out.trans (if_neg h8));clear h8
  by_cases h3:kd=3
  ·have e3:(kd==3)=true:=beq_iff_eq.2 h3
   have HV:=hid (HV.out.trans (if_pos h3));clear h3;go_wp2_with fail;go_ret;exact⟨by rw[HV.out];rfl,H1.out⟩
  ·have e3:(kd==3)=false:=beq_eq_false_iff_ne.2 h3
   have HV:=hid (HV.out.trans (if_neg h3));clear h3;go_wp2_with fail;go_ret;exact⟨by rw[HV.out];rfl,H1.out⟩
theorem Z4f {cl i0 j0 k0 l0 i1 j1 k1 l1:Int} (h:Hold w0 w (atA g c x*(poA gp cl i0 j0 k0 l0*(memA m C*R)))) (hx:x.pop=ptrV gp)
  (hs:∀F w',Hold w0 w' (poA gp cl i0 j0 k0 l0*(memA m C*F))->Calls Tryz.prog 152 #[ptrV gp,ptrV m] w' fun e w2=>e = .returned a.val/\Hold w0 w2 (poA gp cl i1 j1 k1 l1*(memA m C2*F))) (h3:i1≠3) :
  Calls Tryz.prog 88 #[ptrV g,ptrV m] w (Z5o w0 (atA g c x*(poA gp cl i1 j1 k1 l1*(memA m C2*R))) a (Z5g a)):=by
 have HX:=hid hx;have HS:=hid hs;have e3:(i1==3)=false:=beq_eq_false_iff_ne.2 h3;clear hx hs h3;have H1:=hid (nb h);clear h;go_enter Tryz.func88,Tryz.ntmps88;go_upto_region 1 with fail
 have h1:=H1.out;generalize hW:w.alloc _=W at h1 |-;generalize w.heap.size=gr at h1 |-;clear hW H1;have q:=(h1.pk2 [1]).at_pop;rw[HX.out] at q;have h2:Hold w0 W (poA gp cl i0 j0 k0 l0*(memA m C*(atA g c x*(blkA 50 gr (acD acc0)*R)))):=h1.pk4 [2,3,1,0];have HC:=hid (HS.out _ _ h2);clear h1 h2;go_wp2_with fail;refine HC.out.mono ?_;rintro e w3 ⟨rfl,h3⟩;clear HC q;have H7:=hid (nb h3);clear h3;go_upto_region 2 with(refine Z00 rfl 50 _ _ rfl w3.heap.size _ _ (acD a) rfl rfl _ Tryz.sizeOf50 H7.out rfl rfl rfl ?_;intro y2 h4)
 clear H7;generalize w3.heap.size=gc at h4 |-;have h5:Hold w0 y2 (atA g c x*(poA gp cl i1 j1 k1 l1*(memA m C2*(blkA 50 gr (acD acc0)*(blkA 50 gc (acD a)*R))))):=h4.pk5 [3,1,2,4,0];clear h4;have q:=h5.at_pop;rw[HX.out] at q;have hd:=Zdo w0 y2 _ gp cl i1 j1 k1 l1 h5.swap;rw[e3] at hd;have HD:=hid hd;clear hd e3;have h9:Hold w0 y2 (blkA 50 gr (acD acc0)*(blkA 50 gc (acD a)*(atA g c x*(poA gp cl i1 j1 k1 l1*(memA m C2*R))))):=h5.pk5 [3,4,0,1,2];clear h5;go_wp2_with (refine HD.out.mono ?_;rintro e w' ⟨rfl,rfl⟩;go_upto_region 5 with fail);clear HD q;go_upto_region 5 with fail
 replace h9:=h9.drew;refine Z01 [] (by kernel_rfl) ?_;generalize hW:World.drew _=W9 at h9 |-;clear hW;refine Z0f [true] [false,true] (fuel:=4) (by rfl) (by rfl) (by rfl) (by rfl) (by kernel_rfl) (fun QB hQB hQX=>?_) (fun QB hQB hQX=>?_)
 ·simp only[Z08]
  go_wp2_with (refine Z03 rfl 50 _ rfl gc _ _ rfl Tryz.isAgg50 _ Tryz.sizeOf50 h9.drop.blk rfl ?_);go_wp2_with fail;refine hQB.out _ _ trivial ?_;clear hQB hQX QB;refine wbi 1 (fuel:=3) (fun QB hQB hQX=>?_);go_wp2_with (refine Z03 rfl 50 _ rfl gc _ _ rfl Tryz.isAgg50 _ Tryz.sizeOf50 h9.drop.blk rfl ?_);go_wp2_with fail;refine hQB.out _ _ trivial ?_;clear hQB hQX QB;refine wbi 2 (fuel:=2) (fun QB hQB hQX=>?_);go_wp2_with fail
  first
   | refine(Z2y h9).mono ?_
   | refine(Z2y h9).mono ?_
  rintro e w9 ⟨rfl,h9'⟩;have h9:=h9';clear h9';go_wp2_with fail;refine hQB.out _ _ trivial ?_;clear hQB hQX QB;refine wbi 3 (fuel:=1) (fun QB hQB hQX=>?_);go_wp2_with (refine Z00 rfl 50 _ _ rfl gr _ _ (acD a) rfl rfl _ Tryz.sizeOf50 h9 rfl rfl rfl ?_;intro y9 h99);have h9:=h99;go_wp2_with fail;refine hQB.out _ _ trivial ?_;clear hQB hQX QB;refine' wby [false,false,false,false,true] 31 trivial ?_;refine Z02 (by kernel_rfl) ?_ _;go_wp2_with fail;exact bodyPost_ret (Z05 Tryz.results88 _ rfl Tryz.isAgg50 _ Tryz.sizeOf50 h9.blk rfl) rfl ⟨rfl,h9.drop.drop⟩
 ·simp only[Z08]
  go_wp2_with (refine Z03 rfl 50 _ rfl gc _ _ rfl Tryz.isAgg50 _ Tryz.sizeOf50 h9.drop.blk rfl ?_);go_wp2_with fail;refine hQB.out _ _ trivial ?_;clear hQB hQX QB;refine Z0f [true] [false,false,true] (fuel:=3) (by rfl) (by rfl) (by rfl) (by rfl) (by kernel_rfl) (fun QB hQB hQX=>?_) (fun QB hQB hQX=>?_)
  ·simp only[Z08]
   go_wp2_with (refine Z03 rfl 50 _ rfl gc _ _ rfl Tryz.isAgg50 _ Tryz.sizeOf50 h9.drop.blk rfl ?_);go_wp2_with fail;refine hQB.out _ _ trivial ?_;clear hQB hQX QB;refine wbi 2 (fuel:=2) (fun QB hQB hQX=>?_);go_wp2_with fail
   first
    | refine(Z2y h9).mono ?_
    | refine(Z2y h9).mono ?_
   rintro e w9 ⟨rfl,h9'⟩;have h9:=h9';clear h9';go_wp2_with fail;refine hQB.out _ _ trivial ?_;clear hQB hQX QB;refine wbi 3 (fuel:=1) (fun QB hQB hQX=>?_);go_wp2_with (refine Z00 rfl 50 _ _ rfl gr _ _ (acD a) rfl rfl _ Tryz.sizeOf50 h9 rfl rfl rfl ?_;intro y9 h99);have h9:=h99;go_wp2_with fail;refine hQB.out _ _ trivial ?_;clear hQB hQX QB;refine' wby [false,false,false,false,true] 31 trivial ?_;refine Z02 (by kernel_rfl) ?_ _;go_wp2_with fail;exact bodyPost_ret (Z05 Tryz.results88 _ rfl Tryz.isAgg50 _ Tryz.sizeOf50 h9.blk rfl) rfl ⟨rfl,h9.drop.drop⟩
  ·simp only[Z08]
   go_wp2_with fail
   first
    | refine(Z2y h9).mono ?_
    | refine(Z2y h9).mono ?_
   rintro e w9 ⟨rfl,h9'⟩;have h9:=h9';clear h9';go_wp2_with fail;refine hQB.out _ _ trivial ?_;clear hQB hQX QB;refine wbi 0 (fuel:=2) (fun QB hQB hQX=>?_);go_wp2_with (refine Z03 rfl 50 _ rfl gc _ _ rfl Tryz.isAgg50 _ Tryz.sizeOf50 h9.drop.blk rfl ?_);go_wp2_with fail;refine hQB.out _ _ trivial ?_;clear hQB hQX QB;refine wbi 3 (fuel:=1) (fun QB hQB hQX=>?_);go_wp2_with (refine Z00 rfl 50 _ _ rfl gr _ _ (acD a) rfl rfl _ Tryz.sizeOf50 h9 rfl rfl rfl ?_;intro y9 h99);have h9:=h99;go_wp2_with fail;refine hQB.out _ _ trivial ?_;clear hQB hQX QB;refine' wby [false,false,false,false,true] 31 trivial ?_;refine Z02 (by kernel_rfl) ?_ _;go_wp2_with fail;exact bodyPost_ret (Z05 Tryz.results88 _ rfl Tryz.isAgg50 _ Tryz.sizeOf50 h9.blk rfl) rfl ⟨rfl,h9.drop.drop⟩
theorem Z3m {cl b0 i0 j0 i1 j1:Int} (h:Hold w0 w (atA g c x*(puA gp cl b0 i0 j0*(memA m C*R)))) (hx:x.push=ptrV gp)
  (hs:∀F w',Hold w0 w' (puA gp cl b0 i0 j0*(memA m C*F))->Calls Tryz.prog 84 #[ptrV gp,ptrV m] w' fun e w2=>e = .returned a.val/\Hold w0 w2 (puA gp cl b0 i1 j1*(memA m C2*F))) (h3:i1≠3) :
  Calls Tryz.prog 99 #[ptrV g,ptrV m] w (Z5o w0 (atA g c x*(puA gp cl b0 i1 j1*(memA m C2*R))) a (Z1q a)):=by
 have HX:=hid hx;have HS:=hid hs;have e3:(i1==3)=false:=beq_eq_false_iff_ne.2 h3;clear hx hs h3;have H1:=hid (nb h);clear h;go_enter Tryz.func99,Tryz.ntmps99;go_upto_region 1 with fail
 have h1:=H1.out;generalize hW:w.alloc _=W at h1 |-;generalize w.heap.size=gr at h1 |-;clear hW H1;have q:=(h1.pk2 [1]).at_push;rw[HX.out] at q;have h2:Hold w0 W (puA gp cl b0 i0 j0*(memA m C*(atA g c x*(blkA 50 gr (acD acc0)*R)))):=h1.pk4 [2,3,1,0];have HC:=hid (HS.out _ _ h2);clear h1 h2;go_wp2_with fail;refine HC.out.mono ?_;rintro e w3 ⟨rfl,h3⟩;clear HC q;have H7:=hid (nb h3);clear h3;go_upto_region 2 with(refine Z00 rfl 50 _ _ rfl w3.heap.size _ _ (acD a) rfl rfl _ Tryz.sizeOf50 H7.out rfl rfl rfl ?_;intro y2 h4)
 clear H7;generalize w3.heap.size=gc at h4 |-;have h5:Hold w0 y2 (atA g c x*(puA gp cl b0 i1 j1*(memA m C2*(blkA 50 gr (acD acc0)*(blkA 50 gc (acD a)*R))))):=h4.pk5 [3,1,2,4,0];clear h4;have q:=h5.at_push;rw[HX.out] at q;have hd:=Za0 w0 y2 _ gp cl b0 i1 j1 h5.swap;rw[e3] at hd;have HD:=hid hd;clear hd e3;have h9:Hold w0 y2 (blkA 50 gr (acD acc0)*(blkA 50 gc (acD a)*(atA g c x*(puA gp cl b0 i1 j1*(memA m C2*R))))):=h5.pk5 [3,4,0,1,2];clear h5;go_wp2_with (refine HD.out.mono ?_;rintro e w' ⟨rfl,rfl⟩;go_upto_region 5 with fail);clear HD q;go_upto_region 5 with fail
 replace h9:=h9.drew;refine Z01 [] (by kernel_rfl) ?_;generalize hW:World.drew _=W9 at h9 |-;clear hW;refine Z0f [true] [false,true] (fuel:=4) (by rfl) (by rfl) (by rfl) (by rfl) (by kernel_rfl) (fun QB hQB hQX=>?_) (fun QB hQB hQX=>?_)
 ·simp only[Z08]
  go_wp2_with (refine Z03 rfl 50 _ rfl gc _ _ rfl Tryz.isAgg50 _ Tryz.sizeOf50 h9.drop.blk rfl ?_);go_wp2_with fail;refine hQB.out _ _ trivial ?_;clear hQB hQX QB;refine wbi 1 (fuel:=3) (fun QB hQB hQX=>?_);go_wp2_with (refine Z03 rfl 50 _ rfl gc _ _ rfl Tryz.isAgg50 _ Tryz.sizeOf50 h9.drop.blk rfl ?_);go_wp2_with fail;refine hQB.out _ _ trivial ?_;clear hQB hQX QB;refine wbi 2 (fuel:=2) (fun QB hQB hQX=>?_);go_wp2_with fail
  first
   | refine(Z1k h9).mono ?_
   | refine(Z1k h9).mono ?_
  rintro e w9 ⟨rfl,h9'⟩;have h9:=h9';clear h9';go_wp2_with fail;refine hQB.out _ _ trivial ?_;clear hQB hQX QB;refine wbi 3 (fuel:=1) (fun QB hQB hQX=>?_);go_wp2_with (refine Z00 rfl 50 _ _ rfl gr _ _ (acD a) rfl rfl _ Tryz.sizeOf50 h9 rfl rfl rfl ?_;intro y9 h99);have h9:=h99;go_wp2_with fail;refine hQB.out _ _ trivial ?_;clear hQB hQX QB;refine' wby [false,false,false,false,true] 32 trivial ?_;refine Z02 (by kernel_rfl) ?_ _;go_wp2_with fail;exact bodyPost_ret (Z05 Tryz.results99 _ rfl Tryz.isAgg50 _ Tryz.sizeOf50 h9.blk rfl) rfl ⟨rfl,h9.drop.drop⟩
 ·simp only[Z08]
  go_wp2_with (refine Z03 rfl 50 _ rfl gc _ _ rfl Tryz.isAgg50 _ Tryz.sizeOf50 h9.drop.blk rfl ?_);go_wp2_with fail;refine hQB.out _ _ trivial ?_;clear hQB hQX QB;refine Z0f [true] [false,false,true] (fuel:=3) (by rfl) (by rfl) (by rfl) (by rfl) (by kernel_rfl) (fun QB hQB hQX=>?_) (fun QB hQB hQX=>?_)
  ·simp only[Z08]
   go_wp2_with (refine Z03 rfl 50 _ rfl gc _ _ rfl Tryz.isAgg50 _ Tryz.sizeOf50 h9.drop.blk rfl ?_);go_wp2_with fail;refine hQB.out _ _ trivial ?_;clear hQB hQX QB;refine wbi 2 (fuel:=2) (fun QB hQB hQX=>?_);go_wp2_with fail
   first
    | refine(Z1k h9).mono ?_
    | refine(Z1k h9).mono ?_
   rintro e w9 ⟨rfl,h9'⟩;have h9:=h9';clear h9';go_wp2_with fail;refine hQB.out _ _ trivial ?_;clear hQB hQX QB;refine wbi 3 (fuel:=1) (fun QB hQB hQX=>?_);go_wp2_with (refine Z00 rfl 50 _ _ rfl gr _ _ (acD a) rfl rfl _ Tryz.sizeOf50 h9 rfl rfl rfl ?_;intro y9 h99);have h9:=h99;go_wp2_with fail;refine hQB.out _ _ trivial ?_;clear hQB hQX QB;refine' wby [false,false,false,false,true] 32 trivial ?_;refine Z02 (by kernel_rfl) ?_ _;go_wp2_with fail;exact bodyPost_ret (Z05 Tryz.results99 _ rfl Tryz.isAgg50 _ Tryz.sizeOf50 h9.blk rfl) rfl ⟨rfl,h9.drop.drop⟩
  ·simp only[Z08]
   go_wp2_with fail
   first
    | refine(Z1k h9).mono ?_
    | refine(Z1k h9).mono ?_
   rintro e w9 ⟨rfl,h9'⟩;have h9:=h9';clear h9';go_wp2_with fail;refine hQB.out _ _ trivial ?_;clear hQB hQX QB;refine wbi 0 (fuel:=2) (fun QB hQB hQX=>?_);go_wp2_with (refine Z03 rfl 50 _ rfl gc _ _ rfl Tryz.isAgg50 _ Tryz.sizeOf50 h9.drop.blk rfl ?_);go_wp2_with fail;refine hQB.out _ _ trivial ?_;clear hQB hQX QB;refine wbi 3 (fuel:=1) (fun QB hQB hQX=>?_);go_wp2_with (refine Z00 rfl 50 _ _ rfl gr _ _ (acD a) rfl rfl _ Tryz.sizeOf50 h9 rfl rfl rfl ?_;intro y9 h99);have h9:=h99;go_wp2_with fail;refine hQB.out _ _ trivial ?_;clear hQB hQX QB;refine' wby [false,false,false,false,true] 32 trivial ?_;refine Z02 (by kernel_rfl) ?_ _;go_wp2_with fail;exact bodyPost_ret (Z05 Tryz.results99 _ rfl Tryz.isAgg50 _ Tryz.sizeOf50 h9.blk rfl) rfl ⟨rfl,h9.drop.drop⟩
end
def Asr.exs {α:Type} (φ:α->Prop) (ps:α->List Asr):Asr:=Asr.ex fun a:{a:α // φ a}=>sepR (ps a.1) Asr.emp
theorem Hold.Zlq {α:Type} {φ:α->Prop} {ps:α->List Asr} {w0 w:World} {R:Asr} (h:Hold w0 w (Asr.exs φ ps*R)):∃a,φ a/\Hold w0 w (sepR (ps a) R):=by
 obtain⟨⟨a,ha⟩,h⟩:=h.exOpen;exact⟨a,ha,h.imp (Imp.flat _ _)⟩
theorem Hold.Zlr {α:Type} {φ:α->Prop} {ps:α->List Asr} {w0 w:World} {R:Asr} (a:α) (ha:φ a) (h:Hold w0 w (sepR (ps a) R)):Hold w0 w (Asr.exs φ ps*R) :=
 Hold.exClose (x:=⟨a,ha⟩) (h.imp (Imp.fold _ _))
section
variable {w0 w:World} {R a1 a2 a3 a4 a5 a6 a7 a8 a9 b0 b1:Asr}
theorem Hold.pk10 (h:Hold w0 w (a1*(a2*(a3*(a4*(a5*(a6*(a7*(a8*(a9*(b0*R))))))))))) (is:List Nat) (hn:is.Nodup/\∀i∈is,i<10:=by decide):Hold w0 w (sepR (is.map fun i=>[a1,a2,a3,a4,a5,a6,a7,a8,a9,b0].getD i Asr.emp) R):=h.imp (Imp.pick R is [a1,a2,a3,a4,a5,a6,a7,a8,a9,b0] hn.1 hn.2)
theorem Hold.pk11 (h:Hold w0 w (a1*(a2*(a3*(a4*(a5*(a6*(a7*(a8*(a9*(b0*(b1*R)))))))))))) (is:List Nat) (hn:is.Nodup/\∀i∈is,i<11:=by decide):Hold w0 w (sepR (is.map fun i=>[a1,a2,a3,a4,a5,a6,a7,a8,a9,b0,b1].getD i Asr.emp) R):=h.imp (Imp.pick R is [a1,a2,a3,a4,a5,a6,a7,a8,a9,b0,b1] hn.1 hn.2)
end
def finA (g:Nat) (c:Cfg) (x:AtR) (al:List Int):Asr:=Asr.exs (fun z:Option Nat=>match z with|none=>x.pushed=(al.length:Int)|some _=>0<=x.pushed/\x.pushed.toNat<al.length)
 (fun z=>match z with|none=>[atA g c {x with at_:=14}]|some gp=>[atA g c {x with at_:=13,push:=ptrV gp},puA gp (clsS c (al.getD x.pushed.toNat 0)) (al.getD x.pushed.toNat 0) 0 0])
theorem FinQ.asr {w0 w:World} {R:Asr} {g:Nat} {c:Cfg} {x:AtR} {al:List Int} (h:FinQ w0 g c x al R w):Hold w0 w (finA g c x al*R):=by
 rcases h with⟨hp,h⟩|⟨k,b,gp,hp,hb,h⟩
 ·exact Hold.Zlr none hp h
 ·have hk:=(List.getElem?_eq_some_iff.1 hb).1
  have e:x.pushed.toNat=k:=by omega
  have eb:al.getD k 0=b:=by rw[List.getD_eq_getElem?_getD,hb];rfl
  refine Hold.Zlr (some gp) ⟨by omega,by omega⟩ ?_;show Hold w0 w (sepR [atA g c {x with at_:=13,push:=ptrV gp},puA gp (clsS c (al.getD x.pushed.toNat 0)) (al.getD x.pushed.toNat 0) 0 0] R);rw[e,eb];exact h
def alcA (g:Nat) (c:Cfg) (x:AtR) (gl:Nat) (A:Option Addr) (n cp:Nat) (al:List Int) (L:PL) (b:Int):Asr :=
 Asr.exs (fun z:Option (PL × Option Addr × Nat × Bool)=>match z with|none=>b=-1|some (L',_,_,_)=>LgOk c L'/\L'.cap=L.cap/\(0<=b/\b<(nbl c:Nat)))
  (fun z=>match z with
   | none=>[finA g c {x with code:=4} al,queA 3 (.slice A n cp) (iL al),lgA gl L]
   | some (L',A',cp',true)=>[finA g c {x with allocs:=.slice A' (n+1) cp',code:=3} (al++[b]),queA 3 (.slice A' (n+1) cp') (iL (al++[b])),lgA gl L']
   | some (L',A',cp',false)=>[atA g c {x with allocs:=.slice A' (n+1) cp',value:=fst c b},queA 3 (.slice A' (n+1) cp') (iL (al++[b])),lgA gl L'])
theorem AlcQ.asr {w0 w:World} {R:Asr} {g gl:Nat} {c:Cfg} {x:AtR} {A:Option Addr} {n cp:Nat} {al:List Int} {L:PL} {b:Int} (h:AlcQ w0 g c x gl A n cp al L b R w):Hold w0 w (alcA g c x gl A n cp al L b*R):=by
 rcases h with⟨hb,h⟩|⟨L',A',cp',h1,h2,h3,h|h⟩
 ·exact Hold.Zlr none hb h.asr
 ·exact Hold.Zlr (some (L',A',cp',true)) ⟨h1,h2,h3⟩ h.asr
 ·exact Hold.Zlr (some (L',A',cp',false)) ⟨h1,h2,h3⟩ h
def freA (g:Nat) (c:Cfg) (x:AtR) (gl:Nat) (A:Option Addr) (n cp:Nat) (al:List Int) (B:Option Addr) (nf cb:Nat) (fr:List Int) (L:PL) (b:Int):Asr :=
 Asr.exs (fun z:Nat ⊕ (PL × Option (Option Addr × Nat))=>match z with | .inl _=>True | .inr (L',o)=>LgOk c L'/\L'.cap=L.cap/\(o≠none->(nf:Int)<c.frees))
  (fun z=>match z with
   | .inl gt=>[atA g c {x with code:=8,at_:=6,turn:=ptrV gt},tuA gt false 0 false,queA 3 (.slice A n cp) (iL al),lgA gl L,queA 3 (.slice B nf cb) (iL fr)]
   | .inr (L',none)=>[finA g c {x with code:=3} al,queA 3 (.slice A n cp) (iL al),lgA gl L',queA 3 (.slice B nf cb) (iL fr)]
   | .inr (L',some (B',cb'))=>[atA g c {x with frees:=.slice B' (nf+1) cb'},queA 3 (.slice A n cp) (iL al),lgA gl L',queA 3 (.slice B' (nf+1) cb') (iL (fr++[b]))])
theorem FreQ.asr {w0 w:World} {R:Asr} {g gl:Nat} {c:Cfg} {x:AtR} {A B:Option Addr} {n cp nf cb:Nat} {al fr:List Int} {L:PL} {b:Int} (h:FreQ w0 g c x gl A n cp al B nf cb fr L b R w):Hold w0 w (freA g c x gl A n cp al B nf cb fr L b*R):=by
 rcases h with⟨gt,h⟩|⟨L',h1,h2,h|⟨B',cb',h3,h⟩⟩
 ·exact Hold.Zlr (.inl gt) trivial h
 ·exact Hold.Zlr (.inr (L',none)) ⟨h1,h2,fun h=>absurd rfl h⟩ h.asr
 ·exact Hold.Zlr (.inr (L',some (B',cb'))) ⟨h1,h2,fun _=>h3⟩ h
section
variable {w0 w:World} {R R':Asr} {g gl gp m k:Nat} {c:Cfg} {x:AtR} {L:PL} {A B:Option Addr} {n cp nf cb:Nat} {al fr:List Int} {b st hd nx:Int} {a:Acc} {C C2:Nat->List Int}
theorem Z9j {cl:Int} (hcl:cl=0\/cl=1) {b1 b2:Nat} (h:Hold w0 w (atA g c x*(poA gp cl 3 hd nx b*(lgA gl L*(queA 3 (.slice A n cp) (iL al)*(blkA 108 b1 #[ptrV g]*(blkA 3 b2 #[.int .i64 cl]*R))))))) (O:AlOk c x gl A n cp k al) (hna:n<=99) (hpop:x.pop=ptrV gp) (H:LgOk c L) (hb:b=-1\/(0<=b/\b<(nbl c:Nat))/\clsS c b=cl) :
  Calls Tryz.prog 192 #[ptrV b1,ptrV b2] w fun e w'=>e = .returned (.tuple #[])/\Hold w0 w' (alcA g c x gl A n cp al L b*(poA gp cl 3 hd nx b*(blkA 108 b1 #[ptrV g]*(blkA 3 b2 #[.int .i64 cl]*R)))):=by
 have HA:Hid (Calls Tryz.prog 193 #[ptrV g,.int .i64 cl] w fun e w'=>e = .returned (.tuple #[])/\AlcQ w0 g c x gl A n cp al L b (poA gp cl 3 hd nx b*(blkA 108 b1 #[ptrV g]*(blkA 3 b2 #[.int .i64 cl]*R))) w'):=hid (by
  rcases hcl with rfl|rfl
  ·exact Z8e h O hna hpop H hb
  ·exact Z8d h O hna hpop H hb)
 have q0:=(h.pk5 [4]).blk.some_ (i:=0) rfl;have q1:=(h.pk6 [5]).blk.some_ (i:=0) rfl;clear h hb hcl hpop;go_enter Tryz.func192,Tryz.ntmps192;go_wp2_with fail;refine HA.out.mono ?_;rintro e w' ⟨rfl,h1⟩;have H1:=hid h1.asr;clear h1 HA q0 q1;go_wp2_with fail
 go_end0
 exact⟨rfl,H1.out⟩
theorem Z9i {b1 b2 b3:Nat} (h:Hold w0 w (atA g c x*(queA 3 (.slice A n cp) (iL al)*(lgA gl L*(queA 3 (.slice B nf cb) (iL fr)*(blkA 108 b1 #[ptrV g]*(blkA 3 b2 #[.int .i64 b]*(blkA 34 b3 #[.int .u64 st]*R)))))))) (O:AlOk c x gl A n cp k al) (hfr:x.frees = .slice B nf cb) (hnf:nf=fr.length) (hnf2:nf<=1000) (H:LgOk c L) (hb:0<=b/\b<(nbl c:Nat)) :
  Calls Tryz.prog 196 #[ptrV b1,ptrV b2,ptrV b3] w fun e w'=>e = .returned (.tuple #[])/\Hold w0 w' (freA g c x gl A n cp al B nf cb fr L b*(blkA 108 b1 #[ptrV g]*(blkA 3 b2 #[.int .i64 b]*(blkA 34 b3 #[.int .u64 st]*R)))):=by
 have HA:=hid (Zc8 (st:=st) h O hfr hnf hnf2 H hb);have q0:=(h.pk5 [4]).blk.some_ (i:=0) rfl;have q1:=(h.pk6 [5]).blk.some_ (i:=0) rfl;have q2:=(h.pk7 [6]).blk.some_ (i:=0) rfl;clear h hb hfr hnf;go_enter Tryz.func196,Tryz.ntmps196;go_wp2_with fail;refine HA.out.mono ?_;rintro e w' ⟨rfl,h1⟩;have H1:=hid h1.asr;clear h1 HA q0 q1 q2;go_wp2_with fail
 go_end0
 exact⟨rfl,H1.out⟩
theorem Z9h {b1 b2:Nat} (h:Hold w0 w (atA g c x*(queA 3 (.slice A n cp) (iL al)*(lgA gl L*(queA 3 (.slice B nf cb) (iL fr)*(blkA 108 b1 #[ptrV g]*(blkA 3 b2 #[.int .i64 b]*R))))))) (O:AlOk c x gl A n cp k al) (hfr:x.frees = .slice B nf cb) (hnf:nf=fr.length) (hnf2:nf<=1000) (H:LgOk c L) (hb:0<=b/\b<(nbl c:Nat)) :
  Calls Tryz.prog 198 #[.int .u64 st,ptrV b1,ptrV b2] w fun e w'=>e = .returned (.tuple #[])/\Hold w0 w' (freA g c x gl A n cp al B nf cb fr L b*(blkA 108 b1 #[ptrV g]*(blkA 3 b2 #[.int .i64 b]*R))):=by
 have HA:=hid (Zc8 (st:=st) h O hfr hnf hnf2 H hb);have q0:=(h.pk5 [4]).blk.some_ (i:=0) rfl;have q1:=(h.pk6 [5]).blk.some_ (i:=0) rfl;clear h hb hfr hnf;go_enter Tryz.func198,Tryz.ntmps198;go_wp2_with fail;refine HA.out.mono ?_;rintro e w' ⟨rfl,h1⟩;have H1:=hid h1.asr;clear h1 HA q0 q1;go_wp2_with fail
 go_end0
 exact⟨rfl,H1.out⟩
end
section
variable {w0 w:World} {R R':Asr} {g gl gp m k:Nat} {c:Cfg} {x:AtR} {L:PL} {A B:Option Addr} {n cp nf cb:Nat} {al fr:List Int} {b st a v:Int}
theorem Zau (h:Hold w0 w (atA g c x*R)) (hat:x.at_=0) (hst:x.state=1) (hw:0<=c.words/\c.words<=64) (ha:0<=a/\a<18446744073709551616) (hb:c.words<=a) :
  Calls Tryz.prog 63 #[ptrV g,.int .u64 a] w fun e w'=>∃b1,e = .returned (.int .i64 0)/\Hold w0 w' (atA g c {x with at_:=1,then_:=.func (.func 111) #[] #[ptrV b1]}*(blkA 108 b1 #[ptrV g]*R)):=by
 have H1:=hid (h.newBlk (t:=108) (cs:=#[ptrV g]));have HX:=hid (And.intro hat hst);clear h hat hst;go_enter Tryz.func63,Tryz.ntmps63;go_upto_region 1 with fail
 have h1:=H1.out;generalize hW:w.alloc _=W at h1 |-;generalize w.heap.size=gb at h1 |-;clear hW H1;have q0:=h1.blk.some_ (i:=0) rfl;have h2:Hold w0 W (atA g c x*(blkA 108 gb #[ptrV g]*R)):=h1.swap;have HR:=hid (Z1t h2 HX.out.1 HX.out.2);have ho:=Z2k (a:=a) h2 hw ha;rw[decide_eq_true hb] at ho;have HO:=hid ho;have HL:=hid (Z1g (.func 111) #[] #[ptrV gb] h2);clear h1 h2 ho;go_upto_region 5 with(first|(refine HR.out.mono ?_;rintro e w' ⟨rfl,rfl⟩)|(refine HO.out.mono ?_;rintro e w' ⟨rfl,rfl⟩))
 clear HR HO;go_wp2_with fail;refine HL.out.mono ?_;rintro e w6 ⟨rfl,h9⟩;have H9:=hid h9;clear HL q0 h9;go_wp2_with fail;go_ret;exact⟨gb,rfl,H9.out⟩
theorem Zaz {b1 b2 b3:Nat} (h:Hold w0 w (atA g c x*(lgA gl L*(blkA 108 b1 #[ptrV g]*(blkA 34 b2 #[.int .u64 a]*(blkA 34 b3 #[.int .u64 v]*R)))))) (hxl:x.log=gl) (hw:0<=c.words/\c.words<=64) (ha:0<=a/\a<18446744073709551616) (hb:c.words<=a) :
  Calls Tryz.prog 117 #[ptrV b1,ptrV b2,ptrV b3] w fun e w'=>∃gt,e = .returned (.tuple #[])/\Hold w0 w' (atA g c {x with code:=7,at_:=6,turn:=ptrV gt}*(tuA gt false 0 false*(lgA gl L*(blkA 108 b1 #[ptrV g]*(blkA 34 b2 #[.int .u64 a]*(blkA 34 b3 #[.int .u64 v]*R)))))):=by
 have q1:=(h.pk3 [2]).blk.some_ (i:=0) rfl;have q2:=(h.pk4 [3]).blk.some_ (i:=0) rfl;have ho:=Z2k (a:=a) h hw ha;rw[decide_eq_true hb] at ho;have HO:=hid ho;have HE:=hid (Z4i (v:=7) h hxl (by decide));clear h ho;go_enter Tryz.func117,Tryz.ntmps117;go_wp2_with fail;refine HO.out.mono ?_;rintro e w' ⟨rfl,rfl⟩;go_wp2_with fail;refine HE.out.mono ?_;rintro e w1 ⟨gt,rfl,h1⟩;have H1:=hid h1;clear h1;go_wp2_with fail
 go_end0
 exact⟨gt,rfl,H1.out⟩
theorem Zh0 {a v:Int} (h:Hold w0 w (atA g c x*(lgA gl L*(queA 3 (.slice A n cp) (iL al)*R)))) (O:AlOk c x gl A n cp k al) (H:Inv L) :
  Calls Tryz.prog 118 #[ptrV g,.int .i64 a,.int .u64 v] w fun e w'=>∃r:Bool,e = .returned (.bool r)/\((Z1y L a=true/\Hold w0 w' (atA g c x*(lgA gl (putL L a v)*(queA 3 (.slice A n cp) (iL al)*R))))\/Z1y L a=false/\FinQ w0 g c {x with code:=3} al (queA 3 (.slice A n cp) (iL al)*(lgA gl (putL L a v)*R)) w'):=by
 cases hok:Z1y L a with
 | true=>exact(Zhw h O.log H hok).mono fun e w' h=>⟨true,h.1,.inl ⟨rfl,h.2⟩⟩
 | false=>exact(Z9e h O.log H hok O.all O.len O.pu O.le (by have:=O.n2;omega) O.cfg O.rng).mono fun e w' h=>⟨false,h.1,.inr ⟨rfl,h.2⟩⟩
theorem Z9g {b1 b2 b3:Nat} (h:Hold w0 w (atA g c x*(lgA gl L*(queA 3 (.slice A n cp) (iL al)*(blkA 108 b1 #[ptrV g]*(blkA 34 b2 #[.int .u64 a]*(blkA 34 b3 #[.int .u64 v]*R))))))) (O:AlOk c x gl A n cp k al) (H:Inv L) (ha:0<=a) (hb:a<c.words) :
  Calls Tryz.prog 117 #[ptrV b1,ptrV b2,ptrV b3] w fun e w'=>e = .returned (.tuple #[])/\((Z1y L a=true/\Hold w0 w' (atA g c x*(lgA gl (putL L a v)*(queA 3 (.slice A n cp) (iL al)*R))))\/Z1y L a=false/\FinQ w0 g c {x with code:=3} al (queA 3 (.slice A n cp) (iL al)*(lgA gl (putL L a v)*R)) w'):=by
 have q1:=(h.pk4 [3]).blk.some_ (i:=0) rfl;have q2:=(h.pk5 [4]).blk.some_ (i:=0) rfl;have q3:=(h.pk6 [5]).blk.some_ (i:=0) rfl;have hw:=O.cfg.words;have ha2:a<=63:=by omega
 have ho:=Z2k (a:=a) h ⟨by omega,hw.2⟩ ⟨ha,by omega⟩;rw[decide_eq_false (by omega)] at ho;have HO:=hid ho;have HP:=hid (Zh0 (a:=a) (v:=v) (h.pk6 [0,1,2]) O H);clear h ho;go_enter Tryz.func117,Tryz.ntmps117;go_wp2_with fail;refine HO.out.mono ?_;rintro e w' ⟨rfl,rfl⟩;go_wp2_with fail;refine HP.out.mono ?_;rintro e w1 ⟨r,rfl,h1⟩;have H1:=hid h1;clear h1;go_wp2_with fail
 go_end0
 exact⟨rfl,H1.out⟩
theorem Zf2 {cl:Int} (h:Hold w0 w (atA g c x*R)) (hat:x.at_=0) (hst:x.state=1) (hal:x.allocs = .slice A n cp) (hcl:0<=cl/\cl<4) :
  Calls Tryz.prog 121 #[ptrV g,.int .i64 cl] w fun e w'=>∃b1 b2,e = .returned (.int .i64 0) /\
   (c.allocs<=(n:Int)/\Hold w0 w' (atA g c {x with at_:=1,then_:=.func (.func 190) #[] #[ptrV b1]}*(blkA 108 b1 #[ptrV g]*(blkA 3 b2 #[.int .i64 cl]*R))) \/
    (n:Int)<c.allocs/\∃gp,Hold w0 w' (atA g c {x with at_:=4,pop:=ptrV gp,then_:=.func (.func 192) #[] #[ptrV b1,ptrV b2]}*(poA gp cl 0 0 0 (-1)*(blkA 108 b1 #[ptrV g]*(blkA 3 b2 #[.int .i64 cl]*R))))):=by
 have H3:=hid ((h.newBlk (t:=108) (cs:=#[ptrV g])).newBlk (t:=3) (cs:=#[.int .i64 cl]));have HX:=hid (And.intro hat (And.intro hst hal));have e1:decide (cl<0)=false:=decide_eq_false (by omega);have e2:decide (cl >= 4)=false:=decide_eq_false (by omega);have e3:decide (4<=cl)=false:=decide_eq_false (by omega);clear h hat hst hal hcl;go_enter Tryz.func121,Tryz.ntmps121;go_upto_region 1 with fail
 have h3:=H3.out;rw[World.size_alloc] at h3;clear H3;generalize hW:World.alloc _ _=W at h3 |-;generalize w.heap.size=b1 at h3 |-;generalize hb2:b1+1=b2 at h3 |-;clear hW hb2;have h4:Hold w0 W (atA g c x*(blkA 108 b1 #[ptrV g]*(blkA 3 b2 #[.int .i64 cl]*R))):=h3.pk3 [2,1,0];have q0:=h4.drop.blk.some_ (i:=0) rfl;have q1:=h4.drop.drop.blk.some_ (i:=0) rfl;have HR:=hid (Z1t h4 HX.out.1 HX.out.2.1);have H4:=hid h4;clear h3 h4;go_upto_region 6 with(refine HR.out.mono ?_;rintro e w' ⟨rfl,rfl⟩)
 clear HR q0 q1;have h4:=H4.out.drew;clear H4;refine Z01 [] (by kernel_rfl) ?_;generalize hW:W.drew=W1 at h4 |-;clear hW;have hs:W1.cell? ⟨b1,0,none⟩=some (ptrV g)/\W1.cell? ⟨g,3,none⟩=some (.slice A n cp)/\W1.cell? ⟨g,24,none⟩=some (.int .i64 c.allocs):=by
  have t1:=h4.at_allocs;rw[HX.out.2.2] at t1;exact⟨h4.drop.blk.some_ (i:=0) rfl,t1,h4.at_allocn⟩
 refine Z04 (fun w'=>w'.cell? ⟨b1,0,none⟩=some (ptrV g)/\w'.cell? ⟨g,3,none⟩=some (.slice A n cp)/\w'.cell? ⟨g,24,none⟩=some (.int .i64 c.allocs)) (fun _ _=>trivial) _ _ _ _ ?_;refine' wbk [true,true,true,true,true,true,true,true,true,true,true,true] 45 hs (fun wq hq=>?_) ?_;rotate_left
 ·simp only[Z08]
  obtain⟨q1,q2,q3⟩:=hq
  repeat (go_big_quiet_step (fail))
  exact wpQuiet_nil rfl
 refine Z02 (by kernel_rfl) ?_ _;clear hs;obtain⟨ca,hca⟩:∃ca,ca=c.allocs:=⟨_,rfl⟩;have HCA:=hid hca;rw[<- hca];clear hca;have q0:=h4.drop.blk.some_ (i:=0) rfl
 by_cases hfull:ca<=(n:Int)
 ·have d1:decide (ca<=(n:Int))=true:=decide_eq_true hfull
  have HL:=hid (Z1g (.func 190) #[] #[ptrV b1] h4);have HF:=hid hfull;clear h4;go_wp2_with fail;refine HL.out.mono ?_;rintro e w6 ⟨rfl,h9⟩;have H9:=hid h9;clear HL q0 h9;go_wp2_with fail;go_ret;exact⟨b1,b2,rfl,Or.inl ⟨HCA.out ▸ HF.out,H9.out⟩⟩
 ·have d1:decide (ca<=(n:Int))=false:=decide_eq_false hfull
  have HF:Hid ((n:Int)<ca):=hid (by omega);replace h4:=h4.drew;have q1:=h4.drop.drop.blk.some_ (i:=0) rfl;clear q0;go_upto_region 9 with fail
  refine Z01 [] (by kernel_rfl) ?_;generalize hW:W1.drew=W2 at h4 q1 |-;clear hW;have hs:W2.cell? ⟨b1,0,none⟩=some (ptrV g)/\W2.cell? ⟨b2,0,none⟩=some (.int .i64 cl):=⟨h4.drop.blk.some_ (i:=0) rfl,q1⟩;have HP:=hid (Zk5 w0 W2 _ cl h4);refine Z04 (fun w'=>w'.cell? ⟨b1,0,none⟩=some (ptrV g)/\w'.cell? ⟨b2,0,none⟩=some (.int .i64 cl)) (fun _ _=>trivial) _ _ _ _ ?_;refine' wbk [true,true,true] 45 hs (fun wq hq=>?_) ?_;rotate_left
  ·simp only[Z08]
   obtain⟨q1,q2⟩:=hq
   repeat (go_big_quiet_step (fail))
   exact wpQuiet_nil rfl
  refine wbi 3 (fuel:=7) (fun QB hQB hQX=>?_);go_wp2_with fail;refine HP.out.mono ?_;rintro e w3 ⟨gp,rfl,h5⟩;replace h5:=h5.swap;have q0:=h5.drop.drop.blk.some_ (i:=0) rfl;have q1:=h5.drop.drop.drop.blk.some_ (i:=0) rfl;have hs3:w3.cell? ⟨b1,0,none⟩=some (ptrV g)/\w3.cell? ⟨b2,0,none⟩=some (.int .i64 cl):=⟨q0,q1⟩;go_wp2_with fail;refine hQB.out _ _ hs3 ?_;clear hQB hQX QB q0 q1 HP h4 hs;have p1:=h5.Zly;have z1:=h5.atZ 31;have p2:=h5.at_pop;have z2:=h5.atZ 8;have h6:=h5.Zlx 4;have h7:=h6.at_pop_set (ptrV gp);refine' wbk [false,false,false,false,true,true] 45 hs3 (fun wq hq=>?_) ?_;rotate_left
  ·simp only[Z08]
   obtain⟨q1,q2⟩:=hq
   repeat (go_big_quiet_step (fail))
   exact wpQuiet_nil rfl
  refine wbi 6 (fuel:=4) (fun QB hQB hQX=>?_);go_wp2_with fail;refine hQB.out _ _ ⟨h6.drop.drop.blk.some_ (i:=0) rfl,h6.drop.drop.drop.blk.some_ (i:=0) rfl⟩ ?_;clear hQB hQX QB;refine' wbk [false,false,false,false,false,false,false,true,true,true] 45 ⟨h6.drop.drop.blk.some_ (i:=0) rfl,h6.drop.drop.drop.blk.some_ (i:=0) rfl⟩ (fun wq hq=>?_) ?_;rotate_left
  ·simp only[Z08]
   obtain⟨q1,q2⟩:=hq
   repeat (go_big_quiet_step (fail))
   exact wpQuiet_nil rfl
  refine wbi 10 (fuel:=0) (fun QB hQB hQX=>?_);go_wp2_with fail;refine hQB.out _ _ ⟨h7.drop.drop.blk.some_ (i:=0) rfl,h7.drop.drop.drop.blk.some_ (i:=0) rfl⟩ ?_;clear hQB hQX QB p1 z1 p2 z2 h5 h6 hs3;refine Z02 (by kernel_rfl) ?_ _;generalize hW:World.setCell _ _ _=W at h7 |-;clear hW;have q0:=h7.drop.drop.blk.some_ (i:=0) rfl;have H7:=hid h7;clear h7;go_wp2_with (refine Z0q rfl 1 _ _ rfl g 32 155 40 _ #[.func (.func 192) #[] #[ptrV b1,ptrV b2]] rfl rfl 1 (fun w=>by kernel_rfl) H7.out rfl (by decide) rfl ?_;intro w8 h8);have H8:Hid (Hold w0 w8 (atA g c {x with at_:=4,pop:=ptrV gp,then_:=.func (.func 192) #[] #[ptrV b1,ptrV b2]}*(poA gp cl 0 0 0 (-1)*(blkA 108 b1 #[ptrV g]*(blkA 3 b2 #[.int .i64 cl]*R))))):=hid (h8.Zm4 (by kernel_rfl));go_ret;refine⟨rfl,?_⟩;exact⟨b1,b2,Or.inr ⟨HCA.out ▸ HF.out,gp,H8.out⟩⟩
def FrqQ (w0:World) (g:Nat) (c:Cfg) (x:AtR) (gl ge:Nat) (th ck:Int) (L:PL) (R:Asr) (w':World):Prop :=
 (∃b1,Hold w0 w' (atA g c {x with at_:=1,then_:=.func (.func 195) #[] #[ptrV b1]}*(blkA 108 b1 #[ptrV g]*(lgA gl L*(enA ge th 3 ck*R))))) \/
 ∃b:Int,(0<=b/\b<(nbl c:Nat))/\∃b1 b2,
  ((∃b3 st,Hold w0 w' (atA g c {x with at_:=1,then_:=.func (.func 196) #[] #[ptrV b1,ptrV b2,ptrV b3]}*(blkA 108 b1 #[ptrV g]*(blkA 3 b2 #[.int .i64 b]*(blkA 34 b3 #[.int .u64 st]*(lgA gl L*(enA ge th 3 ck*R))))))) \/
   (∃gr,Hold w0 w' (atA g c {x with at_:=3,addr:=c.words+b,use_:=.func (.func 198) #[] #[ptrV b1,ptrV b2],loads:=0,read:=ptrV gr}*(rdA gr (c.words+b) ((c.words+b)%c.orecs) ck 0 0 0 false*(blkA 108 b1 #[ptrV g]*(blkA 3 b2 #[.int .i64 b]*(lgA gl L*(enA ge th 3 ck*R))))))))
theorem Zh1 {ge:Nat} {th ck ad:Int} (h:Hold w0 w (atA g c x*(lgA gl L*(enA ge th 3 ck*R)))) (hat:x.at_=0) (hst:x.state=1) (hxl:x.log=gl) (hx:x.enter=ptrV ge) (H:Inv L) (h0:0<=ck/\ck<=9223372036854775807) (hcf:CfS c) :
  Calls Tryz.prog 122 #[ptrV g,.int .u64 ad] w fun e w'=>e = .returned (.int .i64 0)/\FrqQ w0 g c x gl ge th ck L R w':=by
 have H3:=hid (h.newBlk (t:=108) (cs:=#[ptrV g]));have HX:=hid (And.intro hat (And.intro hst (And.intro hxl (And.intro hx (And.intro H (And.intro h0 hcf))))));clear h hat hst hxl hx H h0 hcf;go_enter Tryz.func122,Tryz.ntmps122;go_upto_region 1 with fail
 have h3:=H3.out;clear H3;generalize hW:World.alloc _ _=W at h3 |-;generalize w.heap.size=b1 at h3 |-;clear hW;have h4:Hold w0 W (atA g c x*(lgA gl L*(enA ge th 3 ck*(blkA 108 b1 #[ptrV g]*R)))):=h3.pk4 [1,2,3,0];have q0:=(h4.pk4 [3]).blk.some_ (i:=0) rfl;have HR:=hid (Z1t h4 HX.out.1 HX.out.2.1);have H4:=hid h4;clear h3 h4;go_upto_region 4 with(refine HR.out.mono ?_;rintro e w' ⟨rfl,rfl⟩)
 clear HR;have HF:=hid (Zko W HX.out.2.2.2.2.2.2 ad);go_upto_region 5 with(first|refine Z0l rfl 32 _ rfl g 15 155 40 _ c.cells rfl Tryz.isAgg32 13 Tryz.sizeOf32 H4.out rfl (by decide) ?_|(refine HF.out.mono ?_;rintro e w1 ⟨b,rfl,hbr,hc1⟩))
 have h5:=(H4.out.chg0 hc1).newBlk (t:=3) (cs:=#[.int .i64 b]);clear HF hc1 H4 q0;generalize hW:World.alloc _ _=W2 at h5 |-;generalize w1.heap.size=b2 at h5 |-;clear hW;have h6:Hold w0 W2 (atA g c x*(blkA 108 b1 #[ptrV g]*(blkA 3 b2 #[.int .i64 b]*(lgA gl L*(enA ge th 3 ck*R))))):=h5.pk5 [1,4,0,2,3];clear h5;have q0:=h6.drop.blk.some_ (i:=0) rfl;have q1:=h6.drop.drop.blk.some_ (i:=0) rfl
 by_cases hneg:b<0
 ·have d1:decide (b<0)=true:=decide_eq_true hneg
  have HL:=hid (Z1g (.func 195) #[] #[ptrV b1] h6);clear h6 hneg hbr;go_wp2_with fail;refine HL.out.mono ?_;rintro e w6 ⟨rfl,h9⟩;have H9:=hid h9;clear HL q0 q1 h9;go_wp2_with fail;go_ret;exact⟨rfl,.inl ⟨b1,(H9.out.pk5 [2,0,1,3,4]).drop⟩⟩
 ·have d1:decide (b<0)=false:=decide_eq_false hneg
  have hb2:0<=b/\b<(nbl c:Nat):=by omega
  have HB:=hid hb2;have hnb:=HX.out.2.2.2.2.2.2.nbl;have hcc:=HX.out.2.2.2.2.2.2;have hwd:=hcc.words;obtain⟨m,hm⟩:∃m,m=c.words:=⟨_,rfl⟩;have e2:wrap64 (m+b)=m+b:=Zln (by omega) (by have:=hcc.c0;have:=hcc.c1;omega);clear hnb hcc hwd hb2 hbr hneg;go_upto_region 8 with fail
  replace h6:=h6.drew;refine Z01 [] (by kernel_rfl) ?_;generalize hW:W2.drew=W3 at h6 |-;clear hW q0 q1;have q0:=h6.drop.blk.some_ (i:=0) rfl;have q1:=h6.drop.drop.blk.some_ (i:=0) rfl;have hs:W3.cell? ⟨b1,0,none⟩=some (ptrV g)/\W3.cell? ⟨b2,0,none⟩=some (.int .i64 b)/\W3.cell? ⟨g,15,none⟩=some (.int .i64 m):=⟨q0,q1,by rw[hm];exact h6.at_words⟩;refine Z04 (fun w'=>w'.cell? ⟨b1,0,none⟩=some (ptrV g)/\w'.cell? ⟨b2,0,none⟩=some (.int .i64 b)/\w'.cell? ⟨g,15,none⟩=some (.int .i64 m)) (fun _ _=>trivial) _ _ _ _ ?_;refine' wbk [true,true,true,true,true,true,true,true] 51 hs (fun wq hq=>?_) ?_;rotate_left
  ·simp only[Z08]
   obtain⟨q1,q2,q3⟩:=hq
   repeat (go_big_quiet_step (fail))
   exact wpQuiet_nil rfl
  refine Z02 (by kernel_rfl) ?_ _;clear hs;have HG:=hid (Ze8 (m+b) (h6.pk5 [3,0,1,2,4]) HX.out.2.2.2.2.1);have qL:=h6.at_log;rw[HX.out.2.2.1] at qL;clear h6;obtain⟨a,ha⟩:∃a,a=m+b:=⟨_,rfl⟩;have e3:wrap64 (c.words+b)=a:=by rw[<- hm];exact e2.trans ha.symm
  rw[e3];rw[<- ha] at HG;have HA:Hid (a=c.words+b):=hid (by rw[<- hm];exact ha);clear e2 e3 d1 hm ha;generalize getV L a=st at HG;generalize Z91 L a=ok at HG;go_wp2_with fail;refine HG.out.mono ?_;rintro e w3 ⟨rfl,h7⟩;clear HG;go_upto_region 10 with fail
  have h8:=(h7.pk5 [1,2,3,0,4]).newBlk (t:=34) (cs:=#[.int .u64 st]);clear h7 q0 q1 qL;generalize hW:World.alloc _ _=W4 at h8 |-;generalize w3.heap.size=b3 at h8 |-;clear hW;have q0:=(h8.pk6 [2]).blk.some_ (i:=0) rfl
  cases ok with
  | true =>
   have h9:Hold w0 W4 (atA g c x*(blkA 108 b1 #[ptrV g]*(blkA 3 b2 #[.int .i64 b]*(blkA 34 b3 #[.int .u64 st]*(lgA gl L*(enA ge th 3 ck*R)))))):=h8.pk6 [1,2,3,0,4,5];have HL:=hid (Z1g (.func 196) #[] #[ptrV b1,ptrV b2,ptrV b3] h9);clear h8 h9;go_wp2_with fail;refine HL.out.mono ?_;rintro e w6 ⟨rfl,h9⟩;have H9:=hid h9;clear HL q0 h9;go_wp2_with fail;go_ret;exact⟨rfl,.inr ⟨b,HB.out,b1,b2,.inl ⟨b3,st,H9.out⟩⟩⟩
  | false =>
   have h9:Hold w0 W4 (atA g c x*(enA ge th 3 ck*(blkA 108 b1 #[ptrV g]*(blkA 3 b2 #[.int .i64 b]*(lgA gl L*R))))):=(h8.pk6 [0,1,5,2,3,4]).drop;have hcc:=HX.out.2.2.2.2.2.2;have HS:=hid (Z9d (a:=a) (.func 198) #[] #[ptrV b1,ptrV b2] h9 HX.out.2.2.2.1 HX.out.2.2.2.2.2.1 hcc.ok (by have:=hcc.words;have:=HB.out;have:=HA.out;omega) (by have:=HB.out;have:=HA.out;omega));clear h8 h9 hcc;go_wp2_with fail;refine HS.out.mono ?_;rintro e w6 ⟨gr,rfl,h9⟩;have H9:Hid (Hold w0 w6 (atA g c {x with at_:=3,addr:=c.words+b,use_:=.func (.func 198) #[] #[ptrV b1,ptrV b2],loads:=0,read:=ptrV gr}*(rdA gr (c.words+b) ((c.words+b)%c.orecs) ck 0 0 0 false*(blkA 108 b1 #[ptrV g]*(blkA 3 b2 #[.int .i64 b]*(lgA gl L*(enA ge th 3 ck*R))))))):=hid (by rw[HA.out] at h9;exact h9.pk6 [0,1,3,4,5,2]);clear HS q0 h9;go_wp2_with fail;go_ret;exact⟨rfl,.inr ⟨b,HB.out,b1,b2,.inr ⟨gr,H9.out⟩⟩⟩
end
section
variable {w0 w:World} {R R':Asr} {g m gt:Nat} {c:Cfg} {x:AtR} {C C2:Nat->List Int} {a:Acc} {th ck tk:Int}
theorem Z85 (h:Hold w0 w (atA g c x*(memA m C*R))) (hat:x.at_=11) (hC:COk C) (ha:opA C 2 3 0 (ck+1) true=a) (hC2:opC C 3 0 (ck+1) true=C2) (hck:x.clock=ck) (h0:0<=ck/\ck<1099511627776) :
  Calls Tryz.prog 57 #[ptrV g,ptrV m] w (Z0e (ι:=Unit) w0 (fun _=>atA g c {x with at_:=12}*(memA m C2*R)) a 19):=by
 have HS0:=hid (And.intro hC (And.intro ha (And.intro hC2 hat)));have HX:=hid hck;clear hck;clear hC ha hC2 hat;have H1:=hid (nb h);clear h;go_enter Tryz.func57,Tryz.ntmps57;go_upto_region 1 with fail
 have h1:=H1.out;generalize hW:w.alloc _=W at h1 |-;generalize w.heap.size=gr at h1 |-;clear hW H1;have h2:Hold w0 W (atA g c x*(memA m C*(blkA 50 gr (acD acc0)*R))):=h1.pk3 [1,2,0];clear h1;have p1:=h2.Zly;rw[HS0.out.2.2.2] at p1;have q:=h2.at_clock;rw[HX.out] at q;have HS:=hid (Z0z w0 W _ m C 3 0 (ck+1) h2.swap (by omega) HS0.out.1.len);have hw:(ck+1)%18446744073709551616=ck+1:=Int.emod_eq_of_lt (by omega) (by omega);clear h2;go_wp2_with fail;refine HS.out.mono ?_;rintro e w3 ⟨rfl,h3⟩;rw[HS0.out.2.2.1] at h3;rw[HS0.out.2.1];generalize opE C 3 0=er;clear HS;have H7:=hid (nb h3);clear h3;go_upto_region 25 with(refine Z00 rfl 50 _ _ rfl w3.heap.size _ _ (acD a) rfl rfl _ Tryz.sizeOf50 H7.out rfl rfl rfl ?_;intro y2 h4)
 clear H7;generalize w3.heap.size=gc at h4 |-;have h5:Hold w0 y2 (atA g c x*(memA m C2*(blkA 50 gr (acD acc0)*(blkA 50 gc (acD a)*R)))):=h4.pk4 [2,1,3,0];have p2:=h5.Zly;have z2:=h5.atZ 31;have H6:=hid ((h5.Zlx 12).pk4 [2,3,0,1]);clear h4 h5 q p1;go_upto_region 26 with fail
 have h10:=H6.out;generalize hW:World.setCell _ _ _=W9 at h10 |-;clear hW H6 p2 z2;go_wp2_with (first|(refine Z03 rfl 50 _ rfl gc _ _ rfl Tryz.isAgg50 _ Tryz.sizeOf50 h10.drop.blk rfl ?_)|(refine Z00 rfl 50 _ _ rfl gr _ _ (acD a) rfl rfl _ Tryz.sizeOf50 h10 rfl rfl rfl ?_;intro y9 h99));have HF:Hid (Z0e w0 (fun _=>atA g c {x with at_:=12}*(memA m C2*R)) a 19 (.returned (.tuple #[a.val,.int .i64 19])) y9):=hid ⟨(),rfl,h99.drop.drop⟩;exact bodyPost_ret (Z05 Tryz.results57 _ rfl Tryz.isAgg50 _ Tryz.sizeOf50 h99.blk rfl) rfl HF.out
theorem Z86 (h:Hold w0 w (atA g c x*(memA m C*R))) (hat:x.at_=14) (hC:COk C) (ha:opA C 2 6 th 0 true=a) (hC2:opC C 6 th 0 true=C2) (hth:x.th=th) (h0:0<=th/\th<=100) :
  Calls Tryz.prog 57 #[ptrV g,ptrV m] w (Z0e (ι:=Unit) w0 (fun _=>atA g c {x with at_:=0,state:=2}*(memA m C2*R)) a 24):=by
 have HS0:=hid (And.intro hC (And.intro ha (And.intro hC2 hat)));have HX:=hid hth;clear hth;clear hC ha hC2 hat;have H1:=hid (nb h);clear h;go_enter Tryz.func57,Tryz.ntmps57;go_upto_region 1 with fail
 have h1:=H1.out;generalize hW:w.alloc _=W at h1 |-;generalize w.heap.size=gr at h1 |-;clear hW H1;have h2:Hold w0 W (atA g c x*(memA m C*(blkA 50 gr (acD acc0)*R))):=h1.pk3 [1,2,0];clear h1;have p1:=h2.Zly;rw[HS0.out.2.2.2] at p1;have q:=h2.at_th;rw[HX.out] at q;have HS:=hid (Zgs w0 W _ m C th h2.swap HS0.out.1 ⟨by omega,by omega⟩);clear h2;go_wp2_with fail;refine HS.out.mono ?_;rintro e w3 ⟨rfl,h3⟩;rw[HS0.out.2.2.1] at h3;rw[HS0.out.2.1];clear HS;have H7:=hid (nb h3);clear h3;go_upto_region 35 with(refine Z00 rfl 50 _ _ rfl w3.heap.size _ _ (acD a) rfl rfl _ Tryz.sizeOf50 H7.out rfl rfl rfl ?_;intro y2 h4)
 clear H7;generalize w3.heap.size=gc at h4 |-;have h5:Hold w0 y2 (atA g c x*(memA m C2*(blkA 50 gr (acD acc0)*(blkA 50 gc (acD a)*R)))):=h4.pk4 [2,1,3,0];have p2:=h5.Zly;have z2:=h5.atZ 31;have h6:=h5.Zlx 0;have p3:=h6.at_state;have z3:=h6.atZ 29;have H6:=hid ((h6.at_state_set 2).pk4 [2,3,0,1]);clear h6;clear h4 h5 q p1;go_upto_region 36 with fail
 have h10:=H6.out;generalize hW:World.setCell _ _ _=W9 at h10 |-;clear hW H6 p2 z2 p3 z3;go_wp2_with (first|(refine Z03 rfl 50 _ rfl gc _ _ rfl Tryz.isAgg50 _ Tryz.sizeOf50 h10.drop.blk rfl ?_)|(refine Z00 rfl 50 _ _ rfl gr _ _ (acD a) rfl rfl _ Tryz.sizeOf50 h10 rfl rfl rfl ?_;intro y9 h99));have HF:Hid (Z0e w0 (fun _=>atA g c {x with at_:=0,state:=2}*(memA m C2*R)) a 24 (.returned (.tuple #[a.val,.int .i64 24])) y9):=hid ⟨(),rfl,h99.drop.drop⟩;exact bodyPost_ret (Z05 Tryz.results57 _ rfl Tryz.isAgg50 _ Tryz.sizeOf50 h99.blk rfl) rfl HF.out
end
end Go.Proofs.YtmlfangeanmmeaaGreatDoor
