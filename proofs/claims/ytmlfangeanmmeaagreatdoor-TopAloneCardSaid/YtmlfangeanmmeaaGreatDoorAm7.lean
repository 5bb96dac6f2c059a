/-
 What the proof of TopAlone leans on, part 7 of 49: Redo3, Redo4, Redo5. No statement of its own.
-/
import Derived.Test.YtmlfangeanmmeaaGreatDoorAm5
import Derived.Test.YtmlfangeanmmeaaGreatDoorAm6
import Derived.Deep.LoopGhost
set_option maxHeartbeats 16000000
set_option maxRecDepth 8000
set_option linter.unusedVariables false
namespace Go.Proofs.YtmlfangeanmmeaaGreatDoor
open Go.RowKit
theorem Za9 (w:World) (fp:List Nat) (g:Nat) (L:PL) (a v:Int) (h:LogAt 227 w fp g L) (ha:a<0) :
  Calls Tryz.prog 186 #[.pointer (some ⟨g,0,none⟩),.int .i64 a,.int .u64 v] w (Z2b 227 w fp g L a v):=by
 have hfin:Z2b 227 w fp g L a v (.returned (.bool false)) w:=by
  have e:Z1y L a=false:=by unfold Z1y;rw[decide_eq_false (by omega)];rfl
  exact⟨by rw[e],fp,by rw[Zfz ha];exact h,Chg.refl _ _,fun b hb=>.inl hb⟩
 have HF:=hid hfin;clear hfin h;go_enter Tryz.func186,Tryz.ntmps186;go_wp2_with fail;go_ret;exact HF.out
theorem Z4o {w:World} {L:PL} {X:Option Addr} {e:Nat} {a:Int} {t:Nat} (H:Inv L) (h3:w.ownsRow 0 3 1 (.slice X L.idx.length e) L.idx.length (L.idx.map (Value.int .i64))) :
  ∃gx,X=some ⟨gx,0,none⟩/\gx∈fpV (.slice X L.idx.length e)/\w.cell? ⟨gx,spot L.idx a t,none⟩=some (.int .i64 (ix L.idx (spot L.idx a t)))/\w.frozen? ⟨gx,spot L.idx a t,none⟩=false /\
   ∀u,(w.setCell ⟨gx,spot L.idx a t,none⟩ u).ownsRow 0 3 1 (.slice X L.idx.length e) L.idx.length ((L.idx.map (Value.int .i64)).set (spot L.idx a t) u):=by
 obtain⟨gx,hX,hm,hc,hf,hst⟩:=Z52 h3 (Z1o H.pos a t);rw[Z43 (Z1o H.pos a t)] at hc;exact⟨gx,hX,hm,hc,hf,hst⟩
theorem Zcn (w:World) (fp:List Nat) (g:Nat) (L:PL) (a v:Int) (h:LogAt 227 w fp g L) (H:Inv L) (ha:0<=a) (hin:a∈L.addrs) :
  Calls Tryz.prog 186 #[.pointer (some ⟨g,0,none⟩),.int .i64 a,.int .u64 v] w (Z2b 227 w fp g L a v):=by
 have h0:=h;obtain⟨A,c,V,d,X,e,hb,h1,h2,h3,h4,hfp⟩:=h.ex;have c2:w.cell? ⟨g,2,none⟩=some (.slice V L.addrs.length d):=hb.some_ rfl;have c3:w.cell? ⟨g,3,none⟩=some (.slice X L.idx.length e):=hb.some_ rfl;obtain⟨hi1,hi2⟩:=Z7o hin;obtain⟨i,hi⟩:∃i,i=L.addrs.idxOf a:=⟨_,rfl⟩;rw[<- hi] at hi1 hi2;obtain⟨gv,hV,_,hcv,hfv,hst⟩:=Z52 h2 hi1;rw[Z43 (by rw[H.vlen];exact hi1)] at hcv;have hset:=Zj0 (T:=227) (v:=v) hb (by decide) (by decide) h1 h2 h3 h4 hfp hV (hst (.int .u64 v));have hfin:∀q',Z2b 227 w fp g L a v (.returned (.bool true)) ((w.setCell ⟨gv,i,none⟩ (.int .u64 v)).drewN q'):=fun q'=>by
  have e:Z1y L a=true:=by unfold Z1y;rw[decide_eq_true ha,decide_eq_true hin];rfl
  exact⟨by rw[e],fp,by rw[Zij ha hin,<- hi];exact hset.1.drewN q',hset.2.drewN q',fun b hb=>.inl hb⟩
 have HF:=hid hfin;have Hi2:=hid hi2;have h3':=h3;have n32:L.addrs.length<=32:=by have:=H.le;have:=H.cap32;omega
 have p64:=H.p64;obtain⟨n,hn⟩:∃n,n=L.addrs.length:=⟨_,rfl⟩;obtain⟨p,hp⟩:∃p,p=L.idx.length:=⟨_,rfl⟩;rw[<- hn] at c2 hi1 n32;rw[<- hp] at c3 p64;have Hn:=hid hn;have Hp:=hid hp;have Hi:=hid hi;clear hfin hi2 hset hst hfp hb h h1 h2 h3 h4 hn hp hi;subst hV;go_enter Tryz.func186,Tryz.ntmps186;go_wp2_with fail;refine(Z63 _ _ _ _ _ h0 H ha).mono ?_;rintro e' w' ⟨t,hE,rfl,q,rfl⟩;have hk:=Z1o H.pos a t;have hix:ix L.idx (spot L.idx a t)=i:=by
  have hi3:=Hi2.out;have hi4:i<L.addrs.length:=by rw[<- Hn.out];exact hi1
  obtain⟨hE1,hE2,hE3⟩:=hE;have:=H.find_in (i:=i) (t:=t) hi4 (by rw[hi3];exact hE2) (fun s hs=>by rw[hi3];exact hE3 s hs);rwa [hi3] at this
 rw[<- Hp.out] at hk;obtain⟨gx,hX,_,hcx',_,_⟩:=Z4o (a:=a) (t:=t) H h3';rw[hix] at hcx';obtain⟨k,hkk⟩:∃k,k=spot L.idx a t:=⟨_,rfl⟩;rw[<- hkk] at hk hcx' |-;subst hX;clear hix hkk h3' h0 hE;have b1:(0:Int)<=(k:Int):=by omega
 have b2:(k:Int)<(p:Int):=by omega
 have b3:(0:Int)<=(i:Int):=by omega
 have b4:(i:Int)<(n:Int):=by omega
 have b5:decide ((0:Int)<=(i:Int))=true:=by simp
 go_wp2_with fail;refine Z01 [13] (by kernel_rfl) ?_;refine Z04 (fun w'=>w'.cell? ⟨g,2,none⟩=some (.slice (some ⟨gv,0,none⟩) n d)/\w'.cell? ⟨g,3,none⟩=some (.slice (some ⟨gx,0,none⟩) p e)/\w'.cell? ⟨gx,k,none⟩=some (.int .i64 i)) (fun _ _=>trivial) _ _ _ _ ?_;have hS:(fun w':World=>w'.cell? ⟨g,2,none⟩=some (.slice (some ⟨gv,0,none⟩) n d)/\w'.cell? ⟨g,3,none⟩=some (.slice (some ⟨gx,0,none⟩) p e)/\w'.cell? ⟨gx,k,none⟩=some (.int .i64 i)) (w.drewN q).drew:=⟨c2,c3,hcx'⟩;refine' wbk [true,true,true,true,true,true,true,true,true,true,true,true,true] 81 hS (fun wq hq=>?_) ?_;rotate_left
 ·simp only[Z08]
  obtain⟨q2,q3,q4⟩:=hq
  repeat (go_big_quiet_step (fail))
  exact wpQuiet_nil rfl
 refine wbj 13 (fuel:=0) (fun QB hQB hQX=>?_);go_wp2_with fail;refine hQB.out _ _ ?_;refine Z06 (by kernel_rfl) ?_;refine Z02 (by kernel_rfl) ?_ _;go_wp2_with fail;go_ret;exact HF.out _
structure BoxAt (U W:World) (H:Nat) (u:Value):Prop where
 cell:W.cell? ⟨H,0,none⟩=some u
 ge:U.heap.size<=H
 lt:H<W.heap.size
theorem Chg.box {S:List Nat} {U P W:World} {o:Obj} (k:Chg S U P) (h:P.alloc o=W):Chg S U W:=h ▸ k.alloc o
theorem BoxAt.new' {S:List Nat} {U P Q W:World} {u:Value} {t:TypeId} (hU:U.heap.size<=Q.heap.size) (k:Chg S Q P) (h:P.alloc (.cells #[u] t)=W):BoxAt U W P.heap.size u:=by
 have hs:=k.size;refine⟨?_,by omega,?_⟩
 ·rw[<- h];exact(Blk.new P t #[u]).some_ rfl
 ·rw[<- h];exact(Blk.new P t #[u]).lt
theorem BoxAt.new {S:List Nat} {U P W:World} {u:Value} {t:TypeId} (k:Chg S U P) (h:P.alloc (.cells #[u] t)=W):BoxAt U W P.heap.size u:=BoxAt.new' (Nat.le_refl _) k h
theorem BoxAt.chg {S:List Nat} {U W W':World} {H:Nat} {u:Value} (b:BoxAt U W H u) (k:Chg S W W') (hS:∀x∈S,x<U.heap.size):BoxAt U W' H u :=
 ⟨(k.cell (p:=⟨H,0,none⟩) b.lt (fun h=>by have h1:=hS _ h;have h2:=b.ge;simp only at h1;omega)).trans b.cell,b.ge,by have:=k.size;have:=b.lt;omega⟩
theorem BoxAt.box {U P W:World} {H:Nat} {u:Value} {o:Obj} (b:BoxAt U P H u) (h:P.alloc o=W):BoxAt U W H u:=b.chg ((Chg.refl [] P).box h) (fun _ h=>by cases h)
theorem Za8 (w:World) (fp:List Nat) (g:Nat) (L:PL) (a v:Int) (h:LogAt 227 w fp g L) (H:Inv L) (ha:0<=a) (hin:a ∉ L.addrs) :
  Calls Tryz.prog 186 #[.pointer (some ⟨g,0,none⟩),.int .i64 a,.int .u64 v] w (Z2b 227 w fp g L a v):=by
 have h0:=h;obtain⟨A,c,V,d,X,e,hb,h1,h2,h3,h4,hfp⟩:=h.ex;have c0:w.cell? ⟨g,0,none⟩=some (.int .i64 L.cap):=hb.some_ rfl;have c1:w.cell? ⟨g,1,none⟩=some (.slice A L.addrs.length c):=hb.some_ rfl;have c3:w.cell? ⟨g,3,none⟩=some (.slice X L.idx.length e):=hb.some_ rfl;have n32:L.addrs.length<=32:=by have:=H.le;have:=H.cap32;omega
 have p64:=H.p64;have nle:=H.le;obtain⟨n,hn⟩:∃n,n=L.addrs.length:=⟨_,rfl⟩;obtain⟨p,hp⟩:∃p,p=L.idx.length:=⟨_,rfl⟩;obtain⟨cp,hcp⟩:∃cp,cp=L.cap:=⟨_,rfl⟩;rw[<- hn] at c1 n32 nle;rw[<- hp] at c3 p64;rw[<- hcp] at c0 nle;have Hn:=hid hn;have Hp:=hid hp;have Hcp:=hid hcp;have Hin:=hid hin;have Hfp:=hid hfp;have H4:=hid h4;clear h hn hp hcp hfp h4 hin;obtain⟨iI,hiI,hzI0,hzI1,hzI2⟩:=info_parts Z1i;obtain⟨iU,hiU,hzU0,hzU1,hzU2⟩:=info_parts Z3q;go_enter Tryz.func186,Tryz.ntmps186;go_wp2_with fail;refine(Z63 _ _ _ _ _ h0 H ha).mono ?_;rintro e' w' ⟨t,hE,rfl,q,rfl⟩;have hk:=Z1o H.pos a t;obtain⟨hE1,hE2,hE3⟩:=hE;obtain⟨hneg,hnegAt⟩:=H.find_out Hin.out hE1 hE2 (fun s hs=>(hE3 s hs).1);obtain⟨gx,hX,hgx,hcx,hfx,hst⟩:=Z4o (a:=a) (t:=t) H h3;rw[<- Hp.out] at hk;obtain⟨k,hkk⟩:∃k,k=spot L.idx a t:=⟨_,rfl⟩;obtain⟨j,hj⟩:∃j,j=ix L.idx (spot L.idx a t):=⟨_,rfl⟩;rw[<- hj] at hneg hcx;rw[<- hkk] at hk hcx hfx hst hnegAt |-;have Hna:=hid hnegAt;clear hE1 hE2 hE3 hkk hj hnegAt;have b1:(0:Int)<=(k:Int):=by omega
 have b2:(k:Int)<(p:Int):=by omega
 have b5:decide ((0:Int)<=j)=false:=by simp;omega
 have hX':=hX
 by_cases hfull:n<cp
 ·have b6:(n==cp)=false:=by simp;omega
  have hnew:Hid (putL L a v={L with addrs:=L.addrs++[a],vals:=L.vals++[v],idx:=L.idx.set k L.addrs.length}):=hid (by rw[Zfy ha Hin.out (by rw[<- Hn.out,<- Hcp.out];exact hfull),Hna.out]);have hok:Hid (Z1y L a=true):=hid (by unfold Z1y;rw[decide_eq_true ha,<- Hn.out,<- Hcp.out,decide_eq_true hfull];simp);have gX:g ∉ fpV (.slice X L.idx.length e):=Z16 h3 hb (by decide);have gne:g≠gx:=fun h=>gX (h ▸ hgx);obtain⟨U,hU⟩:∃U,U=w.setCell ⟨gx,k,none⟩ (.int .i64 n):=⟨_,rfl⟩;have hcU:Chg [gx] w U:=by rw[hU];exact(Chg.refl _ _).setCell (.inl (by simp)) _
  have hbU:=hb.chg hcU (by simp;exact gne);have h1U:=Z0m h1 hcU (fun k hk hk2=>H4.out k hk (by rw[List.mem_singleton.1 hk2];exact hgx));have h2U:=Z0m h2 hcU (fun k hk hk2=>Z1v h2 h3 (by decide) k hk (by rw[List.mem_singleton.1 hk2];exact hgx));have h3U:U.ownsRow 0 3 1 (.slice X L.idx.length e) L.idx.length ((L.idx.set k (L.addrs.length:Int)).map (Value.int .i64)):=by
   have h9:=hst (.int .i64 n);rw[<- hU,Hn.out] at h9;rwa [<- List.map_set] at h9
  have hwU:Chg fp w U:=hcU.mono (fun x hx=>.inl (by rw[List.mem_singleton.1 hx,Hfp.out];simp[hgx]));have HU:=hid (And.intro hbU (And.intro h1U (And.intro h2U h3U)));have HwU:=hid hwU;have hUU:=hid hU;clear hbU h1U h2U h3U hwU hst hb h1 h2 h3 h0 gX hcU hU;subst hX;clear hX';go_wp2_with fail;go_quiet (fail);go_wp2_with fail;refine Z01 [11] (by kernel_rfl) ?_;refine Z04 (fun w'=>w'.cell? ⟨g,1,none⟩=some (.slice A n c)/\w'.cell? ⟨g,3,none⟩=some (.slice (some ⟨gx,0,none⟩) p e)) (fun _ _=>trivial) _ _ _ _ ?_;refine' wbk [true,true,true,true,true,true,true,true,true,true,true] 81 ⟨c1,c3⟩ (fun wq hq=>?_) ?_;rotate_left
  ·simp only[Z08]
   obtain⟨q1,q3⟩:=hq
   repeat (go_big_quiet_step (fail))
   exact wpQuiet_nil rfl
  refine wbj 11 (fuel:=0) (fun QB hQB hQX=>?_);go_wp2_with fail;refine hQB.out _ _ ?_;refine Z06 (by kernel_rfl) ?_;refine Z02 (by kernel_rfl) ?_ _;go_wp2_with fail;refine Z01 [18,21] (by kernel_rfl) ?_;generalize hW0:World.drew _=W0;have K:Chg [] U W0:=by rw[<- hW0,hUU.out];exact⟨rfl,rfl,rfl,Nat.le_refl _,fun _ _ _=>rfl⟩
  clear hW0;have en:=Hn.out;subst en;obtain⟨hbU,h1U,h2U,h3U⟩:=HU.out;have gA:g ∉ fpV (.slice A L.addrs.length c):=Z16 h1U hbU (by decide);have gV:g ∉ fpV (.slice V L.addrs.length d):=Z16 h2U hbU (by decide);have nVA:∀k∈fpV (.slice V L.addrs.length d),k ∉ fpV (.slice A L.addrs.length c):=Z1v h2U h1U (by decide);have hbC:=hbU.chg K (by simp);have hrA:=Z0m h1U K (by simp);have hrV:=Z0m h2U K (by simp);have d1:W0.cell? ⟨g,1,none⟩=some (.slice A L.addrs.length c):=hbC.some_ rfl;have d2:W0.cell? ⟨g,2,none⟩=some (.slice V L.addrs.length d):=hbC.some_ rfl;refine Z04 (fun w'=>w'.cell? ⟨g,1,none⟩=some (.slice A L.addrs.length c)/\w'.cell? ⟨g,2,none⟩=some (.slice V L.addrs.length d)) (fun _ _=>trivial) _ _ _ _ ?_;refine' wbz [true,true,true,true,true,false,true,false,false,true,true,true,false,true] 81 ⟨hbC.some_ rfl,hbC.some_ rfl⟩ ?_;refine' wbk [false,false,false,false,false,true,false,false,false,false,false,false,true] 81 ⟨d1,d2⟩ (fun wq hq=>?_) ?_;rotate_left
  ·simp only[Z08]
   obtain⟨q1,q3⟩:=hq
   repeat (go_big_quiet_step (fail))
   exact wpQuiet_nil rfl
  refine Z0f [false,false,false,false,false,false,false,true] [false,false,false,false,false,false,false,false,false,false,false,false,false,false,true] (fuel:=9) (by rfl) (by rfl) (by rfl) (by rfl) (by kernel_rfl) (fun QB hQB hQX=>?_) (fun QB hQB hQX=>?_)
  ·simp only[Z08]
   go_wp2_with fail;generalize hW7:World.alloc _ (Obj.cells #[Value.int .i64 a] _)=W7;have b7:=BoxAt.new K hW7
   try (replace b14:=b14.box hW7)
   replace K:=K.box hW7;clear hW7;have hbC:=hbU.chg K (by simp);refine hQB.out _ _ ⟨hbC.some_ rfl,hbC.some_ rfl⟩ ?_;refine Z0f [false,false,false,false,false,false,false,false,true] [false,false,false,false,false,false,false,false,false,false,false,false,false,false,true] (fuel:=8) (by rfl) (by rfl) (by rfl) (by rfl) (by kernel_rfl) (fun QB hQB hQX=>?_) (fun QB hQB hQX=>?_)
   ·simp only[Z08]
    go_wp2_with (at_builtin;refine Z15 rfl _ _ 23 rfl 3 iI (.int .i64 0) 8 Tryz.underlying23 hiI hzI0 hzI1 hzI2 rfl (.slice A L.addrs.length c) L.addrs.length (L.addrs.map (Value.int .i64)) (.int .i64 a) _ rfl (Z0m h1U K (by simp)) rfl b7.cell rfl (by omega) (by decide) ?_);intro A' c' W3 o3 k0 f0;have k3:=K.trans' k0;have f3:=fun k hk=>(f0 k hk).imp_right (fun h=>Nat.le_trans K.size h);have K4:Chg [] W3 W3:=Chg.refl _ _;have hs3:=k3.size
    try (replace b14:=b14.chg k0 (Z2x h1U))
    have hbC:=hbU.chg k3 gA;clear k0 f0 K;go_wp2_with fail;refine hQB.out _ _ ⟨hbC.some_ rfl,hbC.some_ rfl⟩ ?_;refine wbi 14 (fuel:=7) (fun QB hQB hQX=>?_);go_wp2_with fail;generalize hW14:World.alloc _ (Obj.cells #[Value.int .u64 v] _)=W14
    first|(have b14:=BoxAt.new' hs3 K4 hW14;replace K4:=K4.box hW14;have hbC:=(hbU.chg k3 gA).chg K4 (by simp))|(have b14:=BoxAt.new K hW14;(try (replace b7:=b7.box hW14));replace K:=K.box hW14;have hbC:=hbU.chg K (by simp))
    clear hW14;refine hQB.out _ _ ⟨hbC.some_ rfl,hbC.some_ rfl⟩ ?_;refine wbi 15 (fuel:=6) (fun QB hQB hQX=>?_);go_wp2_with (at_builtin;refine Z15 rfl _ _ 33 rfl 34 iU (.int .u64 0) 8 Tryz.underlying33 hiU hzU0 hzU1 hzU2 rfl (.slice V L.addrs.length d) L.addrs.length (L.vals.map (Value.int .u64)) (.int .u64 v) _ rfl (Z0m (Z0m h2U k3 nVA) K4 (by simp)) rfl b14.cell rfl (by omega) (by decide) ?_);intro V' d' W5 o5 k5 f5;have hbC:=((hbU.chg k3 gA).chg K4 (by simp)).chg k5 gV;obtain⟨e1,z1,e2,z2,fp',hL,hC,hf⟩:=Zaa (ixs:=L.idx.set k L.addrs.length) (a:=a) (v:=v) hbU (by decide) (by decide) h1U h2U h3U H4.out Hfp.out (by simp) HwU.out k3 o3 f3 K4 k5 o5 f5;have HF:Hid (Z2b 227 w fp g L a v (.returned (.bool true)) _):=hid ⟨by rw[hok.out],fp',by rw[hnew.out];exact hL,hC,hf⟩;clear hL hC hf o5 k5 f5;go_wp2_with fail;refine hQB.out _ _ ⟨hbC.some_ rfl,hbC.some_ rfl⟩ ?_;refine' wbz [false,false,false,false,false,false,false,false,false,false,false,false,false,false,false,false,true,true] 81 ⟨hbC.some_ rfl,hbC.some_ rfl⟩ ?_;refine wbj 18 (fuel:=3) (fun QB hQB hQX=>?_);go_wp2_with fail;refine hQB.out _ _ ?_;refine Z06 (by kernel_rfl) ?_;refine' wby [false,false,false,false,false,false,false,false,false,false,false,false,false,false,false,false,false,false,false,true,true] 81 trivial ?_;refine wbi 21 (fuel:=0) (fun QB hQB hQX=>?_);go_wp2_with fail;refine hQB.out _ _ trivial ?_;refine Z02 (by kernel_rfl) ?_ _;go_wp2_with fail;go_ret;exact HF.out
   ·simp only[Z08]
    go_wp2_with fail;generalize hW14:World.alloc _ (Obj.cells #[Value.int .u64 v] _)=W14
    first|(have b14:=BoxAt.new' hs3 K4 hW14;replace K4:=K4.box hW14;have hbC:=(hbU.chg k3 gA).chg K4 (by simp))|(have b14:=BoxAt.new K hW14;(try (replace b7:=b7.box hW14));replace K:=K.box hW14;have hbC:=hbU.chg K (by simp))
    clear hW14;refine hQB.out _ _ ⟨hbC.some_ rfl,hbC.some_ rfl⟩ ?_;refine wbi 8 (fuel:=7) (fun QB hQB hQX=>?_);go_wp2_with (at_builtin;refine Z15 rfl _ _ 23 rfl 3 iI (.int .i64 0) 8 Tryz.underlying23 hiI hzI0 hzI1 hzI2 rfl (.slice A L.addrs.length c) L.addrs.length (L.addrs.map (Value.int .i64)) (.int .i64 a) _ rfl (Z0m h1U K (by simp)) rfl b7.cell rfl (by omega) (by decide) ?_);intro A' c' W3 o3 k0 f0;have k3:=K.trans' k0;have f3:=fun k hk=>(f0 k hk).imp_right (fun h=>Nat.le_trans K.size h);have K4:Chg [] W3 W3:=Chg.refl _ _;have hs3:=k3.size
    try (replace b14:=b14.chg k0 (Z2x h1U))
    have hbC:=hbU.chg k3 gA;clear k0 f0 K;go_wp2_with fail;refine hQB.out _ _ ⟨hbC.some_ rfl,hbC.some_ rfl⟩ ?_;refine wbi 15 (fuel:=6) (fun QB hQB hQX=>?_);go_wp2_with (at_builtin;refine Z15 rfl _ _ 33 rfl 34 iU (.int .u64 0) 8 Tryz.underlying33 hiU hzU0 hzU1 hzU2 rfl (.slice V L.addrs.length d) L.addrs.length (L.vals.map (Value.int .u64)) (.int .u64 v) _ rfl (Z0m (Z0m h2U k3 nVA) K4 (by simp)) rfl b14.cell rfl (by omega) (by decide) ?_);intro V' d' W5 o5 k5 f5;have hbC:=((hbU.chg k3 gA).chg K4 (by simp)).chg k5 gV;obtain⟨e1,z1,e2,z2,fp',hL,hC,hf⟩:=Zaa (ixs:=L.idx.set k L.addrs.length) (a:=a) (v:=v) hbU (by decide) (by decide) h1U h2U h3U H4.out Hfp.out (by simp) HwU.out k3 o3 f3 K4 k5 o5 f5;have HF:Hid (Z2b 227 w fp g L a v (.returned (.bool true)) _):=hid ⟨by rw[hok.out],fp',by rw[hnew.out];exact hL,hC,hf⟩;clear hL hC hf o5 k5 f5;go_wp2_with fail;refine hQB.out _ _ ⟨hbC.some_ rfl,hbC.some_ rfl⟩ ?_;refine' wbz [false,false,false,false,false,false,false,false,false,false,false,false,false,false,false,false,true,true] 81 ⟨hbC.some_ rfl,hbC.some_ rfl⟩ ?_;refine wbj 18 (fuel:=3) (fun QB hQB hQX=>?_);go_wp2_with fail;refine hQB.out _ _ ?_;refine Z06 (by kernel_rfl) ?_;refine' wby [false,false,false,false,false,false,false,false,false,false,false,false,false,false,false,false,false,false,false,true,true] 81 trivial ?_;refine wbi 21 (fuel:=0) (fun QB hQB hQX=>?_);go_wp2_with fail;refine hQB.out _ _ trivial ?_;refine Z02 (by kernel_rfl) ?_ _;go_wp2_with fail;go_ret;exact HF.out
  ·simp only[Z08]
   go_wp2_with fail;generalize hW14:World.alloc _ (Obj.cells #[Value.int .u64 v] _)=W14
   first|(have b14:=BoxAt.new' hs3 K4 hW14;replace K4:=K4.box hW14;have hbC:=(hbU.chg k3 gA).chg K4 (by simp))|(have b14:=BoxAt.new K hW14;(try (replace b7:=b7.box hW14));replace K:=K.box hW14;have hbC:=hbU.chg K (by simp))
   clear hW14;refine hQB.out _ _ ⟨hbC.some_ rfl,hbC.some_ rfl⟩ ?_;refine wbi 7 (fuel:=8) (fun QB hQB hQX=>?_);go_wp2_with fail;generalize hW7:World.alloc _ (Obj.cells #[Value.int .i64 a] _)=W7;have b7:=BoxAt.new K hW7
   try (replace b14:=b14.box hW7)
   replace K:=K.box hW7;clear hW7;have hbC:=hbU.chg K (by simp);refine hQB.out _ _ ⟨hbC.some_ rfl,hbC.some_ rfl⟩ ?_;refine wbi 8 (fuel:=7) (fun QB hQB hQX=>?_);go_wp2_with (at_builtin;refine Z15 rfl _ _ 23 rfl 3 iI (.int .i64 0) 8 Tryz.underlying23 hiI hzI0 hzI1 hzI2 rfl (.slice A L.addrs.length c) L.addrs.length (L.addrs.map (Value.int .i64)) (.int .i64 a) _ rfl (Z0m h1U K (by simp)) rfl b7.cell rfl (by omega) (by decide) ?_);intro A' c' W3 o3 k0 f0;have k3:=K.trans' k0;have f3:=fun k hk=>(f0 k hk).imp_right (fun h=>Nat.le_trans K.size h);have K4:Chg [] W3 W3:=Chg.refl _ _;have hs3:=k3.size
   try (replace b14:=b14.chg k0 (Z2x h1U))
   have hbC:=hbU.chg k3 gA;clear k0 f0 K;go_wp2_with fail;refine hQB.out _ _ ⟨hbC.some_ rfl,hbC.some_ rfl⟩ ?_;refine wbi 15 (fuel:=6) (fun QB hQB hQX=>?_);go_wp2_with (at_builtin;refine Z15 rfl _ _ 33 rfl 34 iU (.int .u64 0) 8 Tryz.underlying33 hiU hzU0 hzU1 hzU2 rfl (.slice V L.addrs.length d) L.addrs.length (L.vals.map (Value.int .u64)) (.int .u64 v) _ rfl (Z0m (Z0m h2U k3 nVA) K4 (by simp)) rfl b14.cell rfl (by omega) (by decide) ?_);intro V' d' W5 o5 k5 f5;have hbC:=((hbU.chg k3 gA).chg K4 (by simp)).chg k5 gV;obtain⟨e1,z1,e2,z2,fp',hL,hC,hf⟩:=Zaa (ixs:=L.idx.set k L.addrs.length) (a:=a) (v:=v) hbU (by decide) (by decide) h1U h2U h3U H4.out Hfp.out (by simp) HwU.out k3 o3 f3 K4 k5 o5 f5;have HF:Hid (Z2b 227 w fp g L a v (.returned (.bool true)) _):=hid ⟨by rw[hok.out],fp',by rw[hnew.out];exact hL,hC,hf⟩;clear hL hC hf o5 k5 f5;go_wp2_with fail;refine hQB.out _ _ ⟨hbC.some_ rfl,hbC.some_ rfl⟩ ?_;refine' wbz [false,false,false,false,false,false,false,false,false,false,false,false,false,false,false,false,true,true] 81 ⟨hbC.some_ rfl,hbC.some_ rfl⟩ ?_;refine wbj 18 (fuel:=3) (fun QB hQB hQX=>?_);go_wp2_with fail;refine hQB.out _ _ ?_;refine Z06 (by kernel_rfl) ?_;refine' wby [false,false,false,false,false,false,false,false,false,false,false,false,false,false,false,false,false,false,false,true,true] 81 trivial ?_;refine wbi 21 (fuel:=0) (fun QB hQB hQX=>?_);go_wp2_with fail;refine hQB.out _ _ trivial ?_;refine Z02 (by kernel_rfl) ?_ _;go_wp2_with fail;go_ret;exact HF.out
 ·have b6:(n==cp)=true:=by simp;omega
  have hfin:∀q',Z2b 227 w fp g L a v (.returned (.bool false)) (w.drewN q'):=fun q'=>by
   have hno:¬ L.addrs.length<L.cap:=by rw[<- Hn.out,<- Hcp.out];exact hfull
   have e:Z1y L a=false:=by unfold Z1y;rw[decide_eq_true ha,decide_eq_false Hin.out,decide_eq_false hno];rfl
   exact⟨by rw[e],fp,by rw[Zdm ha Hin.out hno];exact h0.drewN q',(Chg.refl _ _).drewN q',fun b hb=>.inl hb⟩
  have HF:=hid hfin;clear hfin hb h1 h2 h3 h0 hst;subst hX;clear hX';go_wp2_with fail;go_quiet (fail);go_wp2_with fail;go_ret
  first|exact HF.out _|(rw[World.drewN_drewN];exact HF.out _)
theorem Zj1 (w:World) (fp:List Nat) (g:Nat) (L:PL) (a v:Int) (h:LogAt 227 w fp g L) (H:Inv L) :
  Calls Tryz.prog 186 #[.pointer (some ⟨g,0,none⟩),.int .i64 a,.int .u64 v] w (Z2b 227 w fp g L a v):=by
 rcases Int.lt_or_le a 0 with ha|ha
 ·exact Za9 w fp g L a v h ha
 ·by_cases hin:a∈L.addrs
  ·exact Zcn w fp g L a v h H ha hin
  ·exact Za8 w fp g L a v h H ha hin
def Z4y (w:World) (L:PL) (a:Int) (e:Ending) (w':World):Prop:=e = .returned (.tuple #[.int .u64 (getV L a),.bool (Z91 L a)])/\∃q,w'=w.drewN q
theorem Zc1 {L:PL} {a:Int} (h:a ∉ L.addrs):getV L a=0/\Z91 L a=false:=⟨if_neg h,decide_eq_false h⟩
theorem Zlm {L:PL} {a:Int} (h:a∈L.addrs):getV L a=L.vals.getD (L.addrs.idxOf a) 0/\Z91 L a=true:=⟨if_pos h,decide_eq_true h⟩
theorem Zac (w:World) (fp:List Nat) (g:Nat) (L:PL) (a:Int) (H:Inv L) (ha:a<0) :
  Calls Tryz.prog 113 #[.pointer (some ⟨g,0,none⟩),.int .i64 a] w (Z4y w L a):=by
 have hin:a ∉ L.addrs:=fun h=>by
  have h1:=Z7o h;have h2:=H.nonneg _ h1.1;omega
 have hfin:Z4y w L a (.returned (.tuple #[.int .u64 0,.bool false])) w:=⟨by rw[(Zc1 hin).1,(Zc1 hin).2],0,rfl⟩;have HF:=hid hfin;clear hfin hin H;go_enter Tryz.func113,Tryz.ntmps113;go_wp2_with fail
 go_ret2
 exact HF.out
theorem Zab (w:World) (fp:List Nat) (g:Nat) (L:PL) (a:Int) (h:LogAt 227 w fp g L) (H:Inv L) (ha:0<=a) :
  Calls Tryz.prog 113 #[.pointer (some ⟨g,0,none⟩),.int .i64 a] w (Z4y w L a):=by
 have h0:=h;obtain⟨A,c,V,d,X,e,hb,h1,h2,h3,h4,hfp⟩:=h.ex;have c2:w.cell? ⟨g,2,none⟩=some (.slice V L.addrs.length d):=hb.some_ rfl;have c3:w.cell? ⟨g,3,none⟩=some (.slice X L.idx.length e):=hb.some_ rfl;have h3':=h3;have h2':=h2;have p64:=H.p64;have n32:L.addrs.length<=32:=by have:=H.le;have:=H.cap32;omega
 obtain⟨n,hn⟩:∃n,n=L.addrs.length:=⟨_,rfl⟩;obtain⟨p,hp⟩:∃p,p=L.idx.length:=⟨_,rfl⟩;rw[<- hn] at c2 n32;rw[<- hp] at c3 p64;have Hn:=hid hn;have Hp:=hid hp;clear hfp hb h h1 h2 h3 h4 hn hp;go_enter Tryz.func113,Tryz.ntmps113;go_wp2_with fail;refine Z01 [] (by kernel_rfl) ?_;refine Z04 (fun w'=>∀p,w'.cell? p=w.cell? p) (fun _ _=>trivial) _ _ _ _ ?_;refine' wbk [true,true,true,true,true,true] 31 (fun _=>rfl) (fun wq hq=>?_) ?_;rotate_left
 ·simp only[Z08]
  have q3:=(hq ⟨g,3,none⟩).trans c3
  repeat (go_big_quiet_step (fail))
  exact wpQuiet_nil rfl
 refine wbi 6 (fuel:=3) (fun QB hQB hQX=>?_);go_wp2_with fail;refine(Z63 w.drew fp g L a ⟨h0.ex⟩ H ha).mono ?_;rintro e' w' ⟨t,hE,rfl,q0,hq0⟩;obtain⟨q,rfl⟩:∃q,w'=w.drewN q:=⟨1+q0,hq0.trans (World.drewN_drewN w 1 q0)⟩;clear hq0;have hk:=Z1o H.pos a t;obtain⟨gx,hX,_,hcx,_,_⟩:=Z4o (a:=a) (t:=t) H h3';have hix:(∀hin:a∈L.addrs,ix L.idx (spot L.idx a t)=(L.addrs.idxOf a:Nat))/\(a ∉ L.addrs->ix L.idx (spot L.idx a t)<0):=by
  obtain⟨hE1,hE2,hE3⟩:=hE;refine⟨fun hin=>?_,fun hin=>(H.find_out hin hE1 hE2 (fun s hs=>(hE3 s hs).1)).1⟩;have hm:=Z7o hin;have h9:=H.find_in (i:=L.addrs.idxOf a) (t:=t) hm.1 (by rw[hm.2];exact hE2) (fun s hs=>by rw[hm.2];exact hE3 s hs);rwa [hm.2] at h9
 rw[<- Hp.out] at hk;obtain⟨k,hkk⟩:∃k,k=spot L.idx a t:=⟨_,rfl⟩;obtain⟨j,hj⟩:∃j,j=ix L.idx (spot L.idx a t):=⟨_,rfl⟩;rw[<- hj] at hcx hix;rw[<- hkk] at hk hcx |-;have Hix:=hid hix;subst hX;clear hE hkk hj hix h3' h0;have b1:(0:Int)<=(k:Int):=by omega
 have b2:(k:Int)<(p:Int):=by omega
 go_wp2_with fail;refine hQB.out _ _ (fun _=>rfl) ?_;refine' wbk [false,false,false,false,false,false,false,true,true,true] 31 (fun _=>rfl) (fun wq hq=>?_) ?_;rotate_left
 ·simp only[Z08]
  have qx:=(hq ⟨gx,k,none⟩).trans hcx
  repeat (go_big_quiet_step (fail))
  exact wpQuiet_nil rfl
 refine Z02 (by kernel_rfl) ?_ _
 by_cases hin:a∈L.addrs
 ·obtain⟨hi1,hi2⟩:=Z7o hin
  have hj:=Hix.out.1 hin;obtain⟨gv,hV,_,hcv,_,_⟩:=Z52 h2' hi1;rw[Z43 (by rw[H.vlen];exact hi1)] at hcv;have hg:=Zlm hin;obtain⟨i,hi⟩:∃i,i=L.addrs.idxOf a:=⟨_,rfl⟩;obtain⟨y,hy⟩:∃y,y=L.vals.getD (L.addrs.idxOf a) 0:=⟨_,rfl⟩;rw[<- hi] at hi1 hj;rw[<- hy] at hcv hg;rw[<- hi] at hcv;rw[<- Hn.out] at hi1;subst hV;subst hj;have hfin:∀q',Z4y w L a (.returned (.tuple #[.int .u64 y,.bool true])) (w.drewN q'):=fun q'=>⟨by rw[hg.1,hg.2],q',rfl⟩;have HF:=hid hfin;clear hfin hg hy hi h2' hi2;have b3:decide ((i:Int)<0)=false:=by simp
  have b4:(0:Int)<=(i:Int):=by omega
  have b5:(i:Int)<(n:Int):=by omega
  go_wp2_with fail
  go_ret2
  first|exact HF.out _|(rw[World.drewN_drewN];exact HF.out _)
 ·have hj:=Hix.out.2 hin
  have b3:decide (j<0)=true:=by simpa using hj
  have hfin:∀q',Z4y w L a (.returned (.tuple #[.int .u64 0,.bool false])) (w.drewN q'):=fun q'=>⟨by rw[(Zc1 hin).1,(Zc1 hin).2],q',rfl⟩;have HF:=hid hfin;clear hfin;go_wp2_with fail
  go_ret2
  first|exact HF.out _|(rw[World.drewN_drewN];exact HF.out _)
theorem Zj3 (w:World) (fp:List Nat) (g:Nat) (L:PL) (a:Int) (h:LogAt 227 w fp g L) (H:Inv L) :
  Calls Tryz.prog 113 #[.pointer (some ⟨g,0,none⟩),.int .i64 a] w (Z4y w L a):=by
 rcases Int.lt_or_le a 0 with ha|ha
 ·exact Zac w fp g L a H ha
 ·exact Zab w fp g L a h H ha
theorem Zj2 (w:World) (fp:List Nat) (g:Nat) (L:PL) (h:LogAt 227 w fp g L) :
  Calls Tryz.prog 213 #[.pointer (some ⟨g,0,none⟩)] w fun e w'=>e = .returned (.int .i64 L.addrs.length)/\w=w':=by
 obtain⟨A,c,V,d,X,e,hb,h1,h2,h3,h4,hfp⟩:=h.ex;have c1:w.cell? ⟨g,1,none⟩=some (.slice A L.addrs.length c):=hb.some_ rfl;clear hfp hb h h1 h2 h3 h4;go_enter Tryz.func213,Tryz.ntmps213;go_wp2_with fail;go_ret;exact⟨rfl,rfl⟩
def Zca (w:World) (t:TypeId) (n:Nat) (xs:List Value) (e:Ending) (w':World):Prop:=∃A' c',e = .returned (.slice A' n c')/\w'.ownsRow w.heap.size t 1 (.slice A' n c') n xs/\Chg [] w w'
theorem Ze3 (w:World) (fp:List Nat) (g:Nat) (L:PL) (h:LogAt 227 w fp g L) (H:Inv L) :
  Calls Tryz.prog 101 #[.pointer (some ⟨g,0,none⟩)] w (Zca w 3 L.addrs.length (L.addrs.map (Value.int .i64))):=by
 obtain⟨A,c,V,d,X,e,hb,h1,h2,h3,h4,hfp⟩:=h.ex;have c1:w.cell? ⟨g,1,none⟩=some (.slice A L.addrs.length c):=hb.some_ rfl;have hR:=Z2e h1;have hl:L.addrs.length<=1000000:=by have:=H.le;have:=H.cap32;omega
 clear hfp hb h h1 h2 h3 h4 H;go_enter Tryz.func101,Tryz.ntmps101;go_wp2_with fail;refine(Z1c _ _ _ _ _ _ hR hl).mono ?_;rintro e w1 ⟨A',c',rfl,ho,hc⟩;go_wp2_with fail;go_ret;exact⟨A',c',rfl,ho,hc⟩
theorem Zcm (w:World) (fp:List Nat) (g:Nat) (L:PL) (h:LogAt 227 w fp g L) (H:Inv L) :
  Calls Tryz.prog 169 #[.pointer (some ⟨g,0,none⟩)] w (Zca w 34 L.addrs.length (L.vals.map (Value.int .u64))):=by
 obtain⟨A,c,V,d,X,e,hb,h1,h2,h3,h4,hfp⟩:=h.ex;have c1:w.cell? ⟨g,2,none⟩=some (.slice V L.addrs.length d):=hb.some_ rfl;have hR:=Z2e h2;have hl:L.addrs.length<=1000000:=by have:=H.le;have:=H.cap32;omega
 clear hfp hb h h1 h2 h3 h4 H;go_enter Tryz.func169,Tryz.ntmps169;go_wp2_with fail;refine(Z0t _ _ _ _ _ _ hR hl).mono ?_;rintro e w1 ⟨A',c',rfl,ho,hc⟩;go_wp2_with fail;go_ret;exact⟨A',c',rfl,ho,hc⟩
def Z1d (k:Nat) (xs:List Int):List Int:=List.replicate k (-1)++xs.drop k
theorem Z80 {k:Nat} {xs:List Int} (h:k<=xs.length):(Z1d k xs).length=xs.length:=by unfold Z1d;simp;omega
theorem Z7z {k:Nat} {xs:List Int} (h:k<xs.length):(Z1d k xs).set k (-1)=Z1d (k+1) xs:=by
 unfold Z1d;rw[List.set_append_right _ _ (by simp),List.length_replicate,Nat.sub_self,List.drop_eq_getElem_cons h,List.set_cons_zero,List.replicate_succ',List.append_assoc]
 rfl
theorem Z81 (xs:List Int):Z1d xs.length xs=List.replicate xs.length (-1):=by unfold Z1d;simp
def Z31 (L:PL):PL:={cap:=L.cap,addrs:=[],vals:=[],idx:=List.replicate L.idx.length (-1)}
theorem Z64 (w:World) (fp:List Nat) (g:Nat) (L:PL) (h:LogAt 227 w fp g L) (hpos:0<L.idx.length) (p64:L.idx.length<=64) :
  Calls Tryz.prog 218 #[.pointer (some ⟨g,0,none⟩)] w fun e w'=>e = .returned (.tuple #[])/\∃fp',LogAt 227 w' fp' g (Z31 L)/\Chg fp w w'/\∀b∈fp',b∈fp:=by
 obtain⟨A,c,V,d,X,e,hb,h1,h2,h3,h4,hfp⟩:=h.ex;obtain⟨gx,hX,hgx,_,_,_⟩:=Z52 h3 hpos;have gX:g ∉ fpV (.slice X L.idx.length e):=Z16 h3 hb (by decide);have gne:g≠gx:=fun h=>gX (h ▸ hgx);have c1:w.cell? ⟨g,1,none⟩=some (.slice A L.addrs.length c):=hb.some_ rfl;have z1:=hb.frozen 1;have hb1:=hb.set_ 1 (.slice none 0 0);have hb2:=hb1.set_ 2 (.slice none 0 0);have c2:(w.setCell ⟨g,1,none⟩ (.slice none 0 0)).cell? ⟨g,2,none⟩=some (.slice V L.addrs.length d):=hb1.some_ rfl;have z2:=hb1.frozen 2;have c3:((w.setCell ⟨g,1,none⟩ (.slice none 0 0)).setCell ⟨g,2,none⟩ (.slice none 0 0)).cell? ⟨g,3,none⟩=some (.slice X L.idx.length e):=hb2.some_ rfl;have hc2:Chg [g] w ((w.setCell ⟨g,1,none⟩ (.slice none 0 0)).setCell ⟨g,2,none⟩ (.slice none 0 0)):=((Chg.refl _ _).setCell (.inl (by simp)) _).setCell (.inl (by simp)) _;have h3':=Z0m h3 hc2 (fun k hk hk2=>gX (by rw[List.mem_singleton.1 hk2] at hk;exact hk));have hmem:gx∈fp/\g∈fp:=by rw[hfp];simp[hgx]
 have hsub:∀b ∈ [g,gx],b∈fp:=fun b hb=>by
  rcases List.mem_cons.1 hb with h|h
  ·rw[h];exact hmem.2
  ·rw[List.mem_singleton.1 h];exact hmem.1
 subst hX;have hrow:Hid (∀w',∀q,Chg [g,gx] w w'->Blk w' g 227 #[.int .i64 L.cap,.slice none 0 0,.slice none 0 0,.slice (some ⟨gx,0,none⟩) L.idx.length e]->w'.ownsRow 0 3 1 (.slice (some ⟨gx,0,none⟩) L.idx.length e) L.idx.length ((List.replicate L.idx.length (-1)).map (Value.int .i64))->q=w' ->
   ∃fp',LogAt 227 q fp' g (Z31 L)/\Chg fp w q/\∀b∈fp',b∈fp):=hid (by
  rintro w' q hc hB hR rfl;refine⟨[g,gx],⟨none,0,none,0,some ⟨gx,0,none⟩,e,?_,World.ownsRow_nil _ _ _ _,World.ownsRow_nil _ _ _ _,?_,?_,?_⟩,hc.mono (fun x hx=>.inl (hsub x hx)),hsub⟩
  ·simpa [Z31] using hB
  ·simpa [Z31] using hR
  ·intro k hk;simp[Z29,Z31] at hk
  ·simp[Z29,Z0x,Z31])
 obtain⟨p,hp⟩:∃p,p=L.idx.length:=⟨_,rfl⟩;obtain⟨n,hn⟩:∃n,n=L.addrs.length:=⟨_,rfl⟩;rw[<- hp] at c3 p64 hrow h3' hb2;rw[<- hn] at c1 c2;have Hp:=hid hp;have hc3:=hc2.mono (T:=[g,gx]) (fun x hx=>.inl (by simp at hx |-;exact .inl hx));have hb3:=hid hb2;clear hb hb1 hb2 h h1 h2 h3 h4 hfp hsub hmem hp hn hgx gX hc2;go_enter Tryz.func218,Tryz.ntmps218;go_wp2_with fail;go_loopw [16,2] (fun i _ wr=>∃k:Nat,k<=p/\i = .int .i64 k/\wr.ownsRow 0 3 1 (.slice (some ⟨gx,0,none⟩) p e) p ((Z1d k L.idx).map (Value.int .i64))/\Chg [g,gx] w wr/\Blk wr g 227 #[.int .i64 L.cap,.slice none 0 0,.slice none 0 0,.slice (some ⟨gx,0,none⟩) p e]) (fun i _ _=>p - (intOf i).toNat)
 case atStart=>exact⟨0,Nat.zero_le _,rfl,by simpa [Z1d] using h3',hc3,hb3.out⟩
 case round =>
  obtain⟨k,hk,rfl,ho,hc,hB⟩:=hrel;clear c1 c2 c3 z1 z2 h3' hc3 hb3;have d3:wr.cell? ⟨g,3,none⟩=some (.slice (some ⟨gx,0,none⟩) p e):=hB.some_ rfl
  by_cases hlt:k<p
  ·obtain⟨g',hg,_,hcell,hfr,hst⟩:=Z52 ho hlt
   injection hg with hg
   injection hg with hg
   subst hg;obtain⟨u0,hu0⟩:∃u,wr.cell? ⟨gx,k,none⟩=some u:=⟨_,hcell.trans (List.getElem?_eq_getElem (by simp[Z80 (xs:=L.idx) (k:=k) (by rw[<- Hp.out];exact hk),<- Hp.out];exact hlt))⟩;have hnew:(wr.setCell ⟨gx,k,none⟩ (.int .i64 (-1))).ownsRow 0 3 1 (.slice (some ⟨gx,0,none⟩) p e) p ((Z1d (k+1) L.idx).map (Value.int .i64)):=by
    have h9:=hst (.int .i64 (-1));rwa [<- List.map_set,Z7z (by rw[<- Hp.out];exact hlt)] at h9
   have hcn:Chg [g,gx] w (wr.setCell ⟨gx,k,none⟩ (.int .i64 (-1))):=hc.setCell (.inl (by simp)) _;have hBn:=hB.far (p:=⟨gx,k,none⟩) gne (.int .i64 (-1));have HN:=hid (And.intro hnew (And.intro hcn hBn));have e1:(k:Int)<(p:Int):=by omega
   have e2:(0:Int)<=(k:Int):=by omega
   have e3:decide ((k:Int)<(p:Int))=true:=by simpa using hlt
   clear hnew hcn hBn hst hcell ho hc hB;go_wp2_with fail;go_roundw
   case rel=>exact⟨k+1,by omega,rfl,HN.out.1,HN.out.2.1,HN.out.2.2⟩
   case measure=>simp[intOf];omega
  ·have hkp:k=p:=by omega
   subst hkp;have e3:decide ((k:Int)<(k:Int))=false:=by simp
   have hfin:=hrow.out wr wr hc hB (by have h9:=ho;rw[Hp.out,Z81] at h9;rw[Hp.out];exact h9) rfl;have HF:=hid hfin;clear hfin ho hc hB hrow;go_wp2_with fail
   go_end0
   exact⟨rfl,HF.out⟩
def Z59 (c:Int):Nat:=(max 0 (min c 32)).toNat
theorem Z4c (c:Int):Z59 c<=32:=by unfold Z59;omega
def newL (c:Int):PL:=Z27 (Z59 c) (Z7d (Z59 c))
theorem Zg7 (c:Int):Inv (newL c):=Zeq (Z4c c) (Zbk (Z4c c)).1 (Zbk (Z4c c)).2.1
theorem Z7c {p n:Nat} (hn:n<=32) (hp:p=1\/p=2\/p=4\/p=8\/p=16\/p=32\/p=64) (h1:p=1\/p<4*n) (h2:¬ p<2*n):p=Z7d n:=by
 unfold Z7d;rcases hp with rfl|rfl|rfl|rfl|rfl|rfl|rfl <;> (repeat' split) <;> omega
def Z6k (w:World) (c:Int) (e:Ending) (w':World):Prop:=∃g fp,e = .returned (.pointer (some ⟨g,0,none⟩))/\LogAt 227 w' fp g (newL c)/\Chg [] w w'/\∀b∈fp,w.heap.size<=b
theorem Zfw (w:World) (c:Int):Calls Tryz.prog 188 #[.int .i64 c] w (Z6k w c):=by
 obtain⟨i0,hi,hz0,hz1,hz2⟩:=info_parts Z1i;obtain⟨n,hn⟩:∃n,n=Z59 c:=⟨_,rfl⟩;have n32:n<=32:=by rw[hn];exact Z4c c
 have Hc:=hid hn;have hfin:∀w' fp p,p=Z7d n->LogAt 227 w' fp w.heap.size (Z27 n p)->Chg [] w w'->(∀b∈fp,w.heap.size<=b)->Z6k w c (.returned (.pointer (some ⟨w.heap.size,0,none⟩))) w':=fun w' fp p hp h1 h2 h3=>⟨_,fp,rfl,by unfold newL;rw[<- hn,<- hp];exact h1,h2,h3⟩;have HF:=hid hfin;clear hfin;have key:∀W,W=w.alloc (.cells #[.int .i64 (n:Int),.slice none 0 0,.slice none 0 0,.slice none 0 0] 227)->Blk W w.heap.size 227 #[.int .i64 (n:Int),.slice none 0 0,.slice none 0 0,.slice none 0 0]/\Chg [] w W:=by
  rintro W rfl;exact⟨Blk.new _ _ _,(Chg.refl _ _).alloc _⟩
 have made:∀r:Nat,(madeCells #[Value.int .i64 0] r).toList=(List.replicate r (0:Int)).map (Value.int .i64):=fun r=>by rw[toList_madeCells_one];simp
 by_cases h1:32<c
 ·have hm : (32:Int)=(n:Int):=by rw[hn];unfold Z59;omega
  clear hn;go_enter Tryz.func188,Tryz.ntmps188;go_wp2_with fail
  try rw[hm]
  generalize hW:World.alloc w _=W;obtain⟨hB,hC⟩:=key W (by rw[<- hW];try rfl);clear hW key;have c0:=hB.some_ (i:=0) rfl
  go_loop [4] (fun v=>∃p:Nat,v = .int .i64 p/\(p=1\/p=2\/p=4\/p=8\/p=16\/p=32\/p=64)/\(p=1\/p<4*n)) (fun v=>64 - (intOf v).toNat)
  case atStart=>exact⟨1,rfl,by omega,by omega⟩
  case round =>
   obtain⟨p,rfl,hp,hp4⟩:=hrel;have p64:p<=64:=by omega
   have p0:0<p:=by omega
   by_cases hlt:p<2*n
   ·have e1:decide ((p:Int)<2*((n:Nat):Int))=true:=decide_eq_true (by omega)
    clear hB hC;go_wp2_with fail
    go_round
    case rel=>exact⟨p*2,by simp,by omega,by omega⟩
    case measure=>simp[intOf];omega
   ·have e1:decide ((p:Int)<2*((n:Nat):Int))=false:=decide_eq_false (by omega)
    have hps:=hid (Z7c n32 hp hp4 hlt);clear hp hp4;go_wp2_with (at_make;refine wpList_make_full _ rfl _ _ 23 rfl 0 3 i0 (.int .i64 0) 1 Tryz.underlying23 hi hz0 hz1 .i64 .i64 (p:Int) (p:Int) p rfl rfl rfl rfl (by rw[hz2];omega) (by unfold maxLen;omega) (Nat.zero_le _) ?_);intro w1 hown hgrow;have hrow:w1.ownsRow 0 3 1 (.slice (some ⟨W.heap.size,0,none⟩) p p) p ((List.replicate p (0:Int)).map (Value.int .i64)):=by simpa using hown
    have hC1:Chg [] W w1:=(Chg.refl _ _).grown hgrow (by simp);have hB1:=hB.chg hC1 (by simp);have hlt1:=hB.lt;have hBs:=hB1.set_ 3 (.slice (some ⟨W.heap.size,0,none⟩) p p);have hCs:Chg [w.heap.size] w1 (w1.setCell ⟨w.heap.size,3,none⟩ (.slice (some ⟨W.heap.size,0,none⟩) p p)):=(Chg.refl _ _).setCell (.inl (by simp)) _;have hrs:=Z0m hrow hCs (fun k hk hk2=>by rw[Z0x] at hk;simp at hk hk2;omega);have hL0:LogAt 227 (w1.setCell ⟨w.heap.size,3,none⟩ (.slice (some ⟨W.heap.size,0,none⟩) p p)) [w.heap.size,W.heap.size] w.heap.size ⟨n,[],[],List.replicate p 0⟩:=by
     refine⟨none,0,none,0,some ⟨W.heap.size,0,none⟩,p,?_,World.ownsRow_nil _ _ _ _,World.ownsRow_nil _ _ _ _,?_,?_,?_⟩
     ·simpa using hBs
     ·simpa using hrs
     ·intro k hk;simp[Z29] at hk
     ·simp[Z29,Z0x]
    have hCw:Chg [w.heap.size,W.heap.size] w (w1.setCell ⟨w.heap.size,3,none⟩ (.slice (some ⟨W.heap.size,0,none⟩) p p)):=((hC.trans' hC1).mono (fun x hx=>by cases hx)).setCell (.inl (by simp)) _;have hF2:Hid (∀w' fp',LogAt 227 w' fp' w.heap.size (Z31 ⟨n,[],[],List.replicate p 0⟩)->Chg [w.heap.size,W.heap.size] (w1.setCell ⟨w.heap.size,3,none⟩ (.slice (some ⟨W.heap.size,0,none⟩) p p)) w'->(∀b∈fp',b ∈ [w.heap.size,W.heap.size])->Z6k w c (.returned (.pointer (some ⟨w.heap.size,0,none⟩))) w'):=hid (by
     intro w' fp' hL hc hs;have hge:∀b ∈ [w.heap.size,W.heap.size],w.heap.size<=b:=fun b hb=>by
      simp at hb;rcases hb with h|h <;> omega
     refine HF.out w' fp' p hps.out ?_ ((hCw.trans hc (fun x hx=>.inl hx)).fresh hge) (fun b hb=>hge b (hs b hb));simpa [Z31,Z27] using hL)
    have d3:=hB1.some_ (i:=3) (u:=.slice none 0 0) rfl;have z3:=hB1.frozen 3;clear hrow hC1 hB1 hBs hCs hrs hCw hown hgrow hB hC c0;go_wp2_with fail;refine(Z64 _ _ _ _ hL0 (by simpa using p0) (by simpa using p64)).mono ?_;rintro e w' ⟨rfl,fp',hL,hc,hs⟩;go_wp2_with fail;go_ret;exact hF2.out w' fp' hL hc hs
 ·by_cases h2:0<c
  ·have hm : c=(n:Int):=by rw[hn];unfold Z59;omega
   clear hn;subst hm;go_enter Tryz.func188,Tryz.ntmps188;go_wp2_with fail;generalize hW:World.alloc w _=W;obtain⟨hB,hC⟩:=key W (by rw[<- hW];try rfl);clear hW key;have c0:=hB.some_ (i:=0) rfl
   go_loop [4] (fun v=>∃p:Nat,v = .int .i64 p/\(p=1\/p=2\/p=4\/p=8\/p=16\/p=32\/p=64)/\(p=1\/p<4*n)) (fun v=>64 - (intOf v).toNat)
   case atStart=>exact⟨1,rfl,by omega,by omega⟩
   case round =>
    obtain⟨p,rfl,hp,hp4⟩:=hrel;have p64:p<=64:=by omega
    have p0:0<p:=by omega
    by_cases hlt:p<2*n
    ·have e1:decide ((p:Int)<2*((n:Nat):Int))=true:=decide_eq_true (by omega)
     clear hB hC;go_wp2_with fail
     go_round
     case rel=>exact⟨p*2,by simp,by omega,by omega⟩
     case measure=>simp[intOf];omega
    ·have e1:decide ((p:Int)<2*((n:Nat):Int))=false:=decide_eq_false (by omega)
     have hps:=hid (Z7c n32 hp hp4 hlt);clear hp hp4;go_wp2_with (at_make;refine wpList_make_full _ rfl _ _ 23 rfl 0 3 i0 (.int .i64 0) 1 Tryz.underlying23 hi hz0 hz1 .i64 .i64 (p:Int) (p:Int) p rfl rfl rfl rfl (by rw[hz2];omega) (by unfold maxLen;omega) (Nat.zero_le _) ?_);intro w1 hown hgrow;have hrow:w1.ownsRow 0 3 1 (.slice (some ⟨W.heap.size,0,none⟩) p p) p ((List.replicate p (0:Int)).map (Value.int .i64)):=by simpa using hown
     have hC1:Chg [] W w1:=(Chg.refl _ _).grown hgrow (by simp);have hB1:=hB.chg hC1 (by simp);have hlt1:=hB.lt;have hBs:=hB1.set_ 3 (.slice (some ⟨W.heap.size,0,none⟩) p p);have hCs:Chg [w.heap.size] w1 (w1.setCell ⟨w.heap.size,3,none⟩ (.slice (some ⟨W.heap.size,0,none⟩) p p)):=(Chg.refl _ _).setCell (.inl (by simp)) _;have hrs:=Z0m hrow hCs (fun k hk hk2=>by rw[Z0x] at hk;simp at hk hk2;omega);have hL0:LogAt 227 (w1.setCell ⟨w.heap.size,3,none⟩ (.slice (some ⟨W.heap.size,0,none⟩) p p)) [w.heap.size,W.heap.size] w.heap.size ⟨n,[],[],List.replicate p 0⟩:=by
      refine⟨none,0,none,0,some ⟨W.heap.size,0,none⟩,p,?_,World.ownsRow_nil _ _ _ _,World.ownsRow_nil _ _ _ _,?_,?_,?_⟩
      ·simpa using hBs
      ·simpa using hrs
      ·intro k hk;simp[Z29] at hk
      ·simp[Z29,Z0x]
     have hCw:Chg [w.heap.size,W.heap.size] w (w1.setCell ⟨w.heap.size,3,none⟩ (.slice (some ⟨W.heap.size,0,none⟩) p p)):=((hC.trans' hC1).mono (fun x hx=>by cases hx)).setCell (.inl (by simp)) _;have hF2:Hid (∀w' fp',LogAt 227 w' fp' w.heap.size (Z31 ⟨n,[],[],List.replicate p 0⟩)->Chg [w.heap.size,W.heap.size] (w1.setCell ⟨w.heap.size,3,none⟩ (.slice (some ⟨W.heap.size,0,none⟩) p p)) w'->(∀b∈fp',b ∈ [w.heap.size,W.heap.size])->Z6k w (n:Int) (.returned (.pointer (some ⟨w.heap.size,0,none⟩))) w'):=hid (by
      intro w' fp' hL hc hs;have hge:∀b ∈ [w.heap.size,W.heap.size],w.heap.size<=b:=fun b hb=>by
       simp at hb;rcases hb with h|h <;> omega
      refine HF.out w' fp' p hps.out ?_ ((hCw.trans hc (fun x hx=>.inl hx)).fresh hge) (fun b hb=>hge b (hs b hb));simpa [Z31,Z27] using hL)
     have d3:=hB1.some_ (i:=3) (u:=.slice none 0 0) rfl;have z3:=hB1.frozen 3;clear hrow hC1 hB1 hBs hCs hrs hCw hown hgrow hB hC c0;go_wp2_with fail;refine(Z64 _ _ _ _ hL0 (by simpa using p0) (by simpa using p64)).mono ?_;rintro e w' ⟨rfl,fp',hL,hc,hs⟩;go_wp2_with fail;go_ret;exact hF2.out w' fp' hL hc hs
  ·have hm : (0:Int)=(n:Int):=by rw[hn];unfold Z59;omega
   obtain rfl:n=0:=by omega
   clear hn hm;go_enter Tryz.func188,Tryz.ntmps188;go_wp2_with fail;generalize hW:World.alloc w _=W;obtain⟨hB,hC⟩:=key W (by rw[<- hW];try rfl);clear hW key;have c0:=hB.some_ (i:=0) rfl
   go_loop [4] (fun v=>∃p:Nat,v = .int .i64 p/\(p=1\/p=2\/p=4\/p=8\/p=16\/p=32\/p=64)/\(p=1\/p<4*0)) (fun v=>64 - (intOf v).toNat)
   case atStart=>exact⟨1,rfl,by omega,by omega⟩
   case round =>
    obtain⟨p,rfl,hp,hp4⟩:=hrel;have p64:p<=64:=by omega
    have p0:0<p:=by omega
    by_cases hlt:p<2*0
    ·exfalso;omega
    ·have e1:decide ((p:Int)<2*((0:Nat):Int))=false:=decide_eq_false (by omega)
     have e2:decide ((p:Int)<0)=false:=decide_eq_false (by omega);have hps:=hid (Z7c n32 hp hp4 hlt);clear hp hp4;go_wp2_with (at_make;refine wpList_make_full _ rfl _ _ 23 rfl 0 3 i0 (.int .i64 0) 1 Tryz.underlying23 hi hz0 hz1 .i64 .i64 (p:Int) (p:Int) p rfl rfl rfl rfl (by rw[hz2];omega) (by unfold maxLen;omega) (Nat.zero_le _) ?_);intro w1 hown hgrow;have hrow:w1.ownsRow 0 3 1 (.slice (some ⟨W.heap.size,0,none⟩) p p) p ((List.replicate p (0:Int)).map (Value.int .i64)):=by simpa using hown
     have hC1:Chg [] W w1:=(Chg.refl _ _).grown hgrow (by simp);have hB1:=hB.chg hC1 (by simp);have hlt1:=hB.lt;have hBs:=hB1.set_ 3 (.slice (some ⟨W.heap.size,0,none⟩) p p);have hCs:Chg [w.heap.size] w1 (w1.setCell ⟨w.heap.size,3,none⟩ (.slice (some ⟨W.heap.size,0,none⟩) p p)):=(Chg.refl _ _).setCell (.inl (by simp)) _;have hrs:=Z0m hrow hCs (fun k hk hk2=>by rw[Z0x] at hk;simp at hk hk2;omega);have hL0:LogAt 227 (w1.setCell ⟨w.heap.size,3,none⟩ (.slice (some ⟨W.heap.size,0,none⟩) p p)) [w.heap.size,W.heap.size] w.heap.size ⟨0,[],[],List.replicate p 0⟩:=by
      refine⟨none,0,none,0,some ⟨W.heap.size,0,none⟩,p,?_,World.ownsRow_nil _ _ _ _,World.ownsRow_nil _ _ _ _,?_,?_,?_⟩
      ·simpa using hBs
      ·simpa using hrs
      ·intro k hk;simp[Z29] at hk
      ·simp[Z29,Z0x]
     have hCw:Chg [w.heap.size,W.heap.size] w (w1.setCell ⟨w.heap.size,3,none⟩ (.slice (some ⟨W.heap.size,0,none⟩) p p)):=((hC.trans' hC1).mono (fun x hx=>by cases hx)).setCell (.inl (by simp)) _;have hF2:Hid (∀w' fp',LogAt 227 w' fp' w.heap.size (Z31 ⟨0,[],[],List.replicate p 0⟩)->Chg [w.heap.size,W.heap.size] (w1.setCell ⟨w.heap.size,3,none⟩ (.slice (some ⟨W.heap.size,0,none⟩) p p)) w'->(∀b∈fp',b ∈ [w.heap.size,W.heap.size])->Z6k w c (.returned (.pointer (some ⟨w.heap.size,0,none⟩))) w'):=hid (by
      intro w' fp' hL hc hs;have hge:∀b ∈ [w.heap.size,W.heap.size],w.heap.size<=b:=fun b hb=>by
       simp at hb;rcases hb with h|h <;> omega
      refine HF.out w' fp' p hps.out ?_ ((hCw.trans hc (fun x hx=>.inl hx)).fresh hge) (fun b hb=>hge b (hs b hb));simpa [Z31,Z27] using hL)
     have d3:=hB1.some_ (i:=3) (u:=.slice none 0 0) rfl;have z3:=hB1.frozen 3;clear hrow hC1 hB1 hBs hCs hrs hCw hown hgrow hB hC c0;go_wp2_with fail;refine(Z64 _ _ _ _ hL0 (by simpa using p0) (by simpa using p64)).mono ?_;rintro e w' ⟨rfl,fp',hL,hc,hs⟩;go_wp2_with fail;go_ret;exact hF2.out w' fp' hL hc hs
end Go.Proofs.YtmlfangeanmmeaaGreatDoor
