/-
 What the proof of TopAlone leans on, part 5 of 49: Redo, Redo2. No statement of its own.
-/
import Derived.Test.YtmlfangeanmmeaaGreatDoorAm1
import Derived.Test.YtmlfangeanmmeaaGreatDoorAm3
import Derived.Test.YtmlfangeanmmeaaGreatDoorAm4
import Derived.Deep.LoopGhost
set_option maxHeartbeats 16000000
set_option maxRecDepth 8000
set_option linter.unusedVariables false
namespace Go.Proofs.YtmlfangeanmmeaaGreatDoor
open Go.RowKit
structure LogAt (T:TypeId) (w:World) (fp:List Nat) (g:Nat) (L:PL):Prop where
 ex:∃A c V d X e,Blk w g T #[.int .i64 L.cap,.slice A L.addrs.length c,.slice V L.addrs.length d,.slice X L.idx.length e] /\
  w.ownsRow 0 3 1 (.slice A L.addrs.length c) L.addrs.length (L.addrs.map (Value.int .i64)) /\
  w.ownsRow 0 34 1 (.slice V L.addrs.length d) L.addrs.length (L.vals.map (Value.int .u64)) /\
  w.ownsRow 0 3 1 (.slice X L.idx.length e) L.idx.length (L.idx.map (Value.int .i64)) /\
  (∀k∈fpV (.slice A L.addrs.length c),k ∉ fpV (.slice X L.idx.length e)) /\
  fp=g::(fpV (.slice A L.addrs.length c)++(fpV (.slice V L.addrs.length d)++fpV (.slice X L.idx.length e)))
section
variable {T:TypeId} {w w':World} {fp S:List Nat} {g:Nat} {L:PL}
theorem LogAt.chg (h:LogAt T w fp g L) (hc:Chg S w w') (hd:∀b∈fp,b ∉ S):LogAt T w' fp g L:=by
 obtain⟨A,c,V,d,X,e,hb,h1,h2,h3,h4,rfl⟩:=h.ex;exact⟨A,c,V,d,X,e,hb.chg hc (hd g (by simp)),Z0m h1 hc (fun k hk=>hd k (by simp[hk])),Z0m h2 hc (fun k hk=>hd k (by simp[hk])),Z0m h3 hc (fun k hk=>hd k (by simp[hk])),h4,rfl⟩
theorem LogAt.drewN (h:LogAt T w fp g L) (n:Nat):LogAt T (w.drewN n) fp g L:=⟨h.ex⟩
theorem LogAt.lt (h:LogAt T w fp g L):∀b∈fp,b<w.heap.size:=by
 obtain⟨A,c,V,d,X,e,hb,h1,h2,h3,h4,rfl⟩:=h.ex;intro b hb';rcases List.mem_cons.1 hb' with rfl|h
 ·exact hb.lt
 ·rcases List.mem_append.1 h with h|h
  ·exact Z2x h1 b h
  ·rcases List.mem_append.1 h with h|h
   ·exact Z2x h2 b h
   ·exact Z2x h3 b h
end
def Zdw (p h k:Nat):Nat:=(k+p - h)%p
theorem Z6s {idx:List Int} (hp:0<idx.length) (a:Int) {t:Nat} (ht:t<idx.length):Zdw idx.length (home idx.length a) (spot idx a t)=t:=by
 have hh:=Zai hp a;unfold Zdw spot
 by_cases h:home idx.length a+t<idx.length
 ·rw[Nat.mod_eq_of_lt h,show home idx.length a+t+idx.length - home idx.length a=t+idx.length by omega,Nat.add_mod_right,Nat.mod_eq_of_lt ht]
 ·have e:(home idx.length a+t)%idx.length=home idx.length a+t - idx.length:=by rw[Nat.mod_eq_sub_mod (by omega),Nat.mod_eq_of_lt (by omega)]
  rw[e,show home idx.length a+t - idx.length+idx.length - home idx.length a=t by omega,Nat.mod_eq_of_lt ht]
def Ends (L:PL) (a:Int) (t:Nat):Prop :=
 t<L.idx.length/\(ix L.idx (spot L.idx a t)<0\/adr L (ix L.idx (spot L.idx a t)).toNat=a) /\
  ∀s,s<t->0<=ix L.idx (spot L.idx a s)/\adr L (ix L.idx (spot L.idx a s)).toNat≠a
theorem Z43 {k:IntKind} {zs:List Int} {i:Nat} (h:i<zs.length):(zs.map (Value.int k))[i]?=some (.int k (zs.getD i 0)):=by
 simp[List.getD,List.getElem?_eq_getElem h]
def Z6j (w:World) (L:PL) (a:Int) (e:Ending) (w':World):Prop:=∃t,Ends L a t/\e = .returned (.int .i64 (spot L.idx a t:Nat))/\∃q,w'=w.drewN q
theorem Z63 (w:World) (fp:List Nat) (g:Nat) (L:PL) (a:Int) (h:LogAt 227 w fp g L) (H:Inv L) (ha:0<=a) :
  Calls Tryz.prog 184 #[.pointer (some ⟨g,0,none⟩),.int .i64 a] w (Z6j w L a):=by
 obtain⟨A,c,V,d,X,e,hb,h1,h2,h3,h4,hfp⟩:=h.ex;clear hfp h4 h2 h;have c1:w.cell? ⟨g,1,none⟩=some (.slice A L.addrs.length c):=hb.some_ rfl;have c3:w.cell? ⟨g,3,none⟩=some (.slice X L.idx.length e):=hb.some_ rfl;clear hb;obtain⟨p,hp⟩:∃p,p=L.idx.length:=⟨_,rfl⟩;obtain⟨n,hn⟩:∃n,n=L.addrs.length:=⟨_,rfl⟩;have hp0:0<p:=by rw[hp];exact H.pos
 have hp64:p<=64:=by rw[hp];exact H.p64
 have hn32:n<=32:=by rw[hn];have:=H.le;have:=H.cap32;omega
 have hhome:a%(p:Int)*5%(p:Int)=((home p a:Nat):Int):=by
  unfold home;have h2:=Int.emod_nonneg (a%(p:Int)*5) (show (p:Int)≠0 by omega);omega
 have hm0:0<=a%(p:Int):=Int.emod_nonneg a (by omega);have hm1:a%(p:Int)<p:=Int.emod_lt_of_pos a (by omega);have hz:((p:Int)==0)=false:=beq_eq_false_iff_ne.2 (by omega);have hspot0:spot L.idx a 0=home p a:=by rw[hp];exact Zde H.pos a
 rw[<- hp] at c3 h3;rw[<- hn] at c1 h1;have Hp:=hid hp;have Hn:=hid hn;have Hh:=hid hhome;have Hs0:=hid hspot0;obtain⟨t0,ht0,hneg⟩:=H.holeAt a;rw[<- hp] at ht0;have Hneg:=hid hneg;clear hp hn hhome hspot0 hneg;go_enter Tryz.func184,Tryz.ntmps184;go_wp2_with fail;go_quiet (fail);rw[Hh.out,<- Hs0.out];go_wp2_with fail;clear hm0 hm1 hz;go_loopw [5] (fun v wr=>∃t q:Nat,v = .int .i64 (spot L.idx a t:Nat)/\wr=w.drewN q/\t<=t0/\∀s,s<t->0<=ix L.idx (spot L.idx a s)/\adr L (ix L.idx (spot L.idx a s)).toNat≠a) (fun v _=>p - Zdw p (home p a) (intOf v).toNat)
 case atStart=>exact⟨0,nq,rfl,rfl,Nat.zero_le _,fun s hs=>by omega⟩
 case round =>
  obtain⟨t,q,rfl,rfl,htl,hbef⟩:=hrel;have hk:=Z1o H.pos a t;rw[<- Hp.out] at hk;have hoff:Zdw p (home p a) (spot L.idx a t)=t:=by rw[Hp.out];exact Z6s H.pos a (by rw[<- Hp.out];omega)
  have hsucc:(spot L.idx a t+1)%p=spot L.idx a (t+1):=by rw[Hp.out];exact(Zdf _ _ _).symm
  have hrg:=H.rng (spot L.idx a t) (by rw[<- Hp.out];exact hk);rw[<- Hn.out] at hrg;obtain⟨gx,hX,_,hcx,_,_⟩:=Z52 h3 hk;rw[Z43 (by rw[<- Hp.out];exact hk)] at hcx;have hcx':w.cell? ⟨gx,spot L.idx a t,none⟩=some (.int .i64 (ix L.idx (spot L.idx a t))):=hcx;clear hcx;obtain⟨k,hkk⟩:∃k,k=spot L.idx a t:=⟨_,rfl⟩;obtain⟨j,hj⟩:∃j,j=ix L.idx k:=⟨_,rfl⟩;rw[<- hkk] at hk hoff hsucc hrg hcx' |-;rw[<- hj] at hrg hcx';have Hoff:=hid hoff;have Hsucc:=hid hsucc;have Hk:=hid hkk;have Hj:=hid hj;have Hb:=hid hbef;subst hX;clear hoff hsucc hkk hj hbef;have hdk:(0:Int)<=(k:Int):=by omega
  have hdk2:(k:Int)<(p:Int):=by omega
  by_cases hj0:0<=j
  ·obtain⟨m,rfl⟩:∃m:Nat,j=m:=⟨j.toNat,by omega⟩
   have hmn:m<n:=by omega
   obtain⟨ga,hA,_,hca,_,_⟩:=Z52 h1 hmn;rw[Z43 (by rw[<- Hn.out];exact hmn)] at hca;have hca':w.cell? ⟨ga,m,none⟩=some (.int .i64 (adr L m)):=hca;subst hA;clear hca;obtain⟨y,hy⟩:∃y,y=adr L m:=⟨_,rfl⟩;rw[<- hy] at hca';have Hy:=hid hy;clear hy;have hmn2:(m:Int)<(n:Int):=by omega
   by_cases hya:y=a
   ·have e1:(y != a)=false:=by simpa using hya
    have hfin:∀q',Z6j w L a (.returned (.int .i64 k)) (w.drewN q'):=fun q'=>⟨t,⟨by rw[<- Hp.out];omega,.inr (by rw[<- Hk.out,<- Hj.out];simp;rw[<- Hy.out];exact hya),Hb.out⟩,by rw[Hk.out],q',rfl⟩;have HF:=hid hfin;clear hfin hya;go_wp2_with fail;go_quiet (fail);go_wp2_with fail;go_ret
    first|exact HF.out _|(rw[World.drewN_drewN];exact HF.out _)
   ·have e1:(y != a)=true:=by simpa using hya
    have hlt:t<t0:=by
     rcases Nat.lt_or_ge t t0 with h|h
     ·exact h
     ·obtain rfl:t=t0:=by omega
      have:=Hneg.out;rw[<- Hk.out,<- Hj.out] at this;omega
    have hnx:(((k:Int)+1)%(p:Int))=((spot L.idx a (t+1):Nat):Int):=by rw[<- Hsucc.out];simp
    have hst:0<=ix L.idx (spot L.idx a t)/\adr L (ix L.idx (spot L.idx a t)).toNat≠a:=by
     rw[<- Hk.out,<- Hj.out];exact⟨by omega,by simp;rw[<- Hy.out];exact hya⟩
    have hoff2:Zdw p (home p a) (spot L.idx a (t+1))=t+1:=by rw[Hp.out];exact Z6s H.pos a (by rw[<- Hp.out];omega)
    have Hnx:=hid hnx;have Hst:=hid hst;have Hoff2:=hid hoff2;clear hnx hst hya hoff2;go_wp2_with fail;go_quiet (fail);go_wp2_with fail;rw[Hnx.out];go_roundw
    case rel=>exact⟨t+1,_,rfl,(by first|rfl|exact World.drewN_drewN _ _ _),by omega,fun s hs=>by
     rcases Nat.lt_or_ge s t with h|h
     ·exact Hb.out s h
     ·obtain rfl:s=t:=by omega
      exact Hst.out⟩
    case measure =>
     have:=Hoff.out;have:=Hoff2.out;simp only[intOf,Int.toNat_natCast];omega
  ·have hdj:decide (0<=j)=false:=by simp;omega
   have hfin:∀q',Z6j w L a (.returned (.int .i64 k)) (w.drewN q'):=fun q'=>⟨t,⟨by rw[<- Hp.out];omega,.inl (by rw[<- Hk.out,<- Hj.out];omega),Hb.out⟩,by rw[Hk.out],q',rfl⟩;have HF:=hid hfin;clear hfin;go_wp2_with fail;go_quiet (fail);go_wp2_with fail;go_ret
   first|exact HF.out _|(rw[World.drewN_drewN];exact HF.out _)
theorem Z1v {w:World} {b1 b2 e1 e2 s1 s2 n1 n2:Nat} {v1 v2:Value} {xs ys:List Value} (h:w.ownsRow b1 e1 s1 v1 n1 xs) (h':w.ownsRow b2 e2 s2 v2 n2 ys) (hne:e1≠e2):∀k∈fpV v1,k ∉ fpV v2:=by
 intro k hk;rcases h.2 with⟨rfl,_⟩|⟨g,cap,cur,rfl,_,hh,_⟩
 ·simp[Z29] at hk
 ·rw[Z0x] at hk
  simp at hk;subst hk;exact Z16 h' (cs:=cur) (t:=e1) hh (fun e=>hne e.symm)
def Z2b (T:TypeId) (w:World) (fp:List Nat) (g:Nat) (L:PL) (a v:Int) (e:Ending) (w':World):Prop :=
 e = .returned (.bool (Z1y L a))/\∃fp',LogAt T w' fp' g (putL L a v)/\Chg fp w w'/\∀b∈fp',b∈fp\/w.heap.size<=b
theorem Zfz {L:PL} {a v:Int} (h:a<0):putL L a v=L:=if_pos h
theorem Zij {L:PL} {a v:Int} (h0:0<=a) (h:a∈L.addrs):putL L a v={L with vals:=L.vals.set (L.addrs.idxOf a) v}:=by unfold putL;rw[if_neg (by omega),if_pos h]
theorem Zfy {L:PL} {a v:Int} (h0:0<=a) (h:a ∉ L.addrs) (hr:L.addrs.length<L.cap) :
  putL L a v={L with addrs:=L.addrs++[a],vals:=L.vals++[v],idx:=L.idx.set (Za6 L.idx a) L.addrs.length}:=by unfold putL;rw[if_neg (by omega),if_neg h,if_pos hr]
theorem Zdm {L:PL} {a v:Int} (h0:0<=a) (h:a ∉ L.addrs) (hr:¬ L.addrs.length<L.cap):putL L a v=L:=by unfold putL;rw[if_neg (by omega),if_neg h,if_neg hr]
theorem Zj0 {T:TypeId} {w:World} {fp:List Nat} {g:Nat} {L:PL} {v:Int} {A V X:Option Addr} {c d e:Nat}
  (hb:Blk w g T #[.int .i64 L.cap,.slice A L.addrs.length c,.slice V L.addrs.length d,.slice X L.idx.length e]) (hT1:T≠3) (hT2:T≠34)
  (h1:w.ownsRow 0 3 1 (.slice A L.addrs.length c) L.addrs.length (L.addrs.map (Value.int .i64)))
  (h2:w.ownsRow 0 34 1 (.slice V L.addrs.length d) L.addrs.length (L.vals.map (Value.int .u64)))
  (h3:w.ownsRow 0 3 1 (.slice X L.idx.length e) L.idx.length (L.idx.map (Value.int .i64)))
  (h4:∀k∈fpV (.slice A L.addrs.length c),k ∉ fpV (.slice X L.idx.length e))
  (hfp:fp=g::(fpV (.slice A L.addrs.length c)++(fpV (.slice V L.addrs.length d)++fpV (.slice X L.idx.length e))))
  {i gv:Nat} (hV:V=some ⟨gv,0,none⟩) (hst:(w.setCell ⟨gv,i,none⟩ (.int .u64 v)).ownsRow 0 34 1 (.slice V L.addrs.length d) L.addrs.length ((L.vals.map (Value.int .u64)).set i (.int .u64 v))) :
  LogAt T (w.setCell ⟨gv,i,none⟩ (.int .u64 v)) fp g {L with vals:=L.vals.set i v}/\Chg fp w (w.setCell ⟨gv,i,none⟩ (.int .u64 v)):=by
 have hm:gv∈fpV (.slice V L.addrs.length d):=by subst hV;rw[Z0x];simp
 have hc:Chg [gv] w (w.setCell ⟨gv,i,none⟩ (.int .u64 v)):=(Chg.refl _ _).setCell (.inl (by simp)) _;have n1:∀k∈fpV (.slice A L.addrs.length c),k ∉ [gv]:=fun k hk hk2=>Z1v h1 h2 (by decide) k hk (by rw[List.mem_singleton.1 hk2];exact hm);have n3:∀k∈fpV (.slice X L.idx.length e),k ∉ [gv]:=fun k hk hk2=>Z1v h3 h2 (by decide) k hk (by rw[List.mem_singleton.1 hk2];exact hm);have ng:g ∉ [gv]:=fun hk=>Z16 h2 hb (fun e=>hT2 e.symm) (by rw[List.mem_singleton.1 hk];exact hm);refine⟨⟨A,c,V,d,X,e,hb.chg hc ng,Z0m h1 hc n1,?_,Z0m h3 hc n3,h4,hfp⟩,(hc.mono fun x hx=>.inl ?_)⟩
 ·rw[<- List.map_set] at hst;exact hst
 ·rw[List.mem_singleton.1 hx,hfp];simp[hm]
theorem Zaa {T:TypeId} {w U W3 W4' W4:World} {fp:List Nat} {g:Nat} {L:PL} {a v:Int} {A V X A' V':Option Addr} {c d e c' d':Nat} {ixs:List Int}
  (hb:Blk U g T #[.int .i64 L.cap,.slice A L.addrs.length c,.slice V L.addrs.length d,.slice X L.idx.length e]) (hT1:T≠3) (hT2:T≠34)
  (h1:U.ownsRow 0 3 1 (.slice A L.addrs.length c) L.addrs.length (L.addrs.map (Value.int .i64)))
  (h2:U.ownsRow 0 34 1 (.slice V L.addrs.length d) L.addrs.length (L.vals.map (Value.int .u64)))
  (h3:U.ownsRow 0 3 1 (.slice X L.idx.length e) L.idx.length (ixs.map (Value.int .i64)))
  (h4:∀k∈fpV (.slice A L.addrs.length c),k ∉ fpV (.slice X L.idx.length e))
  (hfp:fp=g::(fpV (.slice A L.addrs.length c)++(fpV (.slice V L.addrs.length d)++fpV (.slice X L.idx.length e))))
  (hlen:ixs.length=L.idx.length) (hwU:Chg fp w U)
  (k3:Chg (fpV (.slice A L.addrs.length c)) U W3) (o3:W3.ownsRow 0 3 1 (.slice A' (L.addrs.length+1) c') (L.addrs.length+1) (L.addrs.map (Value.int .i64)++[.int .i64 a])) (f3:∀k∈fpV (.slice A' (L.addrs.length+1) c'),k∈fpV (.slice A L.addrs.length c)\/U.heap.size<=k)
  (k4':Chg [] W3 W4')
  (k4:Chg (fpV (.slice V L.addrs.length d)) W4' W4) (o4:W4.ownsRow 0 34 1 (.slice V' (L.addrs.length+1) d') (L.addrs.length+1) (L.vals.map (Value.int .u64)++[.int .u64 v])) (f4:∀k∈fpV (.slice V' (L.addrs.length+1) d'),k∈fpV (.slice V L.addrs.length d)\/W4'.heap.size<=k) :
  W4.cell? ⟨g,1,none⟩=some (.slice A L.addrs.length c)/\W4.frozen? ⟨g,1,none⟩=false /\
  (W4.setCell ⟨g,1,none⟩ (.slice A' (L.addrs.length+1) c')).cell? ⟨g,2,none⟩=some (.slice V L.addrs.length d)/\(W4.setCell ⟨g,1,none⟩ (.slice A' (L.addrs.length+1) c')).frozen? ⟨g,2,none⟩=false /\
  ∃fp',LogAt T ((W4.setCell ⟨g,1,none⟩ (.slice A' (L.addrs.length+1) c')).setCell ⟨g,2,none⟩ (.slice V' (L.addrs.length+1) d')) fp' g {L with addrs:=L.addrs++[a],vals:=L.vals++[v],idx:=ixs} /\
   Chg fp w ((W4.setCell ⟨g,1,none⟩ (.slice A' (L.addrs.length+1) c')).setCell ⟨g,2,none⟩ (.slice V' (L.addrs.length+1) d'))/\∀b∈fp',b∈fp\/w.heap.size<=b:=by
 have sA:=Z2x h1;have sV:=Z2x h2;have sX:=Z2x h3;have sg:=hb.lt;have z3:=k3.size;have z4':=k4'.size;have z4:=k4.size;have zU:=hwU.size;have gA:g ∉ fpV (.slice A L.addrs.length c):=Z16 h1 hb (fun e=>hT1 e.symm);have gV:g ∉ fpV (.slice V L.addrs.length d):=Z16 h2 hb (fun e=>hT2 e.symm);have gX:g ∉ fpV (.slice X L.idx.length e):=Z16 h3 hb (fun e=>hT1 e.symm);have gA':g ∉ fpV (.slice A' (L.addrs.length+1) c'):=fun h=>by rcases f3 g h with h|h;exact gA h;omega
 have gV':g ∉ fpV (.slice V' (L.addrs.length+1) d'):=fun h=>by rcases f4 g h with h|h;exact gV h;omega
 have b4:Blk W4 g T #[.int .i64 L.cap,.slice A L.addrs.length c,.slice V L.addrs.length d,.slice X L.idx.length e]:=((hb.chg k3 gA).chg k4' (by simp)).chg k4 gV;have r1:W4.ownsRow 0 3 1 (.slice A' (L.addrs.length+1) c') (L.addrs.length+1) (L.addrs.map (Value.int .i64)++[.int .i64 a]):=Z0m (Z0m o3 k4' (fun _ _=>by simp)) k4 (fun k hk hk2=>by
  rcases f3 k hk with h|h
  ·exact Z1v h1 h2 (by decide) k h hk2
  ·have:=sV k hk2;omega)
 have r3:W4.ownsRow 0 3 1 (.slice X L.idx.length e) L.idx.length (ixs.map (Value.int .i64)):=Z0m (Z0m (Z0m h3 k3 (fun k hk hk2=>h4 k hk2 hk)) k4' (fun _ _=>by simp)) k4 (fun k hk hk2=>Z1v h3 h2 (by decide) k hk hk2);have hS:Chg [g] W4 ((W4.setCell ⟨g,1,none⟩ (.slice A' (L.addrs.length+1) c')).setCell ⟨g,2,none⟩ (.slice V' (L.addrs.length+1) d')):=((Chg.refl _ _).setCell (.inl (by simp)) _).setCell (.inl (by simp)) _;have b5:=b4.set_ 1 (.slice A' (L.addrs.length+1) c');have b6:=b5.set_ 2 (.slice V' (L.addrs.length+1) d');have hg1:∀k,k≠g->k ∉ [g]:=fun k hk h=>hk (List.mem_singleton.1 h);refine⟨b4.some_ rfl,b4.frozen 1,b5.some_ rfl,b5.frozen 2,g::(fpV (.slice A' (L.addrs.length+1) c')++(fpV (.slice V' (L.addrs.length+1) d')++fpV (.slice X L.idx.length e))),⟨A',c',V',d',X,e,?_,?_,?_,?_,?_,?_⟩,?_,?_⟩
 ·simpa [hlen] using b6
 ·simpa using Z0m r1 hS (fun k hk=>hg1 k (fun h=>gA' (h ▸ hk)))
 ·simpa using Z0m o4 hS (fun k hk=>hg1 k (fun h=>gV' (h ▸ hk)))
 ·simpa [hlen] using Z0m r3 hS (fun k hk=>hg1 k (fun h=>gX (h ▸ hk)))
 ·intro k hk hk2
  simp only[List.length_append,List.length_cons,List.length_nil,hlen] at hk hk2;rcases f3 k hk with h|h
  ·exact h4 k h hk2
  ·have:=sX k hk2;omega
 ·simp[hlen]
 ·refine hwU.trans ((((k3.trans k4' (by simp)).mono (T:=fp) (fun x hx=>.inl (by rw[hfp];simp[hx]))).trans k4 (fun x hx=>.inl (by rw[hfp];simp[hx]))).trans hS (fun x hx=>.inl (by rw[List.mem_singleton.1 hx,hfp];simp))) (fun x hx=>.inl hx)
 ·intro b hb'
  rw[hfp];rcases List.mem_cons.1 hb' with rfl|h
  ·simp
  ·rcases List.mem_append.1 h with h|h
   ·rcases f3 b h with h|h
    ·simp[h]
    ·right;omega
   ·rcases List.mem_append.1 h with h|h
    ·rcases f4 b h with h|h
     ·simp[h]
     ·right;omega
    ·simp[h]
end Go.Proofs.YtmlfangeanmmeaaGreatDoor
