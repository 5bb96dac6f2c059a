/-
 What the proof of TopAlone leans on, part 45 of 49: Zd, Ze, Zf, Zg, Zh, Zi. No statement of its own.
-/
import Derived.Test.YtmlfangeanmmeaaGreatDoorAm14
import Derived.Test.YtmlfangeanmmeaaGreatDoorAm17
import Derived.Test.YtmlfangeanmmeaaGreatDoorAm33
import Derived.Test.YtmlfangeanmmeaaGreatDoorAm34
import Derived.Test.YtmlfangeanmmeaaGreatDoorAm44
set_option maxHeartbeats 16000000
set_option maxRecDepth 8000
set_option linter.unusedVariables false
namespace Go.Proofs.YtmlfangeanmmeaaGreatDoor
open Go.RowKit
section
variable {w0 w:World} {R:Asr} {e:TypeId} {size n:Nat} {v:Value} {xs:List Value}
theorem Hold.newRow0 (h:Hold w0 w R) (e:TypeId) (size:Nat):Hold w0 (w.alloc (.cells #[] e)) (rowT e size (.slice (some ⟨w.heap.size,0,none⟩) 0 0) 0 []*R) :=
 h.new ((Chg.refl _ _).alloc _) ⟨.inl (World.ownsRow_lit w #[] 0 (Nat.zero_le _) (by decide) (by simp)),rfl⟩ (by rw[Z0x];simp)
theorem Hold.rowNone {c:Nat} (h:Hold w0 w (rowT e size (.slice none n c) n xs*R)):n=0/\c=0/\xs=[]:=by
 have hl:=h.rowLen;have hh:n=0/\c=0:=by
  rcases h.rowS with h'|⟨g,cs,hv,_⟩
  ·rcases h'.2 with⟨hv,h0⟩|⟨g,cap,cur,hv,_⟩
   ·injection hv with _ _ hc
    exact⟨h0,hc⟩
   ·injection hv with hA;cases hA
  ·injection hv with hA;cases hA
 obtain⟨rfl,rfl⟩:=hh;exact⟨rfl,rfl,List.length_eq_zero_iff.1 (by rw[hl];omega)⟩
theorem Zar (h:Hold w0 w (rowT 52 9 v n xs*R)) (hn:n<=1000000) (h1:(xs.all fun u=>u.oneCell')=true) :
  Calls Tryz.prog 21 #[v] w fun e w'=>∃A c,e = .returned (.slice A n c)/\Hold w0 w' (rowT 52 9 (.slice A n c) n xs*(rowT 52 9 v n xs*R)):=by
 obtain⟨A,c,rfl⟩:=h.Zlt;have H:=hid h;have q22:∀(w:World) (a:Option Addr) (n c n' c':Nat),(binOp .eql 38 (.slice a n c) (.slice none n' c')).run Tryz.prog w = .ok (.bool a.isNone) w:=fun w a n c n' c'=>Lib.run_eql_slice_nil w _ _ a n c n' c' Tryz.underlying38
 cases A with
 | none =>
  obtain⟨rfl,rfl,rfl⟩:=h.rowNone;clear h;go_enter Tryz.func21,Tryz.ntmps21;go_wp2;go_ret;exact⟨_,_,rfl,H.out.nilRowS _ _⟩
 | some ad =>
  obtain⟨iO,hiO,zo0,zo1,zo2⟩:∃i,Tryz.prog.info? 52=some i/\i.zero=some (.agg #[.int .i64 0,.int .i64 0,.int .i64 0,.int .i64 0,.int .i64 0,.int .i64 0,.int .u64 0,.int .u64 0,.bool false])/\i.size=9/\i.bytes=72:=by
   have hi:=Z8y;revert hi
   cases Tryz.prog.info? 52 with
   | none=>intro hi;cases hi
   | some i =>
    intro hi;simp only[Option.map_some,Option.some.injEq,Prod.mk.injEq] at hi;exact⟨i,rfl,hi.1,hi.2.1,hi.2.2⟩
  have h2:=h.newRow0 52 9;have H2:=hid h2;have hl:=h.rowLen;have H1:=hid h1;clear h h2 h1;go_enter Tryz.func21,Tryz.ntmps21;go_wp2_with (at_builtin;refine Z2n rfl _ _ 38 rfl 52 iO (.agg #[.int .i64 0,.int .i64 0,.int .i64 0,.int .i64 0,.int .i64 0,.int .i64 0,.int .u64 0,.int .u64 0,.bool false]) 9 72 Tryz.underlying38 hiO zo0 zo1 zo2 rfl (by decide) (.slice (some ⟨w.heap.size,0,none⟩) 0 0) 0 [] xs rfl H2.out (some ad) n c rfl hl (Hold.rowSrc H2.out.drop (by decide)) H1.out (by omega) (by decide) ?_);intro A3 c3 y4 h5;have H5:=hid h5;clear h5;go_wp2_with fail;go_ret;exact⟨A3,c3,rfl,H5.out⟩
theorem Zkt (h:Hold w0 w (rowT 55 3 v n xs*R)) (hn:n<=1000000) (h1:(xs.all fun u=>u.oneCell')=true) :
  Calls Tryz.prog 40 #[v] w fun e w'=>∃A c,e = .returned (.slice A n c)/\Hold w0 w' (rowT 55 3 (.slice A n c) n xs*(rowT 55 3 v n xs*R)):=by
 obtain⟨A,c,rfl⟩:=h.Zlt;have H:=hid h;have q22:∀(w:World) (a:Option Addr) (n c n' c':Nat),(binOp .eql 53 (.slice a n c) (.slice none n' c')).run Tryz.prog w = .ok (.bool a.isNone) w:=fun w a n c n' c'=>Lib.run_eql_slice_nil w _ _ a n c n' c' Tryz.underlying53
 cases A with
 | none =>
  obtain⟨rfl,rfl,rfl⟩:=h.rowNone;clear h;go_enter Tryz.func40,Tryz.ntmps40;go_wp2;go_ret;exact⟨_,_,rfl,H.out.nilRowS _ _⟩
 | some ad =>
  obtain⟨iO,hiO,zo0,zo1,zo2⟩:∃i,Tryz.prog.info? 55=some i/\i.zero=some (.agg #[.int .i64 0,.int .i64 0,.int .u64 0])/\i.size=3/\i.bytes=24:=by
   have hi:=Z7v;revert hi
   cases Tryz.prog.info? 55 with
   | none=>intro hi;cases hi
   | some i =>
    intro hi;simp only[Option.map_some,Option.some.injEq,Prod.mk.injEq] at hi;exact⟨i,rfl,hi.1,hi.2.1,hi.2.2⟩
  have h2:=h.newRow0 55 3;have H2:=hid h2;have hl:=h.rowLen;have H1:=hid h1;clear h h2 h1;go_enter Tryz.func40,Tryz.ntmps40;go_wp2_with (at_builtin;refine Z2n rfl _ _ 53 rfl 55 iO (.agg #[.int .i64 0,.int .i64 0,.int .u64 0]) 3 24 Tryz.underlying53 hiO zo0 zo1 zo2 rfl (by decide) (.slice (some ⟨w.heap.size,0,none⟩) 0 0) 0 [] xs rfl H2.out (some ad) n c rfl hl (Hold.rowSrc H2.out.drop (by decide)) H1.out (by omega) (by decide) ?_);intro A3 c3 y4 h5;have H5:=hid h5;clear h5;go_wp2_with fail;go_ret;exact⟨A3,c3,rfl,H5.out⟩
theorem Zgd:(Tryz.prog.info? 28).map (fun i=>(i.zero,i.size,i.bytes))=some (some (.agg #[.int .i64 0,.int .i64 0,.int .i64 0,.int .i64 0,.int .i64 0]),5,40):=by kernel_rfl
theorem Zku (h:Hold w0 w (rowT 28 5 v n xs*R)) (hn:n<=1000000) (h1:(xs.all fun u=>u.oneCell')=true) :
  Calls Tryz.prog 32 #[v] w fun e w'=>∃A c,e = .returned (.slice A n c)/\Hold w0 w' (rowT 28 5 (.slice A n c) n xs*(rowT 28 5 v n xs*R)):=by
 obtain⟨A,c,rfl⟩:=h.Zlt;have H:=hid h;have q22:∀(w:World) (a:Option Addr) (n c n' c':Nat),(binOp .eql 29 (.slice a n c) (.slice none n' c')).run Tryz.prog w = .ok (.bool a.isNone) w:=fun w a n c n' c'=>Lib.run_eql_slice_nil w _ _ a n c n' c' Tryz.underlying29
 cases A with
 | none =>
  obtain⟨rfl,rfl,rfl⟩:=h.rowNone;clear h;go_enter Tryz.func32,Tryz.ntmps32;go_wp2;go_ret;exact⟨_,_,rfl,H.out.nilRowS _ _⟩
 | some ad =>
  obtain⟨iO,hiO,zo0,zo1,zo2⟩:∃i,Tryz.prog.info? 28=some i/\i.zero=some (.agg #[.int .i64 0,.int .i64 0,.int .i64 0,.int .i64 0,.int .i64 0])/\i.size=5/\i.bytes=40:=by
   have hi:=Zgd;revert hi
   cases Tryz.prog.info? 28 with
   | none=>intro hi;cases hi
   | some i =>
    intro hi;simp only[Option.map_some,Option.some.injEq,Prod.mk.injEq] at hi;exact⟨i,rfl,hi.1,hi.2.1,hi.2.2⟩
  have h2:=h.newRow0 28 5;have H2:=hid h2;have hl:=h.rowLen;have H1:=hid h1;clear h h2 h1;go_enter Tryz.func32,Tryz.ntmps32;go_wp2_with (at_builtin;refine Z2n rfl _ _ 29 rfl 28 iO (.agg #[.int .i64 0,.int .i64 0,.int .i64 0,.int .i64 0,.int .i64 0]) 5 40 Tryz.underlying29 hiO zo0 zo1 zo2 rfl (by decide) (.slice (some ⟨w.heap.size,0,none⟩) 0 0) 0 [] xs rfl H2.out (some ad) n c rfl hl (Hold.rowSrc H2.out.drop (by decide)) H1.out (by omega) (by decide) ?_);intro A3 c3 y4 h5;have H5:=hid h5;clear h5;go_wp2_with fail;go_ret;exact⟨A3,c3,rfl,H5.out⟩
end
section
variable {w0 w:World} {R:Asr} {n id:Int} {c:Cfg} {p:List InsR} {v:Value} {A:Option Addr} {cp:Nat}
theorem Zby:∀l:List InsR,((insL l).all fun u=>u.oneCell')=true
 | []=>rfl
 | x::l=>by
  show ((x.cells.toList++insL l).all _)=true;rw[List.all_append,Zby l];rfl
theorem Zjt (h:Hold w0 w (Z0a v p*R)) (hF:Z17 w0) (hp:PgOk w0 p) (hc:Z18 c=0) (hid0:0<=id/\id<n) (hn:n<=16) :
  Calls Tryz.prog 18 #[c.val,.int .i64 id,.int .i64 n,v] w fun e w'=>∃g,e = .returned (.tuple #[ptrV g,.int .i64 0])/\Hold w0 w' (thS g c p n id startZ*(Z0a v p*R)):=by
 obtain⟨A,cp,rfl⟩:=h.Zlt;have HX:=hid (And.intro hF (And.intro hp hc));have H1:=hid (h.newBlk (t:=32) (cs:=c.cells));have e1:decide (n<1)=false:=decide_eq_false (by omega);have e2:decide (16<n)=false:=decide_eq_false (by omega);have e3:decide (id<0)=false:=decide_eq_false (by omega);have e4:decide (n<=id)=false:=decide_eq_false (by omega);have HPL:=hid hp.len;clear h hF hp hc hid0 hn;go_enter Tryz.func18,Tryz.ntmps18;go_upto_region 1 with fail
 have h1:=H1.out;generalize hW:w.alloc _=W at h1 |-;generalize w.heap.size=gc at h1 |-;clear hW H1;obtain⟨q0,q1,q2,q3,q4,q5,q6,q7,q8,q9,q10,q11,q12⟩:=Z0v h1.blk;have H1:=hid h1;clear h1;go_wp2_with fail;refine(check_any W c).mono ?_;rintro e w2 ⟨rfl,hch⟩;rw[HX.out.2.2];have h2:=H1.out.chg0 hch;have HP:=hid (HX.out.2.1.chk h2.swap);clear h2 hch H1 q0 q1 q2 q3 q4 q5 q6 q7 q8 q9 q10 q11 q12;obtain⟨pl,hpl⟩:∃pl,pl=p.length:=⟨_,rfl⟩;rw[<- hpl] at HP |-;have HPE:=hid hpl;clear hpl;go_wp2_with fail;refine HP.out.mono ?_;rintro e w3 ⟨rfl,h3⟩;have H3:=hid h3;clear h3 HP;go_upto_region 9 with fail
 have h3:=(H3.out.swap).drew;clear H3;rw[HPE.out] at h3 |-;refine Z01 [] (by kernel_rfl) ?_;generalize hW:w3.drew=W4 at h3 |-;clear hW;refine Z04 (fun w'=>Blk w' gc 32 c.cells) (fun _ _=>trivial) _ _ _ _ ?_;refine' wbk [true,true,true,true,false,true] 54 h3.blk (fun wq hq=>?_) ?_;rotate_left
 ·simp only[Z08]
  obtain⟨q0,q1,q2,q3,q4,q5,q6,q7,q8,q9,q10,q11,q12⟩:=Z0v hq;clear hq
  repeat (go_big_quiet_step (fail))
  exact wpQuiet_nil rfl
 refine wbi 4 (fuel:=4) (fun QB hQB hQX=>?_);go_wp2_with fail;refine(Zku h3.swap (by have:=HPL.out;omega) (Zby p)).mono ?_;rintro e w4 ⟨A4,c4,rfl,h4⟩;clear h3;go_wp2_with fail;refine hQB.out _ _ h4.drop.drop.blk ?_;clear hQB hQX QB;refine wbi 6 (fuel:=3) (fun QB hQB hQX=>?_);go_wp2_with fail;refine(Zj5 w0 _ _ c h4).mono ?_;rintro e w5 ⟨gl,rfl,h5⟩;clear h4;go_wp2_with fail;refine hQB.out _ _ h5.drop.drop.drop.blk ?_;clear hQB hQX QB;refine' wby [false,false,false,false,false,false,false,true] 54 h5.drop.drop.drop.blk ?_;refine wbi 8 (fuel:=1) (fun QB hQB hQX=>?_);go_wp2_with fail;refine hQB.out _ _ (h5.thNew c {thR p n id startZ ⟨A4,c4,.slice none 0 0,gl,fun _=>0,0,0,0,.slice none 0 0,0⟩ with done:=false}).drop.drop.drop.drop.blk ?_;clear hQB hQX QB;have h6:=h5.thNew c {thR p n id startZ ⟨A4,c4,.slice none 0 0,gl,fun _=>0,0,0,0,.slice none 0 0,0⟩ with done:=false};refine' wby [false,false,false,false,false,false,false,false,false,true] 54 h6.drop.drop.drop.drop.blk ?_;refine Z02 (by kernel_rfl) ?_ _;have h7:=h6.pk5 [0,2,1,3];obtain⟨gt,hgt⟩:∃gt,gt=w5.heap.size:=⟨_,rfl⟩;rw[<- hgt] at h6 h7 |-;have HT:=hid (Zfm (p:=0) h7 rfl);clear h5;clear hgt h6 h7;go_wp2_with fail;refine HT.out.mono ?_;rintro e w7 ⟨rfl,h8⟩;have HS:Hid (Hold w0 w7 (thS gt c p n id startZ*(Z0a (.slice A p.length cp) p*R))):=hid (by
  have h9:=(h8.nilRowS 55 3).pk5 [1,2,0,3,4];exact Hold.Zlr ⟨A4,c4,.slice none 0 0,gl,fun _=>0,0,0,0,.slice none 0 0,0⟩ ⟨⟨Int.le_refl 0,Int.le_refl 0⟩,Int.le_refl 0,Int.le_refl 0⟩ h9)
 clear h8 HT;go_wp2_with fail
 go_ret2
 exact⟨gt,rfl,HS.out⟩
end
abbrev scC (c:Cfg) (iv pv kv:Value):Array Value:=#[.int .i64 c.words,.int .i64 c.orecs,.int .i64 c.base,.int .i64 c.c0,.int .i64 c.c1,.int .i64 c.c2,.int .i64 c.c3,.int .i64 c.reads,.int .i64 c.writes,.int .i64 c.allocs,.int .i64 c.frees,.int .i64 c.clock,.bool c.strong,iv,pv,kv]
def pgL (vs:List Value) (ps:Nat->List InsR) (n:Nat):List Asr:=(List.range n).map fun i=>Z0a (vs.getD i undef) (ps i)
section
variable {w0 w:World} {R:Asr} {n:Nat} {c:Cfg} {ps:Nat->List InsR} {pv kv:Value} {vs:List Value} {ks:List Int} {Ai:Option Addr} {wn ci:Nat}
theorem Zhj {k:Nat} (hk:k<n):(pgL vs ps n)[k]?=some (Z0a (vs.getD k undef) (ps k)):=by
 unfold pgL;rw[List.getElem?_map,List.getElem?_range hk]
 rfl
theorem Hold.pgTake {k:Nat} (h:Hold w0 w (sepR (pgL vs ps n) Asr.emp*R)) (hk:k<n):Hold w0 w (Z0a (vs.getD k undef) (ps k)*(sepR ((pgL vs ps n).set k Asr.emp) Asr.emp*R)) :=
 (h.imp (Imp.on R (Imp.nth _ Asr.emp _ k (Zhj hk)))).part
theorem Hold.pgGive {k:Nat} (h:Hold w0 w (Z0a (vs.getD k undef) (ps k)*(sepR ((pgL vs ps n).set k Asr.emp) Asr.emp*R))) (hk:k<n):Hold w0 w (sepR (pgL vs ps n) Asr.emp*R):=by
 have hl:(pgL vs ps n).length=n:=by unfold pgL;simp
 have h2:=h.join.imp (Imp.on R (Imp.putAt (Z0a (vs.getD k undef) (ps k)) Asr.emp ((pgL vs ps n).set k Asr.emp) k (by rw[List.getElem?_set,if_pos rfl,if_pos (by omega)])));rw[List.set_set] at h2;have e:(pgL vs ps n).set k (Z0a (vs.getD k undef) (ps k))=pgL vs ps n:=by
  apply List.ext_getElem?;intro j;rw[List.getElem?_set]
  by_cases hj:k=j
  ·subst hj;rw[if_pos rfl,if_pos (by omega),Zhj hk]
  ·rw[if_neg hj]
 rwa [e] at h2
theorem Zlo (h:Hold w0 w (queA 29 pv vs*(sepR (pgL vs ps n) Asr.emp*(queA 3 kv (iL ks)*R)))) (hF:Z17 w0) (hps:∀i,i<n->PgOk w0 (ps i)) (hc:Z18 c=0) (hn:1<=n/\n<=16) (hvs:vs.length=n) (hwn:c.words=(wn:Int)) (hks:ks.length<=1000) (hkr:∀k∈ks,0<=k/\k<(n:Int)) :
  Calls Tryz.prog 16 #[.agg (scC c (.slice Ai wn ci) pv kv)] w fun e w'=>e = .returned (.tuple #[.int .i64 0,.int .i64 0,.int .i64 0])/\Hold w0 w' (queA 29 pv vs*(sepR (pgL vs ps n) Asr.emp*(queA 3 kv (iL ks)*R))):=by
 obtain⟨Ap,cp,rfl⟩:=h.Zlu;obtain⟨Ak,ck,rfl⟩:=h.drop.drop.Zlu;rw[hvs] at h |-;obtain⟨kn,hkn⟩:∃kn,kn=(iL ks).length:=⟨_,rfl⟩;rw[<- hkn] at h |-;have hkl:kn=ks.length:=by rw[hkn];unfold iL;simp
 obtain⟨adp,rfl,hcp⟩:∃ad,Ap=some ad/\n<=cp:=by
  obtain⟨fp,h1⟩:=h.get;obtain⟨_,h3,_,b,h4,_⟩:=queReads h1;obtain⟨ad2,hA,_⟩:=h4.cellAt (k:=0) (by omega);exact⟨ad2,hA,h3⟩
 have HX:=hid (And.intro hF (And.intro hps (And.intro hc (And.intro hwn (And.intro hkl (And.intro hvs hkr))))));have H1:=hid (h.newBlk (t:=47) (cs:=scC c (.slice Ai wn ci) (.slice (some adp) n cp) (.slice Ak kn ck)));have ew:win (n:Int) 1 16=true:=win_true.2 ⟨by omega,by omega⟩;have hkb:kn<=1000:=by omega
 have ek:decide (65536<(kn:Int))=false:=decide_eq_false (by omega);have ek':decide (65536<kn)=false:=decide_eq_false (by omega);obtain⟨cw,hcw⟩:∃cw,cw=c.words:=⟨_,rfl⟩;have HCW:=hid hcw;clear h hF hps hc hvs hwn hks hkr hkn hkl hcw;go_enter Tryz.func16,Tryz.ntmps16;go_upto_region 1 with fail
 have h1:=H1.out;generalize hW:w.alloc _=W at h1 |-;generalize w.heap.size=gs at h1 |-;clear hW H1;have q0:=h1.blk.some_ (i:=0) rfl;have q1:=h1.blk.some_ (i:=1) rfl;have q2:=h1.blk.some_ (i:=2) rfl;have q3:=h1.blk.some_ (i:=3) rfl;have q4:=h1.blk.some_ (i:=4) rfl;have q5:=h1.blk.some_ (i:=5) rfl;have q6:=h1.blk.some_ (i:=6) rfl;have q7:=h1.blk.some_ (i:=7) rfl;have q8:=h1.blk.some_ (i:=8) rfl;have q9:=h1.blk.some_ (i:=9) rfl;have qa:=h1.blk.some_ (i:=10) rfl;have qb:=h1.blk.some_ (i:=11) rfl;have qc:=h1.blk.some_ (i:=12) rfl;have H1:=hid h1;clear h1;go_wp2_with fail;refine(check_any W c).mono ?_;rintro e w2 ⟨rfl,hch⟩;rw[HX.out.2.2.1];have h2:=H1.out.chg0 hch;clear hch H1 q0 q1 q2 q3 q4 q5 q6 q7 q8 q9 qa qb qc;have p0:w2.cell? ⟨gs,0,none⟩=some (.int .i64 (wn:Int)):=by have:=h2.blk.some_ (i:=0) (u:=.int .i64 c.words) rfl;rw[HX.out.2.2.2.1] at this;exact this
 have p1:=h2.blk.some_ (i:=13) rfl;have p2:=h2.blk.some_ (i:=14) rfl;have H2:=hid h2;clear h2;go_wp2_with (refine(within_any _ _ _ _).mono ?_;rintro e w' ⟨rfl,rfl⟩;rw[ew]);have HZ:=H2.out;go_loopw [33] (fun i wr=>∃k:Nat,k<=n/\i = .int .i64 (k:Int)/\Hold w0 wr (blkA 47 gs (scC c (.slice Ai wn ci) (.slice (some adp) n cp) (.slice Ak kn ck))*(queA 29 (.slice (some adp) n cp) vs*(sepR (pgL vs ps n) Asr.emp*(queA 3 (.slice Ak kn ck) (iL ks)*R))))) (fun i _=>n - (intOf i).toNat)
 case atStart=>exact⟨0,Nat.zero_le _,rfl,HZ⟩
 case round =>
  clear HZ H2 p0 p1 p2;obtain⟨k,hk,rfl,h⟩:=hrel
  by_cases hlt:k<n
  ·have e1:decide ((k:Int)<(n:Int))=true:=decide_eq_true (by omega)
   have e1':decide (k<n)=true:=decide_eq_true hlt;have k0:(0:Int)<=(k:Int):=by omega
   have k1:(k:Int)<(n:Int):=by omega
   have h2:=(h.pk3 [2,0,1]).pgTake hlt;have hv:=HX.out.2.2.2.2.2.1;have hvk:vs[k]?=some (vs.getD k undef):=by rw[List.getD_eq_getElem?_getD,List.getElem?_eq_getElem (by omega)];rfl
   obtain⟨A1,c1,hv1⟩:=h2.Zlt;rw[hv1] at hvk;have d0:=h.drop.queAt hvk;have HP:=hid ((HX.out.2.1 k hlt).chk (by rw[hv1] at h2;exact h2));have HV:=hid hv1;clear h h2 hv hvk hv1 hk;obtain⟨pl,hpl⟩:∃pl,pl=(ps k).length:=⟨_,rfl⟩;rw[<- hpl] at HP d0;have HPL:=hid hpl;clear hpl hlt;go_wp2_with fail;refine HP.out.mono ?_;rintro e w4 ⟨rfl,h4⟩;clear HP d0;have H4:=hid h4;clear h4;go_wp2_with fail;go_roundw
   case rel =>
    refine⟨k+1,by omega,by go_num,?_⟩;have h5:=H4.out;rw[HPL.out,<- HV.out] at h5;exact(h5.pgGive (by omega)).pk3 [1,2,0]
   case measure=>simp[intOf];omega
  ·obtain rfl:k=n:=by omega
   have e1:decide ((k:Int)<(k:Int))=false:=decide_eq_false (by omega);have e1':decide (k<k)=false:=decide_eq_false (by omega);have p3:=h.blk.some_ (i:=15) rfl;have H:=hid h;clear h hk hlt;go_wp2_with fail;have HZ:=H.out;go_loopw [56] (fun i wr=>∃j:Nat,j<=kn/\i = .int .i64 (j:Int)/\Hold w0 wr (blkA 47 gs (scC c (.slice Ai wn ci) (.slice (some adp) k cp) (.slice Ak kn ck))*(queA 29 (.slice (some adp) k cp) vs*(sepR (pgL vs ps k) Asr.emp*(queA 3 (.slice Ak kn ck) (iL ks)*R))))) (fun i _=>kn - (intOf i).toNat)
   case atStart=>exact⟨0,Nat.zero_le _,rfl,HZ⟩
   case round =>
    clear HZ H p3;obtain⟨j,hj,rfl,h⟩:=hrel
    by_cases hlj:j<kn
    ·have f1:decide ((j:Int)<(kn:Int))=true:=decide_eq_true (by omega)
     have f1':decide (j<kn)=true:=decide_eq_true hlj;have k0:(0:Int)<=(j:Int):=by omega
     have k1:(j:Int)<(kn:Int):=by omega
     have hjk:j<ks.length:=by have:=HX.out.2.2.2.2.1;omega
     have hjz:ks[j]?=some ks[j]:=List.getElem?_eq_getElem hjk;obtain⟨z,hz⟩:∃z,z=ks[j]:=⟨_,rfl⟩;rw[<- hz] at hjz;have hzr:=HX.out.2.2.2.2.2.2 z (List.mem_of_getElem? hjz);have hh:=h.pk4 [3,0,1,2];obtain⟨adk,rfl,hck⟩:∃ad,Ak=some ad/\kn<=ck:=by
      obtain⟨fp,g1⟩:=hh.get;obtain⟨_,g3,_,b,g4,_⟩:=queReads g1;obtain⟨ad2,hA,_⟩:=g4.cellAt (k:=j) (by omega);exact⟨ad2,hA,g3⟩
     have d0:=hh.queAt (k:=j) (u:=.int .i64 z) (by unfold iL;rw[List.getElem?_map,hjz];rfl);have p2:=h.blk.some_ (i:=14) rfl;have f2:decide (z<0)=false:=decide_eq_false (by omega);have f3:decide ((k:Int)<=z)=false:=decide_eq_false (by omega);have H:=hid h;clear h hh hz hjz hzr hj hlj hjk;go_wp2_with fail;go_roundw
     case rel=>exact⟨j+1,by have:=k1;omega,by go_num,H.out⟩
     case measure=>have:=k1;simp[intOf];omega
    ·obtain rfl:j=kn:=by omega
     have f1:decide ((j:Int)<(j:Int))=false:=decide_eq_false (by omega);have f1':decide (j<j)=false:=decide_eq_false (by omega);have H:=hid h;clear h hj hlj;go_wp2_with fail;refine bodyPost_ret (results_tmp3 rfl _ _ _) rfl ?_;exact⟨rfl,H.out.drop⟩
end
theorem Z8r {fn:Func} {t u v x:Tmp} (h:fn.results=#[.tmp t,.tmp u,.tmp v,.tmp x]) (tmps:Array Value) (P:Program) (w:World) :
  (results fn tmps).run P w = .ok (.tuple #[tmps.getD t undef,tmps.getD u undef,tmps.getD v undef,tmps.getD x undef]) w:=by
 simp[results,h]
theorem Zgc:(Tryz.prog.info? 81).map (fun i=>(i.zero,i.size,i.bytes))=some (some (.pointer none),1,8):=by kernel_rfl
def thsP (ts:List Nat) (c:Cfg) (ps:Nat->List InsR) (n k:Nat):List Asr:=(List.range k).map (thsF ts c ps n (fun _=>startZ))
theorem Zd5 {ts:List Nat} {c:Cfg} {ps:Nat->List InsR} {n:Nat} {g:Nat}:thsP (ts++[g]) c ps n (ts.length+1)=thsP ts c ps n ts.length++[thS g c (ps ts.length) (n:Int) (ts.length:Int) startZ]:=by
 unfold thsP;rw[List.range_succ,List.map_append]
 congr 1
 ·apply List.map_congr_left
  intro i hi;have:i<ts.length:=by simpa using hi
  unfold thsF;rw[List.getD_eq_getElem?_getD,List.getD_eq_getElem?_getD,List.getElem?_append_left this]
 ·show [thS ((ts++[g]).getD ts.length 0) c (ps ts.length) (n:Int) (ts.length:Int) startZ]=_
  rw[List.getD_eq_getElem?_getD];simp
section
variable {w0 w:World} {R:Asr} {n:Nat} {c:Cfg} {ps:Nat->List InsR} {pv kv:Value} {vs:List Value} {ks:List Int} {Ai:Option Addr} {ci bA:Nat} {init:List Int}
theorem Zkc (h:Hold w0 w (queA 29 pv vs*(sepR (pgL vs ps n) Asr.emp*(queA 3 kv (iL ks)*R)))) (hF:Z17 w0) (hps:∀i,i<n->PgOk w0 (ps i)) (hc:Z18 c=0) (hn:1<=n/\n<=16) (hvs:vs.length=n) (hwn:(init.length:Int)=c.words) (hks:ks.length<=1000) (hkr:∀k∈ks,0<=k/\k<(n:Int))
  (hA:∀F w',Hold w0 w' (F*R)->Reads w' bA Ai init.length (init.map (Value.int .u64))) :
  Calls Tryz.prog 11 #[.agg (scC c (.slice Ai init.length ci) pv kv)] w fun e w'=>∃gm,e = .returned (.tuple #[ptrV gm,.int .i64 0,.int .i64 0,.int .i64 0])/\Hold w0 w' (mcS gm c ps n ⟨newC c n init,fun _=>startZ,[]⟩*(queA 29 pv vs*(sepR (pgL vs ps n) Asr.emp*(queA 3 kv (iL ks)*R)))):=by
 obtain⟨Ap,cp,rfl⟩:=h.Zlu;rw[hvs] at h |-;obtain⟨adp,rfl,hcp⟩:∃ad,Ap=some ad/\n<=cp:=by
  obtain⟨fp,h1⟩:=h.get;obtain⟨_,h3,_,b,h4,_⟩:=queReads h1;obtain⟨ad2,hA,_⟩:=h4.cellAt (k:=0) (by omega);exact⟨ad2,hA,h3⟩
 have HX:=hid (And.intro hF (And.intro hps (And.intro hc (And.intro hwn (And.intro hvs (And.intro hks (And.intro hkr hA)))))));have H1:=hid (h.newBlk (t:=47) (cs:=scC c (.slice Ai init.length ci) (.slice (some adp) n cp) kv));clear h hF hps hc hwn hvs hks hkr hA;obtain⟨wn,hwn⟩:∃wn,wn=init.length:=⟨_,rfl⟩;rw[<- hwn] at H1 |-;have HWN:=hid hwn;clear hwn;go_enter Tryz.func11,Tryz.ntmps11;go_upto_region 1 with fail
 have h1:=H1.out;generalize hW:w.alloc _=W at h1 |-;generalize w.heap.size=gs at h1 |-;clear hW H1;have HC:=hid (Zlo (w:=W) (c:=c) (ps:=ps) (n:=n) (vs:=vs) (ks:=ks) (pv:=.slice (some adp) n cp) (kv:=kv) (Ai:=Ai) (ci:=ci) (wn:=wn) (h1.pk4 [1,2,3,0]) HX.out.1 HX.out.2.1 HX.out.2.2.1 hn HX.out.2.2.2.2.1 (by rw[HWN.out];exact HX.out.2.2.2.1.symm) HX.out.2.2.2.2.2.1 HX.out.2.2.2.2.2.2.1);go_wp2_with (refine Z03 rfl 47 _ rfl gs _ _ rfl Tryz.isAgg47 _ Tryz.sizeOf47 h1.blk rfl ?_);refine HC.out.mono ?_;rintro e w2 ⟨rfl,h2⟩;clear h1 HC;have h3:=h2.pk4 [3,0,1,2];clear h2;go_upto_region 5 with fail
 have h4:=h3.newBlk (t:=78) (cs:=#[.pointer none,.slice none 0 0,.slice none 0 0,.slice none 0 0]);generalize hW:w2.alloc _=W3 at h4 |-;generalize w2.heap.size=gm at h4 |-;clear hW h3;obtain⟨q0,q1,q2,q3,q4,q5,q6,q7,q8,q9,qa,qb,qc,qd,qe⟩:W3.cell? ⟨gs,0,none⟩=some (.int .i64 c.words)/\W3.cell? ⟨gs,1,none⟩=some (.int .i64 c.orecs)/\W3.cell? ⟨gs,2,none⟩=some (.int .i64 c.base)/\W3.cell? ⟨gs,3,none⟩=some (.int .i64 c.c0)/\W3.cell? ⟨gs,4,none⟩=some (.int .i64 c.c1)/\W3.cell? ⟨gs,5,none⟩=some (.int .i64 c.c2)/\W3.cell? ⟨gs,6,none⟩=some (.int .i64 c.c3)/\W3.cell? ⟨gs,7,none⟩=some (.int .i64 c.reads)/\W3.cell? ⟨gs,8,none⟩=some (.int .i64 c.writes)/\W3.cell? ⟨gs,9,none⟩=some (.int .i64 c.allocs)/\W3.cell? ⟨gs,10,none⟩=some (.int .i64 c.frees)/\W3.cell? ⟨gs,11,none⟩=some (.int .i64 c.clock)/\W3.cell? ⟨gs,12,none⟩=some (.bool c.strong)/\W3.cell? ⟨gs,13,none⟩=some (.slice Ai wn ci)/\W3.cell? ⟨gs,14,none⟩=some (.slice (some adp) n cp) :=
  have b:=h4.drop.blk
  ⟨b.some_ (i:=0) rfl,b.some_ (i:=1) rfl,b.some_ (i:=2) rfl,b.some_ (i:=3) rfl,b.some_ (i:=4) rfl,b.some_ (i:=5) rfl,b.some_ (i:=6) rfl,b.some_ (i:=7) rfl,b.some_ (i:=8) rfl,b.some_ (i:=9) rfl,b.some_ (i:=10) rfl,b.some_ (i:=11) rfl,b.some_ (i:=12) rfl,b.some_ (i:=13) rfl,b.some_ (i:=14) rfl⟩
 have HN:Hid (Calls Tryz.prog 17 #[c.val,.int .i64 (n:Int),.slice Ai wn ci] W3 (Zc9 w0 _ c n init)):=hid (by
  rw[HWN.out];exact Zeu w0 W3 _ c n Ai ci bA init HX.out.2.2.1 hn.1 hn.2 HX.out.2.2.2.1 h4 fun w' hh=>HX.out.2.2.2.2.2.2.2 _ w' hh.join.join.join.join)
 have zM:W3.frozen? ⟨gm,0,none⟩=false:=h4.blk.frozen 0;clear h4;go_wp2_with fail;refine HN.out.mono ?_;rintro e w4 ⟨m,rfl,h5⟩;clear HN zM q0 q1 q2 q3 q4 q5 q6 q7 q8 q9 qa qb qc qd qe;have zq:=h5.drop.blk.frozen 0;have pq:=h5.drop.blk.some_ (i:=0) rfl;have H6:=hid (h5.swap.Zlp 0 (ptrV m));clear h5;go_upto_region 6 with fail
 have h6:Hold w0 _ (blkA 78 gm #[ptrV m,.slice none 0 0,.slice none 0 0,.slice none 0 0]*(memA m (newC c n init)*(blkA 47 gs (scC c (.slice Ai wn ci) (.slice (some adp) n cp) kv)*(queA 29 (.slice (some adp) n cp) vs*(sepR (pgL vs ps n) Asr.emp*(queA 3 kv (iL ks)*R)))))):=H6.out;generalize hW:World.setCell _ _ _=W4 at h6 |-;clear hW H6 zq pq;have pe:=h6.drop.drop.blk.some_ (i:=14) rfl;have H6:=hid (((((h6.imp (Imp.Zlv _)).nilQue 81).pk5 [4,2,0,1,3])));clear h6;go_wp2_with fail;have HZ:=H6.out;go_loopw [40] (fun i wr=>∃(ts:List Nat) (thv:Value),ts.length<=n/\i = .int .i64 (ts.length:Int)/\Hold w0 wr (blkA 47 gs (scC c (.slice Ai wn ci) (.slice (some adp) n cp) kv)*(blkA 78 gm #[ptrV m,thv,.slice none 0 0,.slice none 0 0]*(queA 81 thv (ts.map ptrV)*(sepR (thsP ts c ps n ts.length) Asr.emp*(memA m (newC c n init)*(queA 29 (.slice (some adp) n cp) vs*(sepR (pgL vs ps n) Asr.emp*(queA 3 kv (iL ks)*R))))))))) (fun i _=>n - (intOf i).toNat)
 case atStart=>exact⟨[],.slice none 0 0,Nat.zero_le _,rfl,HZ⟩
 case round =>
  clear HZ H6 pe;obtain⟨ts,thv,hk,rfl,h⟩:=hrel;obtain⟨k,hkt⟩:∃k,k=ts.length:=⟨_,rfl⟩;rw[<- hkt] at h hk |-;have HKT:=hid hkt;clear hkt
  by_cases hlt:k<n
  ·have e1:decide ((k:Int)<(n:Int))=true:=decide_eq_true (by omega)
   have e1':decide (k<n)=true:=decide_eq_true hlt;have k0:(0:Int)<=(k:Int):=by omega
   have k1:(k:Int)<(n:Int):=by omega
   have hv:=HX.out.2.2.2.2.1;have hvk:vs[k]?=some (vs.getD k undef):=by rw[List.getD_eq_getElem?_getD,List.getElem?_eq_getElem (by omega)];rfl
   have h2:=(h.pk7 [6,0,1,2,3,4,5]).pgTake hlt;obtain⟨A1,c1,hv1⟩:=h2.Zlt;rw[hv1] at hvk;have d0:=(h.pk6 [5]).queAt hvk;have HT:=hid (Zjt h2 HX.out.1 (HX.out.2.1 k hlt) HX.out.2.2.1 (id:=(k:Int)) (n:=(n:Int)) ⟨k0,k1⟩ (by omega));rw[hv1] at HT;have HV:=hid hv1;have pm:=h.blk.some_ (i:=14) rfl;have c0:=h.blk.some_ (i:=0) rfl;have c1':=h.blk.some_ (i:=1) rfl;have c2:=h.blk.some_ (i:=2) rfl;have c3:=h.blk.some_ (i:=3) rfl;have c4:=h.blk.some_ (i:=4) rfl;have c5:=h.blk.some_ (i:=5) rfl;have c6:=h.blk.some_ (i:=6) rfl;have c7:=h.blk.some_ (i:=7) rfl;have c8:=h.blk.some_ (i:=8) rfl;have c9:=h.blk.some_ (i:=9) rfl;have ca:=h.blk.some_ (i:=10) rfl;have cb:=h.blk.some_ (i:=11) rfl;have cc:=h.blk.some_ (i:=12) rfl;clear h h2 hv hvk hv1 hk hlt;obtain⟨pl,hpl⟩:∃pl,pl=(ps k).length:=⟨_,rfl⟩;rw[<- hpl] at HT d0;have HPL:=hid hpl;clear hpl;go_wp2_with fail;refine HT.out.mono ?_;rintro e w5 ⟨gt,rfl,h5⟩;clear HT d0 pm c0 c1' c2 c3 c4 c5 c6 c7 c8 c9 ca cb cc;rw[HPL.out,<- HV.out] at h5;have h6:=(h5.pk3 [1,2,0]).pgGive (by omega:k<n);have h7:=h6.pk8 [4,2,3,5,1,6,7,0];clear h5 h6;obtain⟨iP,hiP,zp0,zp1,zp2⟩:∃i,Tryz.prog.info? 81=some i/\i.zero=some (.pointer none)/\i.size=1/\i.bytes=8:=by
    have hi:=Zgc;revert hi
    cases Tryz.prog.info? 81 with
    | none=>intro hi;cases hi
    | some i =>
     intro hi;simp only[Option.map_some,Option.some.injEq,Prod.mk.injEq] at hi;exact⟨i,rfl,hi.1,hi.2.1,hi.2.2⟩
   have HLT:Hid ((ts.map ptrV).length<=1000000):=hid (by rw[List.length_map,<- HKT.out];omega);have p1:=(h7.pk3 [2]).blk.some_ (i:=1) rfl;go_wp2_with (at_builtin;refine Z0r rfl _ _ 76 rfl iP (.pointer none) 8 Tryz.underlying76 hiP zp0 zp1 zp2 rfl (ptrV gt) _ rfl h7 rfl rfl HLT.out (by decide) ?_);intro v' w8 h8;obtain⟨A9,n9,c9,rfl⟩:∃A n c,v' = .slice A n c:=by obtain⟨A,c,h⟩:=h8.Zlu;exact⟨A,_,c,h⟩
   have p2:=(h8.pk3 [2]).blk.some_ (i:=1) rfl;have z2:=(h8.pk3 [2]).blk.frozen 1;have H9:=hid ((h8.pk3 [2,0,1]).Zlp 1 (.slice A9 n9 c9));clear h7 h8 p1;go_wp2_with fail;go_roundw
   case rel =>
    have hks:=HKT.out;refine⟨ts++[gt],.slice A9 n9 c9,by rw[List.length_append];show ts.length+1<=n;omega,by rw[List.length_append];show _=Value.int .i64 ((ts.length+1:Nat):Int);rw[<- hks];go_num,?_⟩;have h9:=H9.out;have h10:=((h9.pk5 [3,4,0,1,2]).join).imp (Imp.on _ (Z42 (thS gt c (ps k) (n:Int) (k:Int) startZ) (thsP ts c ps n k)));rw[hks,<- Zd5] at h10;rw[List.length_append,List.map_append];exact h10.pk4 [3,1,2,0]
   case measure=>simp[intOf];omega
  ·obtain rfl:k=n:=by omega
   have e1:decide ((k:Int)<(k:Int))=false:=decide_eq_false (by omega);have e1':decide (k<k)=false:=decide_eq_false (by omega);have HF:Hid (Hold w0 wr (mcS gm c ps k ⟨newC c k init,fun _=>startZ,[]⟩*(queA 29 (.slice (some adp) k cp) vs*(sepR (pgL vs ps k) Asr.emp*(queA 3 kv (iL ks)*R))))):=hid (by
    unfold mcS;refine Hold.Zlr ⟨m,thv,.slice none 0 0,.slice none 0 0,ts,[]⟩ ⟨HKT.out.symm,Nat.le_refl _⟩ ?_;exact(((h.drop.nilEv).nilRowS 52 9).pk6 [2,3,0,1,4,5]))
   clear h hk hlt;go_wp2_with fail;refine bodyPost_ret (Z8r rfl _ _ _) rfl ?_;exact⟨gm,rfl,HF.out⟩
end
section
variable {w0 w:World} {R:Asr} {t:Nat} {n id:Int} {c:Cfg} {p:List InsR} {T:TZ}
theorem thS_any (h:Hold w0 w (thS t c p n id T*R)):∃q:TQ,Hold w0 w (thA t c (thR p n id T q)*(obsA q.ov T.obs*(Z0a (.slice q.A p.length q.cp) p*(limA q.gl c T.es*R)))) /\
  ∀w' R',Hold w0 w' (thA t c (thR p n id T q)*(obsA q.ov T.obs*(Z0a (.slice q.A p.length q.cp) p*(limA q.gl c T.es*R'))))->Hold w0 w' (thS t c p n id T*R'):=by
 obtain⟨q,hq,h⟩:=Hold.Zlq (show Hold w0 w (Asr.exs _ _*R) from h);refine⟨q,h.pk4 [0,2,1,3],fun w' R' h=>?_⟩;exact Hold.Zlr q hq (h.pk4 [0,2,1,3])
theorem Zi5 (h:Hold w0 w (thS t c p n id T*R)) (hl:T.obs.length<=10000) :
  Calls Tryz.prog 23 #[ptrV t] w fun e w'=>∃A k,e = .returned (.slice A T.obs.length k)/\Hold w0 w' (obsA (.slice A T.obs.length k) T.obs*(thS t c p n id T*R)):=by
 obtain⟨q,h,hback⟩:=thS_any h;have HB:=hid hback;have q1:=h.th_obs;have HC:=hid (Zkt h.swap (by omega) (Za4 _));obtain⟨ov,hov⟩:∃ov,ov=q.ov:=⟨_,rfl⟩;rw[show (thR p n id T q).obs=q.ov from rfl,<- hov] at q1;have HOV:=hid hov;rw[<- hov] at HC;clear h hback hov;obtain⟨nl,hnl⟩:∃nl,nl=T.obs.length:=⟨_,rfl⟩;rw[<- hnl] at HC |-;have HNL:=hid hnl;clear hnl;go_enter Tryz.func23,Tryz.ntmps23;go_wp2_with fail;refine HC.out.mono ?_;rintro e w4 ⟨A,k,rfl,h4⟩;have HF:Hid (Hold w0 w4 (obsA (.slice A nl k) T.obs*(thS t c p n id T*R))):=hid (by
  have h5:=(h4.pk3 [2,1,0]);rw[HOV.out,HNL.out] at h5;rw[HNL.out];have h6:=h5.pk5 [0,1,3,4,2];exact(HB.out w4 _ h6).pk2 [1,0])
 clear h4 HC q1;go_wp2_with fail;go_ret;exact⟨A,k,rfl,HF.out⟩
end
abbrev tsC (T:TZ) (len:Int):Array Value:=#[.int .i64 T.pc,.int .u64 (T.regs 0),.int .u64 (T.regs 1),.int .u64 (T.regs 2),.int .u64 (T.regs 3),.int .u64 (T.regs 4),.int .u64 (T.regs 5),.int .u64 (T.regs 6),.int .u64 (T.regs 7),.int .i64 T.outcome,.bool (T.pc==len)]
section
variable {w0 w:World} {R:Asr} {t:Nat} {n id:Int} {c:Cfg} {p:List InsR} {T:TZ}
theorem Zd6 (h:Hold w0 w (thS t c p n id T*R)) :
  Calls Tryz.prog 22 #[ptrV t] w fun e w'=>e = .returned (.agg (tsC T (p.length:Int)))/\Hold w0 w' (thS t c p n id T*R):=by
 obtain⟨q,h,hback⟩:=thS_any h;have HB:=hid hback;have H1:=hid (h.newBlk (t:=63) (cs:=#[.int .i64 0,.int .u64 0,.int .u64 0,.int .u64 0,.int .u64 0,.int .u64 0,.int .u64 0,.int .u64 0,.int .u64 0,.int .i64 0,.bool false]));clear h hback;go_enter Tryz.func22,Tryz.ntmps22;go_upto_region 3 with fail
 have h1:=H1.out;generalize hW:w.alloc _=W at h1 |-;generalize w.heap.size=gr at h1 |-;clear hW H1;go_wp2_with (first|(refine Z0l rfl 63 _ rfl t 32 116 46 _ (tsC T (p.length:Int)) rfl Tryz.isAgg63 11 Tryz.sizeOf63 h1.swap rfl (by decide) ?_)|(refine Z00 rfl 63 _ _ rfl gr _ _ (tsC T (p.length:Int)) rfl rfl _ Tryz.sizeOf63 h1 rfl rfl rfl ?_;intro w7 h11));exact bodyPost_ret (Z0j Tryz.results22 _ rfl Tryz.isAgg63 _ Tryz.sizeOf63 h11.blk rfl) rfl ⟨rfl,HB.out _ _ h11.drop⟩
end
theorem Z77:∀l:List StR,((stL l).all fun u=>u.oneCell')=true
 | []=>rfl
 | x::l=>by
  show (((stC x.th x.phase x.att x.acc).toList++stL l).all _)=true;rw[List.all_append,Z77 l];rfl
def tsF (ps:Nat->List InsR) (th:Nat->TZ) (k:Nat):List Value:=(List.range k).flatMap fun i=>(tsC (th i) ((ps i).length:Int)).toList
theorem Zfi (ps:Nat->List InsR) (th:Nat->TZ) (k:Nat):tsF ps th (k+1)=tsF ps th k++(tsC (th k) ((ps k).length:Int)).toList:=by unfold tsF;rw[List.range_succ,List.flatMap_append];simp
def obF (os:List Value) (th:Nat->TZ) (k:Nat):List Asr:=(List.range k).map fun i=>obsA (os.getD i undef) (th i).obs
theorem Zg5 {os:List Value} {th:Nat->TZ} {v:Value}:obF (os++[v]) th (os.length+1)=obF os th os.length++[obsA v (th os.length).obs]:=by
 unfold obF;rw[List.range_succ,List.map_append]
 congr 1
 ·apply List.map_congr_left
  intro i hi;have:i<os.length:=by simpa using hi
  rw[List.getD_eq_getElem?_getD,List.getD_eq_getElem?_getD,List.getElem?_append_left this]
 ·show [obsA ((os++[v]).getD os.length undef) (th os.length).obs]=_
  rw[List.getD_eq_getElem?_getD];simp
theorem Zht:∀(es:List EvR) (k:Nat) (e:EvR) (j:Nat) (u:Value),es[k]?=some e->e.cells[j]?=some u->(es.flatMap EvR.cells)[k*6+j]?=some u
 | [],k,e,j,u,h,_=>by cases h
 | e0::es,0,e,j,u,h,h2=>by
  have:e0=e:=by simpa using h
  subst this;have hj:j<6:=(List.getElem?_eq_some_iff.1 h2).1;show (e0.cells++es.flatMap EvR.cells)[0*6+j]?=_;rw[Nat.zero_mul,Nat.zero_add,List.getElem?_append_left hj];exact h2
 | e0::es,k+1,e,j,u,h,h2=>by
  show (e0.cells++es.flatMap EvR.cells)[(k+1)*6+j]?=_;rw[List.getElem?_append_right (by show 6<=_;omega)];rw[show (k+1)*6+j - e0.cells.length=k*6+j by show _ - 6=_;omega];exact Zht es k e j u (by simpa using h) h2
theorem Zah:(Tryz.prog.info? 63).map (fun i=>(i.zero,i.size,i.bytes))=some (some (.agg #[.int .i64 0,.int .u64 0,.int .u64 0,.int .u64 0,.int .u64 0,.int .u64 0,.int .u64 0,.int .u64 0,.int .u64 0,.int .i64 0,.bool false]),11,88):=by kernel_rfl
theorem Zef:(Tryz.prog.info? 53).map (fun i=>(i.zero,i.size,i.bytes))=some (some (.slice none 0 0),1,24):=by kernel_rfl
section
variable {w0 w:World} {R:Asr} {gm n:Nat} {c:Cfg} {ps:Nat->List InsR} {M:MZ}
theorem Zje {es:List EvR} {i:Nat} {e:EvR} (hi:es[i]?=some e) (h:Hold w0 w (sepR (es.map EvR.objs) Asr.emp*R)):∃B:Asr,Hold w0 w (queA 3 e.rd (e.rs.map (Value.int .i64))*(queA 3 e.wr (e.ws.map (Value.int .i64))*(B*R)))/\∀w' R',Hold w0 w' (queA 3 e.rd (e.rs.map (Value.int .i64))*(queA 3 e.wr (e.ws.map (Value.int .i64))*(B*R')))->Hold w0 w' (sepR (es.map EvR.objs) Asr.emp*R'):=by
 have hm:(es.map EvR.objs)[i]?=some e.objs:=by rw[List.getElem?_map,hi];rfl
 have hs:((es.map EvR.objs).set i Asr.emp)[i]?=some Asr.emp:=by
  have:=(List.getElem?_eq_some_iff.1 hm).1;rw[List.getElem?_set,if_pos rfl,if_pos this]
 refine⟨sepR ((es.map EvR.objs).set i Asr.emp) Asr.emp,(h.imp (Imp.on _ (Imp.nth _ Asr.emp _ i hm))).part.part,fun w' R' h=>?_⟩;have h2:=(h.join.join).imp (Imp.on _ (Imp.putAt e.objs Asr.emp _ i hs));rw[List.set_set] at h2;have e2:(es.map EvR.objs).set i e.objs=es.map EvR.objs:=by
  apply List.ext_getElem?;intro j;rw[List.getElem?_set]
  by_cases hij:i=j
  ·subst hij
   have:=(List.getElem?_eq_some_iff.1 hm).1;rw[if_pos rfl,if_pos this,hm]
  ·rw[if_neg hij]
 rw[e2] at h2;exact h2
theorem Z8x (h:Hold w0 w (mcS gm c ps n M*R)):∃q:MQ,(q.ts.length=n/\q.es.length<=M.steps.length)/\Hold w0 w (blkA 78 gm #[ptrV q.m,q.thv,q.stv,q.evv]*(queA 81 q.thv (q.ts.map ptrV)*(rowT 52 9 q.stv M.steps.length (stL M.steps)*(evA q.evv q.es*(sepR (thsL q.ts c ps n M.th) Asr.emp*(memA q.m M.C*R)))))):=by
 unfold mcS at h;obtain⟨q,hq,h⟩:=h.Zlq;exact⟨q,hq,h⟩
theorem Zi1 {ts:List Nat} {th:Nat->TZ} {i:Nat} (hi:i<n) (h:Hold w0 w (sepR (thsL ts c ps n th) Asr.emp*R)):∃B:Asr,Hold w0 w (thS (ts.getD i 0) c (ps i) (n:Int) (i:Int) (th i)*(B*R))/\∀w' R',Hold w0 w' (thS (ts.getD i 0) c (ps i) (n:Int) (i:Int) (th i)*(B*R'))->Hold w0 w' (sepR (thsL ts c ps n th) Asr.emp*R'):=by
 refine⟨sepR ((thsL ts c ps n th).set i Asr.emp) Asr.emp,(h.imp (Imp.on _ (Imp.nth _ Asr.emp _ i (Zi2 hi)))).part,fun w' R' h=>?_⟩;have h2:=Zi3 hi h;rwa [Zd2] at h2
end
end Go.Proofs.YtmlfangeanmmeaaGreatDoor
