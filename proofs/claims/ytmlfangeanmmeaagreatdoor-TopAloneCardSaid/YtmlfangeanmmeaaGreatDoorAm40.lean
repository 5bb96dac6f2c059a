/-
 What the proof of TopAlone leans on, part 40 of 49: Qe, Qa, Qb, Zr, Zo. No statement of its own.
-/
import Derived.Test.YtmlfangeanmmeaaGreatDoorAm2
import Derived.Test.YtmlfangeanmmeaaGreatDoorAm11
import Derived.Test.YtmlfangeanmmeaaGreatDoorAm30
import Derived.Test.YtmlfangeanmmeaaGreatDoorAm33
import Derived.Test.YtmlfangeanmmeaaGreatDoorAm34
import Derived.Test.YtmlfangeanmmeaaGreatDoorAm35
import Derived.Test.YtmlfangeanmmeaaGreatDoorAm38
import Derived.Test.YtmlfangeanmmeaaGreatDoorAm39
import Derived.Deep.DeepCutAuto
import Derived.Deep.CutBlock
set_option maxHeartbeats 16000000
set_option maxRecDepth 8000
set_option linter.unusedVariables false
namespace Go.Proofs.YtmlfangeanmmeaaGreatDoor
open Go.RowKit
section
variable {w0 w:World} {R:Asr} {t g n cp:Nat} {c:Cfg} {x:ThR} {y:AtR} {p:List InsR} {i:InsR} {A:Option Addr} {seen obs:List ObR} {es:List (Int × Int)} {fr:List Int}
theorem Zey (h:Hold w0 w (atA g c y*(queA 3 y.frees (iL fr)*R))) (hn:fr.length<=1000000):Calls Tryz.prog 179 #[ptrV g] w fun e w'=>∃A' c',e = .returned (.slice A' fr.length c')/\Hold w0 w' (queA 3 (.slice A' fr.length c') (iL fr)*(atA g c y*(queA 3 y.frees (iL fr)*R))):=by
 obtain⟨A,k,hv⟩:=h.drop.Zlu;rw[show (iL fr).length=fr.length from List.length_map _] at hv;have q:=h.at_frees;obtain⟨v,hv2⟩:∃v,v=y.frees:=⟨_,rfl⟩;rw[<- hv2] at h q hv |-;have HC:=hid (Zc4 (h.pk2 [1,0]) hn);subst hv;clear h hv2;go_enter Tryz.func179,Tryz.ntmps179;go_wp2_with fail;refine HC.out.mono ?_;rintro e w2 ⟨A',c',rfl,h2⟩;have H2:=hid (h2.pk3 [0,2,1]);clear HC q h2;go_wp2_with fail;go_ret;exact⟨A',c',rfl,H2.out⟩
def EnQ (w0:World) (t:Nat) (c:Cfg) (x:ThR) (p:List InsR) (b:Nat) (v:Int) (gl:Nat) (es:List (Int × Int)) (obs seen:List ObR) (A:Option Addr) (cp:Nat) (R:Asr) (w':World):Prop :=
 ∃(rg:Nat->Int) (ov:Value) (os:List ObR) (es':List (Int × Int)),(os=[]\/os=seen)/\es'.length<=es.length+2/\(∀z∈es',z∈es\/0<=z.1/\z.1<(nbl c:Nat)) /\
  Hold w0 w' (thA t c {x with attempt:=.pointer none,regs:=rg,obs:=ov,tries:=0,outcome:=v,pc:=Z0h p (b:Int)+1,done:=Z0h p (b:Int)+1==(p.length:Int)}*(Z0a (.slice A p.length cp) p*(obsA ov (obs++os++[⟨(b:Int),3,v⟩])*(limA gl c es'*R))))
theorem Zi6 {b gl glg:Nat} {L:PL} (h:Hold w0 w (thA t c x*(atA g c y*(lgA glg L*(queA 3 y.frees (iL fr)*(Z0a (.slice A p.length cp) p*(obsA x.seen seen*(obsA x.obs obs*(limA gl c es*R))))))))) (ha:x.attempt=ptrV g) (hlg:y.log=glg) (hy:y.code≠9/\0<=y.code/\y.code<=100) (hck:0<=y.clock/\y.clock<=1000) (hcf:CfS c) (hfr:fr.length<=2/\∀z∈fr,0<=z/\z<(nbl c:Nat)) (hcd:x.code = .slice A p.length cp) (hlm:x.limbo=ptrV gl)
  (hb:x.begin_=(b:Int)) (hi:p[b]?=some i) (h7:i.op=7) (hp:ProgV p) (hpf:inT p p.length=false) (hpj:ProgJ p) (hF:Z17 w0) (hl:seen.length<=10000/\obs.length<=10000/\es.length<=10000) :
  Calls Tryz.prog 104 #[ptrV t] w fun e w'=>e = .returned (.tuple #[])/\EnQ w0 t c x p b y.code gl es obs seen A cp R w':=by
 obtain⟨A1,c1,hsv⟩:=(h.pk6 [5]).Zlt;obtain⟨A2,c2,hov⟩:=(h.pk7 [6]).Zlt;rw[hsv,hov] at h;obtain⟨cd,hcde⟩:∃v,v=y.code:=⟨_,rfl⟩;rw[<- hcde] at hy |-;have HX:=hid (And.intro ha (And.intro hcd (And.intro hsv (And.intro hov (And.intro hb hlm)))));have HY:=hid (And.intro hcde (And.intro hlg (And.intro hck hfr)));have HP:=hid (And.intro hi (And.intro h7 (And.intro hp (And.intro hpf (And.intro hpj (And.intro hF hcf))))));have hq0:∀w' R',Hold w0 w' (thA t c x*(atA g c y*R'))->w'.cell? ⟨t,0,none⟩=some (ptrV g)/\Calls Tryz.prog 60 #[ptrV g] w' fun e w''=>e = .returned (.int .i64 cd)/\w''=w':=fun w' R' h=>by
  refine⟨by have:=h.Zlw;rw[ha] at this;exact this,?_⟩;have:=Z6g h.swap;rw[<- hcde] at this;exact this.mono fun e w'' h=>⟨h.1,h.2.symm⟩
 have HQ:=hid hq0;replace h:=h.drew;clear ha hcd hsv hov hb hcde hlg hck hfr hi h7 hp hpf hpj hF hcf hq0 hlm;go_enter Tryz.func104,Tryz.ntmps104;go_upto_region 0 with fail
 refine Z01 [] (by kernel_rfl) ?_;generalize hW:w.drew=W at h |-;clear hW;refine Z04 (fun w'=>w'.cell? ⟨t,0,none⟩=some (ptrV g)/\Calls Tryz.prog 60 #[ptrV g] w' fun e w''=>e = .returned (.int .i64 cd)/\w''=w') (fun _ _=>trivial) _ _ _ _ ?_;refine' wbk [true,true,true,true,true,true,true,true,true,true,true,true,true] 123 (HQ.out _ _ h) (fun wq hq=>?_) ?_;rotate_left
 ·simp only[Z08]
  obtain⟨q1,q2⟩:=hq
  repeat (first|go_big_quiet_step (fail)|(go_big_quiet_want;go_big_quiet_op;apply Exists.intro;refine⟨?_,?_⟩;(exact q2);go_big_quiet_on))
  exact wpQuiet_nil rfl
 refine Z02 (by kernel_rfl) ?_ _;have p1:=(HQ.out _ _ h).1;have z1:=h.thZ 0;have H2:=hid (h.th_attempt_set (.pointer none));clear h HQ;go_upto_region 2 with fail
 have h2:=H2.out;generalize hW:World.setCell _ _ _=W2 at h2 |-;clear hW H2 p1 z1;obtain⟨iO,hiO,zo0,zo1,zo2⟩:=Zkm;have e9:(cd==9)=false:=beq_eq_false_iff_ne.2 hy.1;go_upto_if 21 with fail
 go_cut [] (fun wx=>∃(rg:Nat->Int) (A3:Option Addr) (n3 c3:Nat) (os:List ObR) (es':List (Int × Int)),(os=[]\/os=seen)/\n3=(obs++os).length/\es'.length<=es.length+2/\(∀z∈es',z∈es\/0<=z.1/\z.1<(nbl c:Nat))/\Hold w0 wx (thA t c {x with attempt:=.pointer none,regs:=rg,obs:=.slice A3 n3 c3}*(Z0a (.slice A p.length cp) p*(rowT 55 3 (.slice A3 n3 c3) n3 (obL (obs++os))*(limA gl c es'*R)))))
 case first =>
  by_cases hc1:cd=1
  ·subst hc1
   go_upto_region 3 with fail;replace h2:=h2.drew;have hS3:∀w' R',Hold w0 w' (thA t c {x with attempt:=.pointer none}*R')->w'.cell? ⟨t,44,none⟩=some (.slice A2 obs.length c2)/\w'.cell? ⟨t,11,none⟩=some (.slice A1 seen.length c1):=fun w' R' h=>by
    have e1:=h.th_obs;have e2:=h.th_seen;rw[show ({x with attempt:=.pointer none}:ThR).obs=x.obs from rfl,HX.out.2.2.2.1] at e1;rw[show ({x with attempt:=.pointer none}:ThR).seen=x.seen from rfl,HX.out.2.2.1] at e2;exact⟨e1,e2⟩
   have HS3:=hid hS3;clear hS3;refine Z01 [13] (by kernel_rfl) ?_;generalize hW:W2.drew=W3 at h2 |-;clear hW;refine Z04 (fun w'=>w'.cell? ⟨t,44,none⟩=some (.slice A2 obs.length c2)/\w'.cell? ⟨t,11,none⟩=some (.slice A1 seen.length c1)) (fun _ _=>trivial) _ _ _ _ ?_;refine' wbk [true,true,true,true,true,true,true,true,true,true] 123 (HS3.out _ _ h2) (fun wq hq=>?_) ?_;rotate_left
   ·simp only[Z08]
    obtain⟨q1,q2⟩:=hq
    repeat (go_big_quiet_step (fail))
    exact wpQuiet_nil rfl
   refine wbi 10 (fuel:=3) (fun QB hQB hQX=>?_);go_wp2_with (at_builtin;refine Z2n rfl _ _ 53 rfl 55 iO (.agg #[.int .i64 0,.int .i64 0,.int .u64 0]) 3 24 Tryz.underlying53 hiO zo0 zo1 zo2 rfl (by decide) (.slice A2 obs.length c2) obs.length (obL obs) (obL seen) rfl (h2.pk7 [6,0,1,2,3,4,5]) A1 seen.length c1 rfl (Zio seen) (Hold.rowSrc (h2.pk6 [5]) (by decide)) (Za4 seen) (by omega) (by decide) ?_);intro A3 c3 y4 h5;have h3:=h5.pk7 [1,2,3,4,5,6,0];clear h5 h2;go_wp2_with fail;refine hQB.out _ _ (HS3.out _ _ h3) ?_;clear hQB hQX QB;refine' wbz [false,false,false,false,false,false,false,false,false,false,false,true,true] 123 (HS3.out _ _ h3) ?_;refine wbj 13 (fuel:=0) (fun QB hQB hQX=>?_);have p1:=(HS3.out _ _ h3).1;have z1:=h3.thZ 44;have H4:=hid (h3.th_obs_set (.slice A3 (obs.length+seen.length) c3));clear h3;go_wp2_with fail;refine hQB.out _ _ ?_;clear hQB hQX QB p1 z1 HS3;refine Z06 (by kernel_rfl) ?_;refine Z02 (by kernel_rfl) ?_ _;have h5:=H4.out;generalize hW:World.setCell _ _ _=W4 at h5 |-;clear hW H4;replace h5:Hold w0 W4 (atA g c y*(queA 3 y.frees (iL fr)*(thA t c {x with attempt:=.pointer none,obs:=.slice A3 (obs.length+seen.length) c3}*(lgA glg L*(Z0a (.slice A p.length cp) p*(obsA (.slice A1 seen.length c1) seen*(rowT 55 3 (.slice A3 (obs.length+seen.length) c3) (obs.length+seen.length) (obL obs++obL seen)*(limA gl c es*R)))))))):=h5.pk7 [1,3,0,2,4,5,6];have HFr:=hid (Zey h5 (by have:=HY.out.2.2.2.1;omega));clear h5;obtain⟨fn,hfn⟩:∃fn,fn=fr.length:=⟨_,rfl⟩;rw[<- hfn] at HFr;have HFN:=hid hfn;clear hfn;go_upto_region 5 with fail
   refine HFr.out.mono ?_;rintro e w5 ⟨A6,c6,rfl,h6⟩;clear HFr;have hend:∀w' es' R2,es'.length<=es.length+2->(∀z∈es',z∈es\/0<=z.1/\z.1<(nbl c:Nat))->Hold w0 w' (thA t c {x with attempt:=.pointer none,obs:=.slice A3 (obs.length+seen.length) c3}*(Z0a (.slice A p.length cp) p*(rowT 55 3 (.slice A3 (obs.length+seen.length) c3) (obs.length+seen.length) (obL obs++obL seen)*(limA gl c es'*(R2*R)))))->Hid (∃(rg:Nat->Int) (A3:Option Addr) (n3 c3:Nat) (os:List ObR) (es':List (Int × Int)),(os=[]\/os=seen)/\n3=(obs++os).length/\es'.length<=es.length+2/\(∀z∈es',z∈es\/0<=z.1/\z.1<(nbl c:Nat))/\Hold w0 w' (thA t c {x with attempt:=.pointer none,regs:=rg,obs:=.slice A3 n3 c3}*(Z0a (.slice A p.length cp) p*(rowT 55 3 (.slice A3 n3 c3) n3 (obL (obs++os))*(limA gl c es'*R))))):=fun w' es' R2 h1 h2 h3=>hid ⟨x.regs,A3,obs.length+seen.length,c3,seen,es',.inr rfl,by rw[List.length_append],h1,h2,by rw[Zip];exact h3.imp (Imp.under _ (Imp.under _ (Imp.under _ (Imp.under _ (Imp.drop _ _)))))⟩;have HEND:=hid hend;clear hend
   by_cases hf0:0<fn
   ·have ef:decide ((0:Int)<(fn:Int))=true:=decide_eq_true (by omega)
    have ef':decide (0<fn)=true:=decide_eq_true hf0;go_upto_region 6 with fail
    clear ef ef' hf0;replace h6:=h6.drew;have hS6:∀w' R',Hold w0 w' (queA 3 (.slice A6 fn c6) (iL fr)*(atA g c y*(queA 3 y.frees (iL fr)*(thA t c {x with attempt:=.pointer none,obs:=.slice A3 (obs.length+seen.length) c3}*(lgA glg L*R')))))->w'.cell? ⟨t,43,none⟩=some (ptrV gl)/\∃vs:Int,Calls Tryz.prog 173 #[ptrV g] w' fun e w''=>e = .returned (.int .i64 vs)/\w'=w'':=fun w' R' h=>by
     have e1:=(h.pk4 [3]).th_limbo;rw[show ({x with attempt:=.pointer none,obs:=.slice A3 (obs.length+seen.length) c3}:ThR).limbo=x.limbo from rfl,HX.out.2.2.2.2.2] at e1;exact⟨e1,_,Z3f (h.pk5 [1,4]) HY.out.2.1 (by have:=HY.out.2.2.1;omega)⟩
    have HS6:=hid hS6;clear hS6;refine Z01 [] (by kernel_rfl) ?_;generalize hW:World.drew _=W6 at h6 |-;clear hW;refine Z04 (fun w'=>w'.cell? ⟨t,43,none⟩=some (ptrV gl)) (fun _ _=>trivial) _ _ _ _ ?_;refine' wby [true,true,true,true,true,false,true] 123 (HS6.out _ _ h6).1 ?_;refine wbi 5 (fuel:=1) (fun QB hQB hQX=>?_);go_wp2_with fail;obtain⟨vs,hvs⟩:=(HS6.out _ _ h6).2;refine hvs.mono ?_;rintro e w' ⟨rfl,rfl⟩;clear hvs;go_wp2_with fail;refine hQB.out _ _ (HS6.out _ _ h6).1 ?_;clear hQB hQX QB;refine wbi 7 (fuel:=0) (fun QB hQB hQX=>?_);go_wp2_with fail;refine(Zj6 w0 _ _ gl c HP.out.2.2.2.2.2.2 es vs A6 fn c6 fr (h6.pk9 [8,0,1,2,3,4,5,6,7]) HFN.out.symm HY.out.2.2.2.2 (by have:=HY.out.2.2.2.1;have:=HFN.out;omega) hl.2.2).mono ?_;rintro e w7 ⟨rfl,h8⟩;have h7:=h8.pk9 [1,2,3,4,5,6,7,8,0];clear h8 h6;go_wp2_with fail;refine hQB.out _ _ (HS6.out _ _ h7).1 ?_;clear hQB hQX QB HS6;refine Z02 (by kernel_rfl) ?_ _;have h8:=h7.pk9 [3,5,7,8,0,1,2,4,6];have HZ:=HEND.out _ (addE es vs fr) _ (by unfold addE;rw[List.length_append,List.length_map];have:=HY.out.2.2.2.1;omega) (fun z hz=>by
     unfold addE at hz;rcases List.mem_append.1 hz with h|h
     ·exact .inl h
     ·obtain⟨b',hb',rfl⟩:=List.mem_map.1 h
      exact .inr (HY.out.2.2.2.2 b' hb')) ((((((h8.pk9 [4,5,6,7,8,0,1,2,3]).join).join).join).join).pk5 [1,2,3,4,0])
    clear h7 h8;go_wp2_with fail;go_meet;exact HZ.out
   ·obtain rfl:fn=0:=by omega
    have HZ:=HEND.out _ es _ (by omega) (fun z hz=>.inl hz) ((((((h6.pk9 [0,1,2,4,6,3,5,7,8]).join).join).join).join).pk5 [1,2,3,4,0]);clear h6 hf0;go_wp2_with fail;go_meet;exact HZ.out
  ·have e1:(cd==1)=false:=beq_eq_false_iff_ne.2 hc1
   clear hc1;have hfn:Hold w0 W2 (fnA 116 t 46 (thF c {x with attempt:=.pointer none})*(atA g c y*(lgA glg L*(queA 3 y.frees (iL fr)*(Z0a (.slice A p.length cp) p*(obsA (.slice A1 seen.length c1) seen*(obsA (.slice A2 obs.length c2) obs*(limA gl c es*R)))))))):=h2;go_upto_region 7 with fail
   go_wp2_with (first|(refine Z0l rfl 61 _ rfl t 2 116 46 _ #[.int .u64 (x.saved 0),.int .u64 (x.saved 1),.int .u64 (x.saved 2),.int .u64 (x.saved 3),.int .u64 (x.saved 4),.int .u64 (x.saved 5),.int .u64 (x.saved 6),.int .u64 (x.saved 7)] rfl Tryz.isAgg61 8 Tryz.sizeOf61 hfn rfl (by decide) ?_)|(refine Z0q rfl 61 _ _ rfl t 33 116 46 _ #[.int .u64 (x.saved 0),.int .u64 (x.saved 1),.int .u64 (x.saved 2),.int .u64 (x.saved 3),.int .u64 (x.saved 4),.int .u64 (x.saved 5),.int .u64 (x.saved 6),.int .u64 (x.saved 7)] rfl rfl _ Tryz.sizeOf61 hfn rfl (by decide) rfl ?_;intro w5 h5));have h6:Hold w0 w5 (thA t c {x with attempt:=.pointer none,regs:=x.saved}*(atA g c y*(lgA glg L*(queA 3 y.frees (iL fr)*(Z0a (.slice A p.length cp) p*(obsA (.slice A1 seen.length c1) seen*(obsA (.slice A2 obs.length c2) obs*(limA gl c es*R)))))))):=h5.Zm4 (by kernel_rfl);clear hfn h2 h5;go_meet;refine⟨x.saved,A2,obs.length,c2,[],es,.inl rfl,by rw[List.append_nil],by omega,fun z hz=>.inl hz,?_⟩;rw[List.append_nil];have h7:=h6.pk8 [0,4,6,7];rw[show ({x with attempt:=.pointer none,regs:=x.saved,obs:=.slice A2 obs.length c2}:ThR)={x with attempt:=.pointer none,regs:=x.saved} by rw[<- HX.out.2.2.2.1]];exact h7
 case rest =>
 clear h2
 rename World=>w6
 obtain⟨rg,A3,n3,c3,os,es',hos,hn3,hes1,hes2,h6⟩:=hcut;have HO:=hid (And.intro hos (And.intro hn3 (And.intro hes1 hes2)));have hn3b:n3<=30000:=by
  rw[hn3,List.length_append];rcases hos with rfl|rfl
  ·show obs.length+0<=_;omega
  ·omega
 clear hos hn3 hes1 hes2;go_upto_region 12 with fail
 have p1:=h6.th_tries;have z1:=h6.thZ 10;have p2:=h6.th_outcome;have z2:=h6.thZ 41;have H7:=hid ((h6.th_tries_set 0).th_outcome_set cd);clear h6;go_upto_region 13 with fail
 have h7:=H7.out;generalize hW:World.setCell _ _ _=W7 at h7 |-;clear hW H7 p1 z1 p2 z2;replace h7:Hold w0 W7 (thA t c {x with attempt:=.pointer none,regs:=rg,obs:=.slice A3 n3 c3,tries:=0,outcome:=cd}*(Z0a (.slice A p.length cp) p*(rowT 55 3 (.slice A3 n3 c3) n3 (obL (obs++os))*(limA gl c es'*R)))):=h7;replace h7:=h7.drew;have hS4:∀w' R',Hold w0 w' (thA t c {x with attempt:=.pointer none,regs:=rg,obs:=.slice A3 n3 c3,tries:=0,outcome:=cd}*R')->w'.cell? ⟨t,44,none⟩=some (.slice A3 n3 c3)/\w'.cell? ⟨t,1,none⟩=some (.int .i64 (b:Int)):=fun w' R' h=>by
  have e1:=h.th_obs;have e2:=h.th_begin_;rw[show ({x with attempt:=.pointer none,regs:=rg,obs:=.slice A3 n3 c3,tries:=0,outcome:=cd}:ThR).begin_=x.begin_ from rfl,HX.out.2.2.2.2.1] at e2;exact⟨e1,e2⟩
 have HS4:=hid hS4;clear hS4;have ecd:cd%18446744073709551616=cd:=Int.emod_eq_of_lt hy.2.1 (by omega);refine Z01 [17] (by kernel_rfl) ?_;generalize hW:W7.drew=W8 at h7 |-;clear hW;refine Z04 (fun w'=>w'.cell? ⟨t,44,none⟩=some (.slice A3 n3 c3)/\w'.cell? ⟨t,1,none⟩=some (.int .i64 (b:Int))) (fun _ _=>trivial) _ _ _ _ ?_;refine' wbk [true,true,true,true,true,true,true,true,true,true,true,true,true] 123 (HS4.out _ _ h7) (fun wq hq=>?_) ?_;rotate_left
 ·simp only[Z08]
  obtain⟨q1,q2⟩:=hq
  repeat (go_big_quiet_step (fail))
  exact wpQuiet_nil rfl
 refine wbi 13 (fuel:=4) (fun QB hQB hQX=>?_);go_wp2_with fail;refine hQB.out _ _ (HS4.out _ _ (h7.alloc _)) ?_;clear hQB hQX QB;refine wbi 14 (fuel:=3) (fun QB hQB hQX=>?_);go_wp2_with (at_builtin;refine Z0s rfl _ _ 53 rfl 55 iO (.agg #[.int .i64 0,.int .i64 0,.int .u64 0]) 3 24 Tryz.underlying53 hiO zo0 zo1 zo2 rfl (by decide) (.slice A3 n3 c3) n3 (obL (obs++os)) [.int .i64 (b:Int),.int .i64 3,.int .u64 cd] _ rfl (h7.pk3 [2,0,1]) _ rfl rfl rfl rfl (by omega) (by decide) ?_);intro A9 c9 y9 h9;have h8:=h9.pk3 [1,2,0];clear h9 h7;go_wp2_with fail;refine hQB.out _ _ (HS4.out _ _ h8) ?_;clear hQB hQX QB;refine' wbz [false,false,false,false,false,false,false,false,false,false,false,false,false,false,false,true,true] 123 (HS4.out _ _ h8) ?_;refine wbj 17 (fuel:=0) (fun QB hQB hQX=>?_);have p1:=(HS4.out _ _ h8).1;have z1:=h8.thZ 44;have H9:=hid (h8.th_obs_set (.slice A9 (n3+1) c9));clear h8;go_wp2_with fail;refine hQB.out _ _ ?_;clear hQB hQX QB p1 z1 HS4;refine Z06 (by kernel_rfl) ?_;refine Z02 (by kernel_rfl) ?_ _;go_upto_region 14 with fail
 have h9:=H9.out;generalize hW:World.setCell _ _ _=W9 at h9 |-;clear hW H9;replace h9:Hold w0 W9 (thA t c {x with attempt:=.pointer none,regs:=rg,obs:=.slice A9 (n3+1) c9,tries:=0,outcome:=cd}*(Z0a (.slice A p.length cp) p*(obsA (.slice A9 (n3+1) c9) (obs++os++[⟨(b:Int),3,cd⟩])*(limA gl c es'*R)))):=by
  have e1:obL (obs++os)++[Value.int .i64 (b:Int),Value.int .i64 3,Value.int .u64 cd]=obL (obs++os++[⟨(b:Int),3,cd⟩]):=(Z7l (obs++os) ⟨(b:Int),3,cd⟩).symm;have e2:(obs++os++[(⟨(b:Int),3,cd⟩:ObR)]).length=n3+1:=by rw[List.length_append,<- HO.out.2.1];rfl
  show Hold w0 W9 (_*(_*(rowT 55 3 _ (obs++os++[(⟨(b:Int),3,cd⟩:ObR)]).length (obL (obs++os++[⟨(b:Int),3,cd⟩]))*_)));rw[e2,<- e1];exact h9
 replace h9:=h9.drew;have hS5:∀w' pc0 dn0 R',Hold w0 w' (thA t c {x with attempt:=.pointer none,regs:=rg,obs:=.slice A9 (n3+1) c9,tries:=0,outcome:=cd,pc:=pc0,done:=dn0}*R')->w'.cell? ⟨t,31,none⟩=some (.slice A p.length cp)/\w'.cell? ⟨t,1,none⟩=some (.int .i64 (b:Int)):=fun w' pc0 dn0 R' h=>by
  have e1:=h.th_code;have e2:=h.th_begin_;rw[show ({x with attempt:=.pointer none,regs:=rg,obs:=.slice A9 (n3+1) c9,tries:=0,outcome:=cd,pc:=pc0,done:=dn0}:ThR).begin_=x.begin_ from rfl,HX.out.2.2.2.2.1] at e2;rw[show ({x with attempt:=.pointer none,regs:=rg,obs:=.slice A9 (n3+1) c9,tries:=0,outcome:=cd,pc:=pc0,done:=dn0}:ThR).code=x.code from rfl,HX.out.2.1] at e1;exact⟨e1,e2⟩
 have HS5:=hid hS5;clear hS5;have HCm:=hid (Zds HP.out.2.2.2.2.2.1 h9.swap HP.out.2.2.1 HP.out.2.2.2.1 HP.out.2.2.2.2.1 HP.out.1 HP.out.2.1);obtain⟨cm,hcm⟩:∃cm,cm=Z0h p (b:Int):=⟨_,rfl⟩;have hcr:0<=cm/\cm<=64:=by
  obtain⟨j,hj,_,hle,_⟩:=Z1b HP.out.2.2.2.1 HP.out.1 HP.out.2.1;have:=HP.out.2.2.1.len;rw[hcm];rw[hj];omega
 rw[<- hcm] at HCm;have HCE:=hid hcm;clear hcm;obtain⟨pl,hpl⟩:∃pl,pl=p.length:=⟨_,rfl⟩;refine Z01 [] (by kernel_rfl) ?_;generalize hW:W9.drew=W10 at h9 HCm |-;clear hW;refine Z04 (fun w'=>w'.cell? ⟨t,31,none⟩=some (.slice A p.length cp)/\w'.cell? ⟨t,1,none⟩=some (.int .i64 (b:Int))) (fun _ _=>trivial) _ _ _ _ ?_;refine' wbk [true,true,true,true,true,true,true,true,true,true] 123 (HS5.out _ x.pc x.done _ h9) (fun wq hq=>?_) ?_;rotate_left
 ·simp only[Z08]
  obtain⟨q1,q2⟩:=hq
  repeat (go_big_quiet_step (fail))
  exact wpQuiet_nil rfl
 refine wbi 10 (fuel:=2) (fun QB hQB hQX=>?_);go_wp2_with fail;refine HCm.out.mono ?_;rintro e w11 ⟨rfl,h10⟩;have h11:=h10.swap;clear h10 h9;go_wp2_with fail;refine hQB.out _ _ (HS5.out _ x.pc x.done _ h11) ?_;clear hQB hQX QB HCm;refine' wby [false,false,false,false,false,false,false,false,false,false,false,true] 123 (HS5.out _ x.pc x.done _ h11) ?_;refine wbi 12 (fuel:=0) (fun QB hQB hQX=>?_);go_wp2_with fail;refine(Zfm (n:=p.length) (cp:=cp) (A:=A) h11 HX.out.2.1).mono ?_;rintro e w12 ⟨rfl,h12⟩;clear h11;go_wp2_with fail;refine hQB.out _ _ (HS5.out _ (cm+1) (cm+1==(p.length:Int)) _ h12) ?_;clear hQB hQX QB HS5;refine Z02 (by kernel_rfl) ?_ _;rw[HCE.out] at h12;have H12:=hid h12;clear h12;go_wp2_with fail
 go_end0
 exact⟨rfl,rg,_,os,es',HO.out.1,HO.out.2.2.1,HO.out.2.2.2,H12.out⟩
end
section
variable {w0 w:World} {R F:Asr} {t g m s n cp:Nat} {c:Cfg} {sg:Bool} {x:ThR} {i:InsR} {A:Option Addr} {p:List InsR} {seen obs:List ObR} {es:List (Int × Int)}
theorem Zcx {P:AP} (h:Hold w0 w (aS g m c sg s P*F)):∃q,ph c sg s q P/\Hold w0 w (sepR (ps g m c q P) F):=h.Zlq
theorem Zhb (h:Hold w0 w (aS g m c sg s .idle0*F)):Hold w0 w (aS g m c sg s .idle*F):=by
 obtain⟨q,hq,h⟩:=h.Zlq;exact Z0c (P:=.idle) q ⟨hq.1,hq.2.1,hq.2.2.1⟩ h
def AnQ (w0:World) (t g m:Nat) (c:Cfg) (s:Nat) (x:ThR) (n:Nat) (seen:List ObR) (R:Asr) (w':World):Prop :=
 ∃rg sv seen',(seen'=seen\/∃o:ObR,(o.kind=1\/o.kind=2)/\seen'=seen++[o])/\Hold w0 w' (thA t c {x with regs:=rg,seen:=sv,pc:=x.pc+1,done:=x.pc+1==(n:Int)}*(aS g m c false s .idle*(obsA sv seen'*R)))
theorem Zbo {v:Value} {o:ObR} {ks:Nat} (h:Hold w0 w (rowS 55 3 v (seen.length+1) (obL seen++[.int .i64 o.pc,.int .i64 o.kind,.int .u64 o.val])*R)):Hold w0 w (obsA v (seen++[o])*R):=by
 show Hold w0 w (rowS 55 3 v (seen++[o]).length (obL (seen++[o]))*R);rw[Z7l,List.length_append];exact h
theorem Zh6 (h:Hold w0 w (thA t c x*(aS g m c false s .idle*(obsA x.seen seen*R)))) (ha:x.attempt=ptrV g) (hst:x.strong=false) (hc:x.code = .slice A n cp) (h0:0<=x.pc/\x.pc<=1000000) (hr:0<=i.a/\i.a<8) (hn:seen.length<=1000) :
  Calls Tryz.prog 61 #[ptrV t,i.val] w fun e w'=>e = .returned (.tuple #[])/\AnQ w0 t g m c s x n seen R w':=by
 obtain⟨q,hq,h⟩:=Zcx (h.pk3 [1,0,2]);have hs1:q.x.state=1:=hq.1.1.st1;have h1:Hold w0 w (thA t c x*(atA g c q.x*(obsA x.seen seen*sepR [memA m q.C,lgA q.x.log q.L,queA 3 q.x.allocs (iL q.al),queA 3 q.x.frees (iL q.fr),queA 3 q.x.seen (iL q.sn),stA q.x.set (Z09 c.reads) q.xs,enA q.ge 0 3 q.rv] R))):=Hold.pk10 h [8,0,9,1,2,3,4,5,6,7];have hcl:∀{w':World} {x':ThR} {sv:Value} {seen':List ObR},Hold w0 w' (thA t c x'*(atA g c q.x*(obsA sv seen'*sepR [memA m q.C,lgA q.x.log q.L,queA 3 q.x.allocs (iL q.al),queA 3 q.x.frees (iL q.fr),queA 3 q.x.seen (iL q.sn),stA q.x.set (Z09 c.reads) q.xs,enA q.ge 0 3 q.rv] R)))->Hold w0 w' (thA t c x'*(aS g m c false s .idle*(obsA sv seen'*R))):=fun h=>by
  have h2:=Z0c (P:=.idle) q hq (Hold.pk10 h [1,3,4,5,6,7,8,9,0,2]);exact h2.pk3 [1,0,2]
 obtain⟨r,hra⟩:∃r:Nat,i.a=(r:Int):=⟨i.a.toNat,by omega⟩
 by_cases h10:i.op=10
 ·refine(Z9o (n:=seen.length) (us:=obL seen) h1 ha hs1 hst hc h0 h10 hra (by omega) hn).mono ?_
  rintro e w' ⟨A',c',rfl,h2⟩;have h3:=Zbo (o:=⟨x.pc,1,q.x.value⟩) (ks:=0) (h2.pk3 [2,0,1]);exact⟨rfl,_,_,_,.inr ⟨_,.inl rfl,rfl⟩,hcl (h3.pk3 [1,2,0])⟩
 ·by_cases h14:i.op=14
  ·refine(Z8m (n:=seen.length) (us:=obL seen) h1 ha hs1 hst hc h0 h14 hra (by omega) hn).mono ?_
   rintro e w' ⟨A',c',rfl,h2⟩;have h3:=Zbo (o:=⟨x.pc,2,q.x.value⟩) (ks:=0) (h2.pk3 [2,0,1]);exact⟨rfl,_,_,_,.inr ⟨_,.inr rfl,rfl⟩,hcl (h3.pk3 [1,2,0])⟩
  ·refine(Z9p h1 ha hs1 hst hc h0 h10 h14).mono ?_
   rintro e w' ⟨rfl,h2⟩;exact⟨rfl,x.regs,x.seen,seen,.inl rfl,hcl h2⟩
def FnQ (w0:World) (t m:Nat) (c:Cfg) (s:Nat) (x:ThR) (p:List InsR) (b gl:Nat) (es:List (Int × Int)) (obs seen:List ObR) (A:Option Addr) (cp:Nat) (R:Asr) (w':World):Prop :=
 ∃(v:Int) (rg:Nat->Int) (ov:Value) (os:List ObR) (es':List (Int × Int)),v≠5/\(os=[]\/os=seen)/\es'.length<=es.length+2/\(∀z∈es',z∈es\/0<=z.1/\z.1<(nbl c:Nat)) /\
  Hold w0 w' (thA t c {x with attempt:=.pointer none,regs:=rg,obs:=ov,tries:=0,outcome:=v,pc:=Z0h p (b:Int)+1,done:=Z0h p (b:Int)+1==(p.length:Int)}*(Z0a (.slice A p.length cp) p*(obsA ov (obs++os++[⟨(b:Int),3,v⟩])*(limA gl c es'*(mS m c s*R)))))
theorem Zjm {b gl:Nat} {ib:InsR} (h:Hold w0 w (thA t c x*(aS g m c false s .fin*(Z0a (.slice A p.length cp) p*(obsA x.seen seen*(obsA x.obs obs*(limA gl c es*R)))))))
  (hc:CfA c) (ha:x.attempt=ptrV g) (hst:x.strong=false) (hcd:x.code = .slice A p.length cp) (hlm:x.limbo=ptrV gl) (hb:x.begin_=(b:Int)) (hi:p[b]?=some ib) (h7:ib.op=7) (hp:PgA p) (hF:Z17 w0) (hl:seen.length<=10000/\obs.length<=10000/\es.length<=10000) :
  Calls Tryz.prog 61 #[ptrV t,i.val] w fun e w'=>e = .returned (.tuple #[])/\FnQ w0 t m c s x p b gl es obs seen A cp R w':=by
 obtain⟨q,⟨K,hat,M⟩,h⟩:=Zcx (h.pk2 [1,0]);have hs2:q.x.state=2:=K.st1;have h1:Hold w0 w (thA t c x*(atA g c q.x*(lgA q.x.log q.L*(queA 3 q.x.frees (iL q.fr)*(Z0a (.slice A p.length cp) p*(obsA x.seen seen*(obsA x.obs obs*(limA gl c es*sepR [memA m q.C,queA 3 q.x.allocs (iL q.al),queA 3 q.x.seen (iL q.sn),stA q.x.set (Z09 c.reads) q.xs,enA q.ge 0 3 q.rv] R)))))))):=by
  have h2:=Hold.pk9 h [8,0,2,4,1,3,5,6,7];exact h2.imp (Imp.under _ (Imp.under _ (Imp.under _ (Imp.under _ (Imp.pick R [5,6,7,8,0,1,2,3,4] [memA m q.C,queA 3 q.x.allocs (iL q.al),queA 3 q.x.seen (iL q.sn),stA q.x.set (Z09 c.reads) q.xs,enA q.ge 0 3 q.rv,Z0a (.slice A p.length cp) p,obsA x.seen seen,obsA x.obs obs,limA gl c es] (by decide) (show ∀i ∈ [5,6,7,8,0,1,2,3,4],i<9 by decide))))))
 refine Zce h1 ha hs2 hst (fun w' h=>?_);refine(Zi6 (fr:=q.fr) (L:=q.L) h ha rfl ⟨K.cod.1.2.1,K.cod.1.2.2.1,by have:=K.cod.1.2.2.2;omega⟩ K.ckr hc.s ⟨K.frl,K.frr⟩ hcd hlm hb hi h7 hp.v hp.f hp.j hF hl).mono ?_;rintro e w'' ⟨rfl,rg,ov,os,es',h1,h2,h3,h4⟩;refine⟨rfl,rfl,q.x.code,rg,ov,os,es',K.cod.1.1,h1,h2,h3,?_⟩;have h5:=Z2t (m:=m) (c:=c) (s:=s) (t:=q.t) (ck:=q.ck) (C:=q.C) ⟨K.tb.1,by have:=K.tb.2;omega⟩ M (h4.pk5 [4,0,1,2,3]);exact(h5.pk5 [1,2,3,4,0]).imp (Imp.under _ (Imp.under _ (Imp.under _ (Imp.under _ (Imp.under _ ((Imp.drop _ _).trans ((Imp.drop _ _).trans ((Imp.drop _ _).trans (Imp.drop _ _)))))))))
theorem Zjl {b gl:Nat} (h:Hold w0 w (thA t c x*(aS g m c true s .fin*(obsA x.obs obs*R)))) (ha:x.attempt=ptrV g) (hst:x.strong=true) (hcd:x.code = .slice A n cp) (h0:0<=x.pc/\x.pc<=1000000) (hra:0<=i.a/\i.a<8) (hrb:0<=i.b/\i.b<8) (hl:obs.length<=100000) :
  Calls Tryz.prog 61 #[ptrV t,i.val] w fun e w'=>e = .returned (.tuple #[])/\EsQ w0 t c x n obs (mS m c s*R) w':=by
 obtain⟨q,⟨K,hat,M⟩,h⟩:=Zcx (h.pk2 [1,0]);have hs2:q.x.state=2:=K.st1;have h1:Hold w0 w (thA t c x*(atA g c q.x*(obsA x.obs obs*sepR [memA m q.C,lgA q.x.log q.L,queA 3 q.x.allocs (iL q.al),queA 3 q.x.frees (iL q.fr),queA 3 q.x.seen (iL q.sn),stA q.x.set (Z09 c.reads) q.xs,enA q.ge 0 3 q.rv] R))):=Hold.pk10 h [8,0,9,1,2,3,4,5,6,7];refine Zd9 h1 ha hs2 hst (fun w' h=>?_);refine(Z8l h ha (K.cod.2 (by decide) rfl) hl hra hrb hcd h0).mono ?_;rintro e w'' ⟨rfl,ov,rg,kd,v,h1,h2⟩;refine⟨rfl,rfl,ov,rg,kd,v,h1,?_⟩;have h5:=Z2t (m:=m) (c:=c) (s:=s) (t:=q.t) (ck:=q.ck) (C:=q.C) ⟨K.tb.1,by have:=K.tb.2;omega⟩ M (h2.pk3 [2,0,1]);exact(h5.pk3 [1,2,0]).imp (Imp.under _ (Imp.under _ (Imp.under _ ((Imp.drop _ _).trans ((Imp.drop _ _).trans ((Imp.drop _ _).trans ((Imp.drop _ _).trans ((Imp.drop _ _).trans (Imp.drop _ _)))))))))
theorem Zkx {P:AP} (hP:P = .idle0\/P = .idle) (h:Hold w0 w (thA t c x*(aS g m c true s P*R))) (ha:x.attempt=ptrV g) (hst:x.strong=true) :
  Calls Tryz.prog 61 #[ptrV t,i.val] w fun e w'=>e = .returned (.tuple #[])/\Hold w0 w' (thA t c x*(aS g m c true s P*R)):=by
 obtain⟨q,k,l,hq,hl,h⟩:=Z8g (h.pk2 [1,0]);have hs1:q.x.state=1:=by rcases hP with rfl|rfl <;> exact hq.1.1.st1
 have hkl:ps g m c q P=clx g m c q 3 []:=by rcases hP with rfl|rfl <;> rfl
 have h2:Hold w0 w (thA t c x*(atA g c q.x*sepR [memA m q.C,lgA q.x.log q.L,queA 3 q.x.allocs (iL q.al),queA 3 q.x.frees (iL q.fr),queA 3 q.x.seen (iL q.sn),stA q.x.set (Z09 c.reads) q.xs,enA q.ge 0 3 q.rv] R)):=by
  rw[hkl] at h;exact Hold.pk9 h [8,0,1,2,3,4,5,6,7]
 refine(Zd8 h2 ha hs1 hst).mono ?_;rintro e w' ⟨rfl,h3⟩;refine⟨rfl,?_⟩;have h4:Hold w0 w' (sepR (ps g m c q P) (thA t c x*R)):=by
  rw[hkl];exact Hold.pk9 h3 [1,2,3,4,5,6,7,8,0]
 exact(Z0c q hq h4).pk2 [1,0]
end
def GoQ (w0:World) (t m:Nat) (c:Cfg) (p:List InsR) (s E u:Nat) (R:Asr) (ph:Int) (X:ThR) (Y:Asr):Prop :=
 X.id=0/\∃q T,q.x=X/\tph c p (s+1) q T/\q.b+tE T=E+(if ph=2 then 1 else 0)/\tmu p q T<=u/\∀w G,Hold w0 w (G*Y)->Hold w0 w (G*sepR (tps t m c p (s+1) q T).tail R)
section
variable {w0 w:World} {R F:Asr} {t m s k E u a:Nat} {c:Cfg} {p:List InsR} {i:InsR} {q:TD} {P P':AP} {ph:Int}
theorem TC.up (K:TC c p s k q):TC c p (s+1) k q:={K with esl:=by have:=K.esl;omega,cnt:=⟨K.cnt.1,by have:=K.cnt.2;omega⟩,tri:=⟨K.tri.1,by have:=K.tri.2;omega⟩,obl:=by have:=K.obl;omega}
theorem Z9n (h:∀j,P ≠ .en j) (h2:P ≠ .idle):tmu p q (.txn k P)=wsum p (k+1)+3*q.es.length+60+P.msr:=by
 cases P <;> first|rfl|exact absurd rfl h2|exact absurd rfl (h _)
theorem Zjg (h:bzA P=true):P ≠ .idle:=by rintro rfl;cases h
theorem pc_next {n:Int}:(((k+1:Nat):Int)==n)=((k:Int)+1==n):=by rw[Int.natCast_add];rfl
theorem TC.go {q':TD} {k':Nat} (K:TC c p s k q) (hl:k'<=p.length) (he:q'.A=q.A/\q'.cp=q.cp/\q'.es=q.es/\q'.gl=q.gl) (hx:q'.x.code=q.x.code/\q'.x.id=q.x.id/\q'.x.threads=q.x.threads/\q'.x.limbo=q.x.limbo/\q'.x.count=q.x.count/\q'.x.tries=q.x.tries) (hpc:q'.x.pc=(k':Int)) (hdn:q'.x.done=((k':Int)==(p.length:Int))) (ho:ObsI c.strong q'.obs q'.b) (hol:q'.obs.length<=2*s):TC c p s k' q' where
 code:=by rw[hx.1,he.1,he.2.1];exact K.code
 id0:=hx.2.1.trans K.id0
 th1:=hx.2.2.1.trans K.th1
 lim:=by rw[hx.2.2.2.1,he.2.2.2];exact K.lim
 esr:=by rw[he.2.2.1];exact K.esr
 esl:=by rw[he.2.2.1];exact K.esl
 cnt:=by rw[hx.2.2.2.2.1];exact K.cnt
 tri:=by rw[hx.2.2.2.2.2];exact K.tri
 pc:=hpc
 kl:=hl
 dn:=hdn
 ob:=ho
 obl:=hol
theorem TC.next {q':TD} (K:TC c p s k q) (hl:k<p.length) (he:q'.A=q.A/\q'.cp=q.cp/\q'.es=q.es/\q'.gl=q.gl) (hx:q'.x.code=q.x.code/\q'.x.id=q.x.id/\q'.x.threads=q.x.threads/\q'.x.limbo=q.x.limbo/\q'.x.count=q.x.count/\q'.x.tries=q.x.tries) (hpc:q'.x.pc=q.x.pc+1) (hdn:q'.x.done=(q.x.pc+1==(p.length:Int))) (ho:ObsI c.strong q'.obs q'.b) (hol:q'.obs.length<=2*s):TC c p s (k+1) q' :=
 K.go hl he hx (by have:=K.pc;omega) (by rw[hdn,K.pc,pc_next]) ho hol
theorem Zg6 (h:∀j,P ≠ .en j) (hn:NxA P ph P'):ph≠2:=by
 rcases hn with⟨h1,_⟩|⟨h1,_⟩|⟨h1,_⟩|⟨_,_,h1,_⟩
 ·exact absurd h1 (h 0)
 ·exact absurd h1 (h 1)
 ·exact absurd h1 (h 2)
 ·exact h1.1
theorem Zb1 (hc:CfA c) (hp:PgA p) (hF:Z17 w0) (hs:s<=899) (K:TC c p (s+1) k q) (hes:q.es.length<=2*s) (hob0:q.obs.length<=2*s) (ha:q.x.attempt=ptrV q.g) (hfe:q.x.fence = .pointer none) (hdr:q.x.drain = .pointer none) (hst:q.x.strong=false) (hsn:SeenI q.seen/\q.obs.length+q.seen.length<=2*s/\q.seen.length<=s) (hbg:q.x.begin_=(q.bg:Int)) (hB:BgI p q.bg k) (hi:p[k]?=some i) (hb:bzA P=true) (hg:gdA P=true)
  (hcs:((∃j,P = .en j)/\q.bg=k)\/((∀j,P ≠ .en j)/\q.bg<k)) (hcm:CmP p k P) (hE:∀ph P',NxA P ph P'->q.b+1=E+(if ph=2 then 1 else 0))
  (hu:wsum p (k+1)+3*q.es.length+P.msr<=u) (hu2:(∀j,P ≠ .en j)->wsum p (k+1)+3*q.es.length+59+P.msr<=u)
  (h:Hold w0 w (F*(thA t c q.x*(aS q.g m c false s P*(Z0a (.slice q.A p.length q.cp) p*(obsA q.x.obs q.obs*(limA q.gl c q.es*(obsA q.x.seen q.seen*R)))))))) :
  Calls Tryz.prog 37 #[ptrV t,ptrV m] w (AdZ w0 t c F (GoQ w0 t m c p s E u R)):=by
 have hkl:=hB.lt hp;have hop7:q.bg=k->i.op=7:=fun hk=>by
  obtain⟨ib,hib,h7,_⟩:=hB;rw[hk,hi] at hib;rw[Option.some.inj hib];exact h7
 have hV:=(hp.v.ins k i hi).regs;have hpl:=hp.v.len;have hpc:=K.pc;refine Zda hc (by omega) h ha K.code K.pc hi hb hg ?_ ?_
 ·intro ph P' hn hb'
  refine⟨K.id0,q,.txn k P',rfl,⟨K,ha,hfe,hdr,hst,⟨hsn.1,by have:=hsn.2;omega,by have:=hsn.2;omega⟩,hbg,hB,?_,?_⟩,hE ph P' hn,?_,fun w G h=>h.pk6 [0,2,3,4,5,1]⟩
  ·rcases hn with⟨rfl,rfl,rfl⟩|⟨rfl,rfl,rfl⟩|⟨rfl,rfl,rfl⟩|⟨_,hne,_,hlow,_⟩
   ·exact .inl ⟨.inl rfl,hcs.elim (fun h=>h.2) fun h=>absurd rfl (h.1 0)⟩
   ·exact .inl ⟨.inr rfl,hcs.elim (fun h=>h.2) fun h=>absurd rfl (h.1 1)⟩
   ·cases hb'
   ·exact .inr ⟨.inr ⟨hb',hlow.2.1,hlow.2.2.2⟩,hcs.elim (fun h=>by obtain⟨j,hj⟩:=h.1;exact absurd hj (hne j)) fun h=>h.2⟩
  ·intro i' hi' h8 _
   rw[hi] at hi';obtain rfl:=Option.some.inj hi';rcases hn with⟨rfl,rfl,rfl⟩|⟨rfl,rfl,rfl⟩|⟨rfl,rfl,rfl⟩|⟨_,hne,_,hlow,hend⟩
   ·have:=hop7 (hcs.elim (fun h=>h.2) fun h=>absurd rfl (h.1 0));omega
   ·have:=hop7 (hcs.elim (fun h=>h.2) fun h=>absurd rfl (h.1 1));omega
   ·cases hb'
   ·exact hend (hcm i hi h8 hb)
  ·rcases hn with⟨rfl,rfl,rfl⟩|⟨rfl,rfl,rfl⟩|⟨rfl,rfl,rfl⟩|⟨_,hne,_,hlow,_⟩
   ·exact hu
   ·exact hu
   ·cases hb'
   ·have:=hu2 hne
    have:=hlow.1;rw[Z9n hlow.2.1 (Zjg hb')];omega
 ·intro ph P' G w' hn hb' h
  have hE':=hE ph P' hn;have key:(i.op≠8)->Hold w0 w' (G*(thA t c q.x*(aS q.g m c false (s+1) .idle*(Z0a (.slice q.A p.length q.cp) p*(F*(obsA q.x.obs q.obs*(limA q.gl c q.es*(obsA q.x.seen q.seen*R))))))))->wsum p (k+1)+3*q.es.length+52<=u ->
    Calls Tryz.prog 61 #[ptrV t,i.val] w' fun e w''=>e = .returned (.tuple #[])/\∃X Y,GoQ w0 t m c p s E u R ph X Y/\Hold w0 w'' (G*(thA t c X*(F*Y))):=by
   intro h8 h hu3;refine(Zh6 (n:=p.length) (h.pk8 [1,2,7,0,3,4,5,6]) ha hst K.code ⟨by omega,by omega⟩ hV.1 (by have:=hsn.2;omega)).mono ?_;rintro e w'' ⟨rfl,rg,sv,seen',hse,h2⟩;refine⟨rfl,{q.x with regs:=rg,seen:=sv,pc:=q.x.pc+1,done:=q.x.pc+1==(p.length:Int)},aS q.g m c false (s+1) .idle*(Z0a (.slice q.A p.length q.cp) p*(obsA q.x.obs q.obs*(limA q.gl c q.es*(obsA sv seen'*R)))),⟨K.id0,{q with x:={q.x with regs:=rg,seen:=sv,pc:=q.x.pc+1,done:=q.x.pc+1==(p.length:Int)},seen:=seen'},.txn (k+1) .idle,rfl,⟨K.next hkl ⟨rfl,rfl,rfl,rfl⟩ ⟨rfl,rfl,rfl,rfl,rfl,rfl⟩ rfl rfl K.ob (by show q.obs.length<=_;omega),ha,hfe,hdr,hst,?_,hbg,hB.next hp hi h8,.inr ⟨.inl rfl,?_⟩,fun _ _ _ hz=>(by cases hz)⟩,hE',hu3,fun w G h=>h.pk6 [0,2,3,4,5,1]⟩,h2.pk8 [3,0,5,1,4,6,7,2]⟩
   ·have:=hsn.2
    rcases hse with rfl|⟨o,ho,rfl⟩
    ·exact⟨hsn.1,by show q.obs.length+q.seen.length<=_;omega,by show q.seen.length<=_;omega⟩
    ·exact⟨hsn.1.add o ho,by show q.obs.length+(q.seen++[o]).length<=_;rw[List.length_append];show _+(_+1)<=_;omega,by show (q.seen++[o]).length<=_;rw[List.length_append];show _+1<=_;omega⟩
   ·show q.bg<k+1
    rcases hcs with h|h <;> omega
  rcases hn with⟨rfl,rfl,rfl⟩|⟨rfl,rfl,rfl⟩|⟨rfl,rfl,rfl⟩|⟨_,hne,_,hlow,hend⟩
  ·cases hb'
  ·cases hb'
  ·refine key (by have:=hop7 (hcs.elim (fun h=>h.2) fun h=>absurd rfl (h.1 2));omega) ?_ (by have:(AP.en 2).msr=57:=rfl;omega)
   have h3:=Zhb (F:=G*(thA t c q.x*(Z0a (.slice q.A p.length q.cp) p*(F*(obsA q.x.obs q.obs*(limA q.gl c q.es*(obsA q.x.seen q.seen*R))))))) (h.pk3 [2,0,1]);exact h3.pk3 [1,2,0]
  ·have hu3:=hu2 hne
   cases P' <;> first|cases hb'|skip
   ·exact absurd rfl hlow.2.2.1
   ·refine key (fun h8=>?_) h (by omega)
    have:=hend (hcm i hi h8 hb)
    cases this
   ·obtain⟨ib,hib,h7,_⟩:=hB
    obtain⟨j,hj1,hj2,hj3,hj4⟩:=BgI.end_ hp ⟨ib,hib,h7,by assumption⟩;refine(Zjm (x:=q.x) (seen:=q.seen) (obs:=q.obs) (es:=q.es) (R:=G*(F*R)) (h.pk8 [1,2,3,7,5,6,0,4]) hc ha hst K.code K.lim hbg hib h7 hp hF ⟨by have:=hsn.2;omega,by have:=hsn.2;omega,by omega⟩).mono ?_;rintro e w'' ⟨rfl,v,rg,ov,os,es',hv5,hos,hes1,hes2,h2⟩;have hob:ObsI c.strong (q.obs++os++[⟨(q.bg:Int),3,v⟩]) (q.b+1):=by
     have h3:ObsI c.strong (q.obs++os) q.b:=by
      rcases hos with rfl|rfl
      ·rw[List.append_nil];exact K.ob
      ·exact K.ob.seen hsn.1
     exact h3.add ⟨(q.bg:Int),3,v⟩ (fun h=>hv5 h.2)
    have hol:(q.obs++os++[(⟨(q.bg:Int),3,v⟩:ObR)]).length<=2*(s+1):=by
     rw[List.length_append,List.length_append];have:=hsn.2;rcases hos with rfl|rfl
     ·show q.obs.length+0+1<=_;omega
     ·show _+_+1<=_;omega
    refine⟨rfl,{q.x with attempt:=.pointer none,regs:=rg,obs:=ov,tries:=0,outcome:=v,pc:=Z0h p (q.bg:Int)+1,done:=Z0h p (q.bg:Int)+1==(p.length:Int)},Z0a (.slice q.A p.length q.cp) p*(obsA ov (q.obs++os++[(⟨(q.bg:Int),3,v⟩:ObR)])*(limA q.gl c es'*(mS m c (s+1)*R))),⟨K.id0,{q with x:={q.x with attempt:=.pointer none,regs:=rg,obs:=ov,tries:=0,outcome:=v,pc:=Z0h p (q.bg:Int)+1,done:=Z0h p (q.bg:Int)+1==(p.length:Int)},obs:=q.obs++os++[⟨(q.bg:Int),3,v⟩],es:=es',b:=q.b+1},.out (j+1),rfl,⟨{K with esr:=?_,esl:=?_,tri:=⟨Int.le_refl 0,?_⟩,pc:=?_,kl:=hj3,dn:=?_,ob:=hob,obl:=hol},rfl,hfe,hdr,hst,hj4⟩,hE',?_,fun w G h=>h⟩,h2.pk7 [5,0,6,1,2,3,4]⟩
    ·intro z hz
     exact(hes2 z hz).elim (K.esr z) id
    ·show es'.length<=_;omega
    ·show (0:Int)<=((s+1:Nat):Int);omega
    ·show Z0h p (q.bg:Int)+1=_;rw[hj1];rfl
    ·show (Z0h p (q.bg:Int)+1==(p.length:Int))=_;rw[hj1];exact pc_next.symm
    ·have:=Z3y p (a:=k+1) (b:=j+1) (by omega)
     show wsum p (j+1)+3*es'.length<=u;omega
theorem Zb2 (hc:CfA c) (hp:PgA p) (hs:s<=899) (K:TC c p (s+1) k q) (hes:q.es.length<=2*s) (hob0:q.obs.length<=2*s) (ha:q.x.attempt=ptrV q.g) (hfe:q.x.fence = .pointer none) (hdr:q.x.drain = .pointer none) (hst:q.x.strong=true) (hak:q.x.asked=(a:Int)/\a<=s+1/\c.strong=true) (hi:p[k]?=some i) (hop:(i.op=12\/i.op=13)/\tgR q.x i<c.words) (hin:inT p k=false) (hb:bzA P=true) (hg:gdA P=true)
  (hcs:(a=0/\∃j,P = .en j)\/(1<=a/\∀j,P ≠ .en j)) (hE:∀ph P',NxA P ph P'->q.b+1=E+(if ph=2 then 1 else 0))
  (hu:wsum p (k+1)+3*q.es.length+P.msr<=u)
  (h:Hold w0 w (F*(thA t c q.x*(aS q.g m c true s P*(Z0a (.slice q.A p.length q.cp) p*(obsA q.x.obs q.obs*(limA q.gl c q.es*R))))))) :
  Calls Tryz.prog 37 #[ptrV t,ptrV m] w (AdZ w0 t c F (GoQ w0 t m c p s E u R)):=by
 have hkl:=(List.getElem?_eq_some_iff.1 hi).1;have hV:=(hp.v.ins k i hi).regs;have hpl:=hp.v.len;have hpc:=K.pc;have hgo:∀ph P',NxA P ph P'->stP a P'->GoQ w0 t m c p s E u R ph q.x (aS q.g m c true (s+1) P'*(Z0a (.slice q.A p.length q.cp) p*(obsA q.x.obs q.obs*(limA q.gl c q.es*R)))):=fun ph P' hn hP=>by
  refine⟨K.id0,q,.str k a P',rfl,⟨K,ha,hfe,hdr,hst,hak,⟨i,hi,hop⟩,hin,hP⟩,hE ph P' hn,?_,fun w G h=>h.pk5 [0,2,3,4,1]⟩;show wsum p (k+1)+3*q.es.length+P'.msr+1<=u;rcases hn with⟨rfl,rfl,rfl⟩|⟨rfl,rfl,rfl⟩|⟨rfl,rfl,rfl⟩|⟨_,hne,_,hlow,_⟩
  ·exact hu
  ·exact hu
  ·exact hu
  ·have:=hlow.1;omega
 refine Zda hc (by omega) h ha K.code K.pc hi hb hg ?_ ?_
 ·intro ph P' hn hb'
  refine hgo ph P' hn ?_;rcases hn with⟨rfl,rfl,rfl⟩|⟨rfl,rfl,rfl⟩|⟨rfl,rfl,rfl⟩|⟨_,hne,_,hlow,_⟩
  ·exact .inl ⟨hcs.elim (fun h=>h.1) fun h=>absurd rfl (h.2 0),.inl rfl⟩
  ·exact .inl ⟨hcs.elim (fun h=>h.1) fun h=>absurd rfl (h.2 1),.inr (.inl rfl)⟩
  ·cases hb'
  ·exact .inr ⟨hcs.elim (fun h=>by obtain⟨j,hj⟩:=h.2;exact absurd hj (hne j)) fun h=>h.1,.inr ⟨hb',hlow.2.1,hlow.2.2.2⟩⟩
 ·intro ph P' G w' hn hb' h
  have key:(P' = .idle0\/P' = .idle)->stP a P'->Calls Tryz.prog 61 #[ptrV t,i.val] w' fun e w''=>e = .returned (.tuple #[])/\∃X Y,GoQ w0 t m c p s E u R ph X Y/\Hold w0 w'' (G*(thA t c X*(F*Y))):=by
   intro hP' hP;refine(Zkx hP' (h.pk3 [1,2,0]) ha hst).mono ?_;rintro e w'' ⟨rfl,h2⟩;exact⟨rfl,_,_,hgo ph P' hn hP,h2.pk5 [2,0,4,1,3]⟩
  have hE':=hE ph P' hn;rcases hn with⟨rfl,rfl,rfl⟩|⟨rfl,rfl,rfl⟩|⟨rfl,rfl,rfl⟩|⟨_,hne,_,hlow,hend⟩
  ·cases hb'
  ·cases hb'
  ·exact key (.inl rfl) (.inl ⟨hcs.elim (fun h=>h.1) fun h=>absurd rfl (h.2 2),.inr (.inr rfl)⟩)
  ·have ha1:1<=a:=hcs.elim (fun h=>by obtain⟨j,hj⟩:=h.2;exact absurd hj (hne j)) fun h=>h.1
   cases P' <;> first|cases hb'|skip
   ·exact absurd rfl hlow.2.2.1
   ·exact key (.inr rfl) (.inr ⟨ha1,.inl rfl⟩)
   ·refine(Zjl (b:=0) (gl:=0) (x:=q.x) (obs:=q.obs) (h.pk6 [1,2,5,0,3,4]) ha hst K.code ⟨by omega,by omega⟩ hV.1 hV.2.1 (by omega)).mono ?_
    rintro e w'' ⟨rfl,ov,rg,kd,v,hkd,h2⟩;have hbo:begO c.strong ⟨q.x.pc,kd,v⟩=true:=by
     unfold begO;rw[hak.2.2];rcases hkd with rfl|rfl|⟨rfl,rfl⟩ <;> rfl
    have hob:ObsI c.strong (q.obs++[⟨q.x.pc,kd,v⟩]) (q.b+1):=by
     have h3:=K.ob.add ⟨q.x.pc,kd,v⟩ (fun h=>by have h1:kd=3:=h.1;omega);rwa [hbo] at h3
    have hol:(q.obs++[(⟨q.x.pc,kd,v⟩:ObR)]).length<=2*(s+1):=by
     rw[List.length_append];show _+1<=_;omega
    refine⟨rfl,{q.x with attempt:=.pointer none,strong:=false,regs:=rg,obs:=ov,pc:=q.x.pc+1,done:=q.x.pc+1==(p.length:Int)},Z0a (.slice q.A p.length q.cp) p*(obsA ov (q.obs++[(⟨q.x.pc,kd,v⟩:ObR)])*(limA q.gl c q.es*(mS m c (s+1)*R))),⟨K.id0,{q with x:={q.x with attempt:=.pointer none,strong:=false,regs:=rg,obs:=ov,pc:=q.x.pc+1,done:=q.x.pc+1==(p.length:Int)},obs:=q.obs++[⟨q.x.pc,kd,v⟩],b:=q.b+1},.out (k+1),rfl,⟨K.next hkl ⟨rfl,rfl,rfl,rfl⟩ ⟨rfl,rfl,rfl,rfl,rfl,rfl⟩ rfl rfl hob hol,rfl,hfe,hdr,rfl,?_⟩,hE',?_,fun w G h=>h⟩,h2.pk7 [3,0,5,4,1,6,2]⟩
    ·show inT p (k+1)=false
     rw[Z1a hi,if_neg (by omega),if_neg (by omega)];exact hin
    ·show wsum p (k+1)+3*q.es.length<=u
     omega
end
theorem Zbs {w:Int} (h:1<=w) {a:Int} (ha:0<=a):Z1y (newL w) a=true:=by
 have h1:0<(newL w).cap:=by show 0<(max 0 (min w 32)).toNat;omega
 unfold Z1y;rw[decide_eq_true ha,decide_eq_true (show (newL w).addrs.length<(newL w).cap from h1)];simp
theorem Zkv {c:Cfg} (h0:0<=c.c0/\c.c0<=2) (h1:0<=c.c1/\c.c1<=2) (h2:c.c2=0) (h3:c.c3=0) (hw:1<=c.words/\c.words<=64) (ho:1<=c.orecs/\c.orecs<=64) (hb:0<=c.base/\c.base+c.c0+c.c1*2<=c.words)
  (hr:1<=c.reads/\c.reads<=6) (hwr:1<=c.writes/\c.writes<=8) (ha:0<=c.allocs/\c.allocs<=2) (hf:0<=c.frees/\c.frees<=2) (hk:0<=c.clock/\c.clock<=1000):CfA c:=by
 refine⟨⟨?_,h0,h1,h2,h3,hw,ho,hb⟩,hk,ha.2,hf.2,?_,?_,fun x hx=>Zbs hwr.1 hx,?_⟩
 ·have w1:(win c.words 1 64 && win c.orecs 1 64)=true:=by simp only[Bool.and_eq_true,win_true];omega
  have w2:Zc0 c=true:=by
   have g1:win c.c0 0 64=true:=by simp only[win_true];omega
   have g2:win c.c1 0 64=true:=by simp only[win_true];omega
   have g5:win c.c2 0 64=true:=by simp only[win_true];omega
   have g6:win c.c3 0 64=true:=by simp only[win_true];omega
   have g3:win c.base 0 c.words=true:=by simp only[win_true];omega
   have g4:decide (Z0n c<=64)=true:=by rw[decide_eq_true_eq];unfold Z0n;omega
   have g7:decide (c.base+Z10 c<=c.words)=true:=by rw[decide_eq_true_eq];unfold Z10;omega
   unfold Zc0 Z0d;rw[g1,g2,g3,g4,g5,g6,g7]
   rfl
  have w3:(win c.reads 1 32 && win c.writes 1 32 && win c.allocs 0 8 && win c.frees 0 8)=true:=by simp only[Bool.and_eq_true,win_true];omega
  have w4:win c.clock 0 1099511627776=true:=by simp only[win_true];omega
  unfold Z18;rw[w1,w2,w3,w4];rfl
 ·show (max 0 (min c.reads 32)).toNat<=6;omega
 ·show 1<=(max 0 (min c.reads 32)).toNat;omega
 ·show (max 0 (min c.writes 32)).toNat<=8;omega
abbrev cfC (k1 k2 b n0 n1 k3 k4 k5 k6 x:Int):Array Value:=#[.int .i64 (4+k1),.int .i64 (1+k2),.int .i64 b,.int .i64 n0,.int .i64 n1,.int .i64 0,.int .i64 0,.int .i64 (1+k3),.int .i64 (1+k4),.int .i64 k5,.int .i64 k6,.int .i64 x,.bool false]
abbrev zC:Cfg:=⟨0,0,0,0,0,0,0,0,0,0,0,0,false⟩
theorem Zer {w0 w:World} {R:Asr} (h:Hold w0 w R) (a b c d e:Int):Calls Tryz.prog 14 #[.int .i64 a,.int .i64 b,.int .i64 c,.int .i64 d,.int .i64 e] w fun e w'=>∃cf:Cfg,e = .returned cf.val/\(∀s,CfA {cf with strong:=s})/\Hold w0 w' R:=by
 have H:=hid (h.newBlk (t:=32) (cs:=zC.cells));clear h;go_enter Tryz.func14,Tryz.ntmps14;go_upto_region 1 with fail
 have h:=H.out;generalize hW:World.alloc _ _=W at h |-;generalize w.heap.size=gr at h |-;clear hW H;go_wp2_with fail;refine(Z26 _ a 9 (by decide) (by decide)).mono ?_;rintro r w' ⟨k1,h1,rfl,rfl⟩;go_wp2_with fail;refine(Z26 _ b 8 (by decide) (by decide)).mono ?_;rintro r w' ⟨k2,h2,rfl,rfl⟩;go_wp2_with fail;refine(Z26 _ c 6 (by decide) (by decide)).mono ?_;rintro r w' ⟨k3,h3,rfl,rfl⟩;go_wp2_with fail;refine(Z26 _ _ 8 (by decide) (by decide)).mono ?_;rintro r w' ⟨k4,h4,rfl,rfl⟩;go_wp2_with fail;refine(Z26 _ d 3 (by decide) (by decide)).mono ?_;rintro r w' ⟨k5,h5,rfl,rfl⟩;go_wp2_with fail;refine(Z26 _ _ 3 (by decide) (by decide)).mono ?_;rintro r w' ⟨k6,h6,rfl,rfl⟩;go_wp2_with fail;refine(Z26 _ e 5 (by decide) (by decide)).mono ?_;rintro r w' ⟨k7,h7,rfl,rfl⟩;have H2:=hid (h.newBlk (t:=32) (cs:=cfC k1 k2 0 0 0 k3 k4 k5 k6 50));clear h;go_upto_if 41 with fail
 have h:=H2.out;generalize hW:World.alloc _ _=W2 at h |-;generalize W.heap.size=gg at h |-;clear hW H2;go_cut [] (fun wx=>∃x:Int,(0<=x/\x<=1000)/\Hold w0 wx (blkA 32 gg (cfC k1 k2 0 0 0 k3 k4 k5 k6 x)*(blkA 32 gr zC.cells*R)))
 case first =>
  by_cases h70:(k7:Int)=0
  ·have e7:((k7:Int)==0)=true:=beq_iff_eq.2 h70
   have p11:=h.blk.some_ (i:=11) rfl;have z11:=h.blk.frozen 11;clear h70;go_wp2_with fail;refine(Z26 _ _ 4 (by decide) (by decide)).mono ?_;rintro r w' ⟨k8,h8,rfl,rfl⟩;have H:=hid (h.Zlp 11 (.int .i64 (k8:Int)));clear h;go_wp2_with fail;go_meet
   case rel=>exact⟨k8,by omega,H.out⟩
  ·have e7:((k7:Int)==0)=false:=beq_eq_false_iff_ne.2 h70
   have H:=hid h;clear h h70;go_wp2_with fail;go_meet
   case rel=>exact⟨50,by omega,H.out⟩
 case rest =>
  clear h h7;obtain⟨x,hx,h⟩:=hcut;have p2:=h.blk.some_ (i:=2) rfl;have z2:=h.blk.frozen 2;have H:=hid (h.Zlp 2 (.int .i64 2));clear h;go_upto_region 10 with fail
  have h:Hold w0 _ (blkA 32 gg (cfC k1 k2 2 0 0 k3 k4 k5 k6 x)*(blkA 32 gr zC.cells*R)):=H.out;generalize hW:World.setCell _ _ _=W3 at h |-;clear hW H p2 z2;have p0:=h.blk.some_ (i:=0) rfl;have H:=hid h;clear h;go_wp2_with fail;clear p0;go_loopw [12,13] (fun v12 v13 wr=>∃(k:Nat) (l n0 n1:Int),k<=2/\v13 = .int .i64 (k:Int)/\v12 = .int .i64 l/\((0<=n0/\n0<=2)/\(0<=n1/\n1<=2)/\0<=l/\l+n0+n1*2=2+(k1:Int)/\(k=0->n0=0/\n1=0)/\(k=1->n1=0))/\Hold w0 wr (blkA 32 gg (cfC k1 k2 2 n0 n1 k3 k4 k5 k6 x)*(blkA 32 gr zC.cells*R))) (fun _ v _=>2 - (intOf v).toNat)
  case atStart=>exact⟨0,_,0,0,by omega,rfl,rfl,⟨by omega,by omega,by omega,by omega,fun _=>⟨rfl,rfl⟩,fun _=>rfl⟩,H.out⟩
  case round =>
   clear H;obtain⟨k,l,n0,n1,hk,rfl,rfl,⟨hn0,hn1,hl0,hl,ha0,ha1⟩,h⟩:=hrel;obtain rfl|rfl|rfl:k=0\/k=1\/k=2:=by omega
   ·obtain⟨rfl,rfl⟩:=ha0 rfl
    clear ha0 ha1;have H:=hid h;clear h;go_wp2_with fail;go_quiet ((go_at_call 7;exact Calls.quiet_of_same ((place_any _ _ _ (by omega) (by omega)).mono fun r w' h=>⟨h.1,h.2.symm⟩)));have q1:=Z25 (wrap64 (d.tdiv 9)) (l+1) (by omega);have q2:=Z5r (wrap64 (d.tdiv 9)) (l+1) (by omega);generalize Za1 (wrap64 (d.tdiv 9)) (l+1)=nn at q1 q2 |-;have h:=H.out.drewN nq;generalize hW:World.drewN _ _=W4 at h |-;clear hW H;have p3:=h.blk.some_ (i:=3) rfl;have z3:=h.blk.frozen 3;have H:=hid (h.Zlp 3 (.int .i64 (min nn 2)));clear h;go_wp2_with fail;go_roundw
    case rel=>exact⟨1,l - min nn 2,min nn 2,0,by omega,by go_num,by go_num,⟨by omega,by omega,by omega,by omega,fun h=>absurd h (by decide),fun _=>rfl⟩,H.out⟩
    case measure=>simp[intOf]
   ·obtain rfl:=ha1 rfl
    clear ha0 ha1;have H:=hid h;clear h;go_wp2_with fail;go_quiet ((go_at_call 7;exact Calls.quiet_of_same ((place_any _ _ _ (by omega) (by omega)).mono fun r w' h=>⟨h.1,h.2.symm⟩)));have q1:=Z25 (wrap64 (d.tdiv 29)) (l / 2+1) (by omega);have q2:=Z5r (wrap64 (d.tdiv 29)) (l / 2+1) (by omega);generalize Za1 (wrap64 (d.tdiv 29)) (l / 2+1)=nn at q1 q2 |-;have h:=H.out.drewN nq;generalize hW:World.drewN _ _=W4 at h |-;clear hW H;have p3:=h.blk.some_ (i:=4) rfl;have z3:=h.blk.frozen 4;have H:=hid (h.Zlp 4 (.int .i64 (min nn 2)));clear h;go_wp2_with fail;go_roundw
    case rel=>exact⟨2,l - min nn 2*2,n0,min nn 2,by omega,by go_num,by go_num,⟨by omega,by omega,by omega,by omega,fun h=>absurd h (by decide),fun h=>absurd h (by decide)⟩,H.out⟩
    case measure=>simp[intOf]
   ·clear ha0 ha1
    have hb:=h.blk;have hg:=h.swap;have HL:=hid (And.intro hn0 (And.intro hn1 (And.intro hl0 hl)));clear h;go_wp2_with (first|(refine Z03 rfl 32 _ rfl gg _ _ rfl Tryz.isAgg32 _ Tryz.sizeOf32 hb rfl ?_)|(refine Z00 rfl 32 _ _ rfl gr _ _ (cfC k1 k2 2 n0 n1 k3 k4 k5 k6 x) rfl rfl _ Tryz.sizeOf32 hg rfl rfl rfl ?_;intro w7 h11));have hlq:=HL.out;exact bodyPost_ret (Z0j Tryz.results14 _ rfl Tryz.isAgg32 _ Tryz.sizeOf32 h11.blk rfl) rfl ⟨⟨4+k1,1+k2,2,n0,n1,0,0,1+k3,1+k4,k5,k6,x,false⟩,rfl,fun s=>Zkv ⟨by show (0:Int)<=n0;omega,by show n0<=2;omega⟩ ⟨by show (0:Int)<=n1;omega,by show n1<=2;omega⟩ rfl rfl ⟨by show (1:Int)<=4+k1;omega,by show (4:Int)+k1<=64;omega⟩ ⟨by show (1:Int)<=1+k2;omega,by show (1:Int)+k2<=64;omega⟩ ⟨by show (0:Int)<=2;omega,by show 2+n0+n1*2<=4+(k1:Int);omega⟩ ⟨by show (1:Int)<=1+k3;omega,by show (1:Int)+k3<=6;omega⟩ ⟨by show (1:Int)<=1+k4;omega,by show (1:Int)+k4<=8;omega⟩ ⟨by show (0:Int)<=k5;omega,by show (k5:Int)<=2;omega⟩ ⟨by show (0:Int)<=k6;omega,by show (k6:Int)<=2;omega⟩ hx,h11.drop.drop⟩
abbrev scrC (c:Cfg) (iv pv kv:Value):Array Value:=#[.int .i64 c.words,.int .i64 c.orecs,.int .i64 c.base,.int .i64 c.c0,.int .i64 c.c1,.int .i64 c.c2,.int .i64 c.c3,.int .i64 c.reads,.int .i64 c.writes,.int .i64 c.allocs,.int .i64 c.frees,.int .i64 c.clock,.bool c.strong,iv,pv,kv]
def fstA (vs:List Value) (p:List InsR):Asr:=match vs with
 | []=>Asr.emp
 | v::_=>Z0a v p
theorem Zee:∃i,Tryz.prog.info? 34=some i/\i.zero=some (.int .u64 0)/\i.size=1/\i.bytes=8:=Z7h (by kernel_rfl)
theorem Zeg:∃i,Tryz.prog.info? 29=some i/\i.zero=some (.slice none 0 0)/\i.size=1/\i.bytes=24:=Z7h (by kernel_rfl)
section
variable {w0 w:World} {R:Asr} {c:Cfg} {Al:Option Addr} {m cl cq:Nat} {ad:Addr}
theorem Zgm {vs:List Value} {p q:List InsR} {v:Value} (hv:0<vs.length->p.length<=14/\PgA p) (hq:q.length<=14/\PgA q) (h:Hold w0 w (Z0a v q*(fstA vs p*R))):∃p',(p'.length<=14/\PgA p')/\Hold w0 w (fstA (vs++[v]) p'*R):=by
 cases vs with
 | nil=>exact⟨q,hq,h.imp (Imp.under _ (Imp.drop _ _))⟩
 | cons v0 vs=>exact⟨p,hv (by simp),h.drop⟩
theorem script_any (h : Hold w0 w (queA 23 (.slice (some ad) 1 cq) [.slice Al m cl]*R)) (hc:Z18 c=0) (hw:0<=c.words/\c.words<=64) (hm:m<=1000) (hl:∀j,j<m->∃ad z,Al=some ad/\w0.cell? (ad.add j)=some (.int .i64 z)) :
  Calls Tryz.prog 15 #[c.val,.int .i64 3,.slice (some ad) 1 cq,.int .i64 14,.bool true,.bool true,.slice none 0 0] w fun e w'=>∃(iv pv:Value) (zs:List Int) (vs:List Value) (p:List InsR),e = .returned (.agg (scrC c iv pv (.slice none 0 0)))/\(zs.length:Int)=c.words/\vs.length=3/\(p.length<=14/\PgA p) /\
   Hold w0 w' (queA 34 iv (zs.map (Value.int .u64))*(queA 29 pv vs*(fstA vs p*R))):=by
 obtain⟨wn,hwn⟩:∃wn:Nat,c.words=(wn:Int):=⟨c.words.toNat,by omega⟩;have hn64:wn<=64:=by omega
 have HX:=hid (And.intro hc (And.intro hl hwn));have H1:=hid ((h.newBlk (t:=32) (cs:=c.cells)).newBlk (t:=47) (cs:=scrC zC (.slice none 0 0) (.slice none 0 0) (.slice none 0 0)));have hw0:=hw.1;clear h hc hl hw hwn;go_enter Tryz.func15,Tryz.ntmps15;go_upto_region 1 with fail
 have h1:=H1.out;have hsz:(w.alloc (.cells c.cells 32)).heap.size=w.heap.size+1:=by simp
 rw[hsz] at h1;generalize hW:World.alloc (World.alloc _ _) _=W at h1 |-;generalize w.heap.size+1=gr at h1 |-;generalize w.heap.size=gc at h1 |-;clear hW H1 hsz;have hb:=h1.drop.blk;have H2:=hid (h1.newBlk (t:=47) (cs:=scrC c (.slice none 0 0) (.slice none 0 0) (.slice none 0 0)));clear h1;go_upto_region 2 with(refine Z03 rfl 32 _ rfl gc _ _ rfl Tryz.isAgg32 _ Tryz.sizeOf32 hb rfl ?_)
 have h2:=H2.out;generalize hW:World.alloc _ _=W2 at h2 |-;generalize W.heap.size=gs at h2 |-;clear hW H2 hb;obtain⟨RR,hRR⟩:∃RR:Asr,RR=blkA 47 gr (scrC zC (.slice none 0 0) (.slice none 0 0) (.slice none 0 0))*(queA 23 (.slice (some ad) 1 cq) [.slice Al m cl]*R):=⟨_,rfl⟩;have H:=hid (show Hold w0 _ (queA 34 (.slice none 0 0) []*(blkA 47 gs (scrC c (.slice none 0 0) (.slice none 0 0) (.slice none 0 0))*(blkA 32 gc c.cells*RR))) by rw[hRR];exact((h2.pk4 [0,2,1,3]).nilQue 34));have HRR:=hid hRR;clear h2 hRR;go_wp2_with fail;go_loopw [16] (fun i wr=>∃(j:Nat) (iv:Value) (zs:List Int),j<=wn/\i = .int .i64 (j:Int)/\zs.length=j/\Hold w0 wr (queA 34 iv (zs.map (Value.int .u64))*(blkA 47 gs (scrC c iv (.slice none 0 0) (.slice none 0 0))*(blkA 32 gc c.cells*RR)))) (fun i _=>wn - (intOf i).toNat)
 case atStart=>exact⟨0,_,[],Nat.zero_le _,rfl,rfl,H.out⟩
 case round =>
  clear H;obtain⟨j,iv,zs,hj,rfl,hzs,h⟩:=hrel;have qw:wr.cell? ⟨gc,0,none⟩=some (.int .i64 c.words):=h.drop.drop.blk.some_ (i:=0) rfl
  by_cases hlt:j<wn
  ·have e1:decide ((j:Int)<c.words)=true:=decide_eq_true (by rw[HX.out.2.2];omega)
   obtain⟨iU,hiU,zu0,zu1,zu2⟩:=Zee;have HLT:=hid (show (zs.map (Value.int .u64)).length<=1000000 by rw[List.length_map];omega);have HZS:=hid hzs;have q13:=h.drop.blk.some_ (i:=13) rfl;have H:=hid h;clear h hzs;have k0:(0:Int)<=(j:Int):=by omega
   have k64:(j:Int)<=64:=by omega
   go_wp2_with (at_builtin;refine Z0r rfl _ _ 33 rfl iU (.int .u64 0) 8 Tryz.underlying33 hiU zu0 zu1 zu2 rfl _ _ rfl H.out rfl rfl HLT.out (by decide) ?_;intro v8 w8 h8;obtain⟨A8,n8,c8,rfl⟩:∃A n c,v8 = .slice A n c:=(by obtain⟨A,c,h⟩:=h8.Zlu;exact⟨A,_,c,h⟩);have p1:=h8.drop.blk.some_ (i:=13) rfl;have z1:=h8.drop.blk.frozen 13;have H9:=hid (h8.swap.Zlp 13 (.slice A8 n8 c8));clear h8 H q13);go_roundw
   case rel =>
    obtain⟨z9,h9⟩:∃z:Int,Hold w0 _ (blkA 47 gs (scrC c (.slice A8 n8 c8) (.slice none 0 0) (.slice none 0 0))*(queA 34 (.slice A8 n8 c8) (zs.map (Value.int .u64)++[.int .u64 z])*(blkA 32 gc c.cells*RR))):=⟨_,H9.out⟩;refine⟨j+1,.slice A8 n8 c8,zs++[z9],hlt,by go_num,by rw[List.length_append,HZS.out];rfl,?_⟩;rw[List.map_append];exact h9.pk2 [1,0]
   case measure=>simp[intOf];omega
  ·obtain rfl:wn=j:=by omega
   have e1:decide ((wn:Int)<c.words)=false:=decide_eq_false (by rw[HX.out.2.2];omega);have H:=hid h;have HZS:=hid hzs;clear h hzs;obtain⟨RS,hRS⟩:∃RS:Asr,RS=queA 34 iv (zs.map (Value.int .u64))*RR:=⟨_,rfl⟩;have h:=H.out;have H2:Hid (Hold w0 wr (queA 29 (.slice none 0 0) []*(blkA 47 gs (scrC c iv (.slice none 0 0) (.slice none 0 0))*(blkA 32 gc c.cells*(fstA [] []*RS))))):=hid (by rw[hRS];exact((((h.pk3 [1,2,0]).imp (Imp.under _ (Imp.under _ (Imp.Zlv _)))).nilQue 29)));have HRS:=hid hRS;clear H h hRS;go_wp2_with fail;clear qw;go_loopw [17] (fun i wr=>∃(t:Nat) (pv:Value) (vs:List Value) (p:List InsR),t<=3/\i = .int .i64 (t:Int)/\vs.length=t/\(0<vs.length->p.length<=14/\PgA p)/\Hold w0 wr (queA 29 pv vs*(blkA 47 gs (scrC c iv pv (.slice none 0 0))*(blkA 32 gc c.cells*(fstA vs p*RS))))) (fun i _=>3 - (intOf i).toNat)
   case atStart=>exact⟨0,_,[],[],Nat.zero_le _,rfl,rfl,fun h=>absurd h (by decide),H2.out⟩
   case round =>
    clear H2;obtain⟨t,pv,vs,p,ht,rfl,hvs,hp,h⟩:=hrel
    by_cases hlt:t<3
    ·have e2:decide ((t:Int)<3)=true:=decide_eq_true (by omega)
     have HVS:=hid (And.intro hvs hp);have H:=hid h;clear h hvs hp;go_upto_if 44 with fail
     go_cut [18] (fun v18 wx=>∃(A:Option Addr) (m2 c2:Nat),v18 = .slice A m2 c2/\m2<=1000/\(∀j,j<m2->∃ad z,A=some ad/\w0.cell? (ad.add j)=some (.int .i64 z))/\Hold w0 wx (queA 29 pv vs*(blkA 47 gs (scrC c iv pv (.slice none 0 0))*(blkA 32 gc c.cells*(fstA vs p*RS)))))
     case first =>
      by_cases h0:t<1
      ·have e3 : decide ((t : Int)<1)=true:=decide_eq_true (by omega)
       have k0:(0:Int)<=(t:Int):=by omega
       have k1:(t:Int)<1:=by omega
       have ql : wr.cell? (ad.add t) = some (.slice Al m cl):=by
        have h:=H.out;rw[HRS.out,HRR.out] at h;exact (h.pk7 [6]).queAt (by obtain rfl:t=0:=(by omega);rfl)
       go_wp2_with fail;go_meet
       case rel=>exact⟨Al,m,cl,rfl,hm,HX.out.2.1,H.out⟩
      ·have e3:decide ((t:Int)<1)=false:=decide_eq_false (by omega)
       go_wp2_with fail;go_meet
       case rel=>exact⟨none,0,0,rfl,Nat.zero_le _,fun j hj=>absurd hj (Nat.not_lt_zero j),H.out⟩
     case rest =>
      clear H;obtain⟨A2,m2,c2,rfl,hm2,hl2,h⟩:=hcut;have HL:=hid hl2;have H:=hid h;clear h hl2;go_upto_region 12 with fail
      have h:=H.out.drew;clear H;obtain⟨iP,hiP,zp0,zp1,zp2⟩:=Zeg;have HLT:=hid (show vs.length<=1000000 by have:=HVS.out.1;omega);have hS:∀w' X Y,Hold w0 w' (X*(blkA 47 gs (scrC c iv pv (.slice none 0 0))*(blkA 32 gc c.cells*Y)))->w'.cell? ⟨gs,14,none⟩=some pv/\Blk w' gc 32 c.cells:=fun w' X Y h=>⟨h.drop.blk.some_ (i:=14) rfl,h.drop.drop.blk⟩;have HS:=hid hS;clear hS;refine Z01 [15] (by kernel_rfl) ?_;generalize hW:wc.drew=W3 at h |-;clear hW;refine Z04 (fun w'=>w'.cell? ⟨gs,14,none⟩=some pv/\Blk w' gc 32 c.cells) (fun _ _=>trivial) _ _ _ _ ?_;refine' wbk [true,true,true,true,true,true,true,false,false,false,true] 82 (HS.out _ _ _ h) (fun wq hq=>?_) ?_;rotate_left
      ·simp only[Z08]
       obtain⟨q14,hq2⟩:=hq;obtain⟨q0,q1,q2,q3,q4,q5,q6,q7,q8,q9,q10,q11,q12⟩:=Z0v hq2
       repeat (go_big_quiet_step (fail))
       exact wpQuiet_nil rfl
      refine wbi 7 (fuel:=7) (fun QB hQB hQX=>?_);go_wp2_with fail;refine(rblocks_any _ c HX.out.1).mono ?_;rintro e Wc ⟨rfl,hcg⟩;have h5:=h.chg0 hcg;clear h hcg;go_wp2_with fail;refine hQB.out _ _ (HS.out _ _ _ h5) ?_;clear hQB hQX QB;refine' wby [false,false,false,false,false,false,false,false,true,true] 82 (HS.out _ _ _ h5) ?_;refine wbi 11 (fuel:=4) (fun QB hQB hQX=>?_);go_wp2_with fail;refine(Zis h5 hm2 HL.out).mono ?_;rintro e Wc2 ⟨A6,c6,q,rfl,hq14,hqv,hqf,hqj,h6⟩;have h7:=h6.pk4 [1,2,3,0];have HQ:=hid (And.intro hq14 (PgA.mk hqv hqf hqj));clear h5 h6 hq14 hqv hqf hqj;go_wp2_with fail;refine hQB.out _ _ (HS.out _ _ _ h7.swap.swap) ?_;clear hQB hQX QB;refine wbi 12 (fuel:=3) (fun QB hQB hQX=>?_);go_wp2_with fail;refine hQB.out _ _ (HS.out _ _ _ (h7.alloc _)) ?_;clear hQB hQX QB;refine wbi 13 (fuel:=2) (fun QB hQB hQX=>?_);go_wp2_with (at_builtin;refine Z0r rfl _ _ 25 rfl iP (.slice none 0 0) 24 Tryz.underlying25 hiP zp0 zp1 zp2 rfl (.slice A6 q.length c6) _ rfl h7 rfl rfl HLT.out (by decide) ?_);intro v8 w8 h8;obtain⟨A8,n8,c8,rfl⟩:∃A n c,v8 = .slice A n c:=by obtain⟨A,c,h⟩:=h8.Zlu;exact⟨A,_,c,h⟩
      clear h7;go_wp2_with fail;refine hQB.out _ _ (HS.out _ _ _ h8) ?_;clear hQB hQX QB;refine' wby [false,false,false,false,false,false,false,false,false,false,false,false,false,false,true] 82 (HS.out _ _ _ h8) ?_;refine wbj 15 (fuel:=0) (fun QB hQB hQX=>?_);have p1:=(HS.out _ _ _ h8).1;have z1:=h8.drop.blk.frozen 14;have H9:=hid (h8.swap.Zlp 14 (.slice A8 n8 c8));clear h8;go_wp2_with fail;refine hQB.out _ _ ?_;clear hQB hQX QB p1 z1 HS;refine Z06 (by kernel_rfl) ?_;refine Z02 (by kernel_rfl) ?_ _;go_wp2_with fail;go_roundw
      case rel =>
       obtain⟨hvs,hp⟩:=HVS.out;have h9:Hold w0 _ (blkA 47 gs (scrC c iv (.slice A8 n8 c8) (.slice none 0 0))*(queA 29 (.slice A8 n8 c8) (vs++[.slice A6 q.length c6])*(blkA 32 gc c.cells*(Z0a (.slice A6 q.length c6) q*(fstA vs p*RS))))):=H9.out;have h9a:Hold w0 _ (Z0a (.slice A6 q.length c6) q*(fstA vs p*(queA 29 (.slice A8 n8 c8) (vs++[.slice A6 q.length c6])*(blkA 47 gs (scrC c iv (.slice A8 n8 c8) (.slice none 0 0))*(blkA 32 gc c.cells*RS))))):=h9.pk5 [3,4,1,0,2];obtain⟨p',hp',h10⟩:=Zgm hp HQ.out h9a;have h11:Hold w0 _ (queA 29 (.slice A8 n8 c8) (vs++[.slice A6 q.length c6])*(blkA 47 gs (scrC c iv (.slice A8 n8 c8) (.slice none 0 0))*(blkA 32 gc c.cells*(fstA (vs++[.slice A6 q.length c6]) p'*RS)))):=h10.pk4 [1,2,3,0];exact⟨t+1,Value.slice A8 n8 c8,vs++[Value.slice A6 q.length c6],p',by omega,by go_num,by rw[List.length_append,hvs];rfl,fun _=>hp',h11⟩
      case measure=>simp[intOf];omega
    ·obtain rfl:t=3:=by omega
     have h2:=h;rw[HRS.out,HRR.out] at h2;obtain⟨A9,n9,c9,rfl⟩:∃A n c,pv = .slice A n c:=by obtain⟨A,c,h⟩:=h.Zlu;exact⟨A,_,c,h⟩
     obtain⟨A10,n10,c10,rfl⟩:∃A n c,iv = .slice A n c:=by obtain⟨A,c,h⟩:=(h2.pk6 [4]).Zlu;exact⟨A,_,c,h⟩
     have hb:=h.drop.blk;have hg:=h2.pk6 [5,0,1,2,3,4];have HVS:=hid (And.intro hvs (hp (by rw[hvs];decide)));clear h h2 hvs hp;go_wp2_with fail;refine wp_loop_rounds 1 ?_;rw[rounds_succ];go_wp2_with (first|(refine Z03 rfl 47 _ rfl gs _ _ rfl Tryz.isAgg47 _ Tryz.sizeOf47 hb rfl ?_)|(refine Z00 rfl 47 _ _ rfl gr _ _ (scrC c (.slice A10 n10 c10) (.slice A9 n9 c9) (.slice none 0 0)) rfl rfl _ Tryz.sizeOf47 hg rfl rfl rfl ?_;intro w7 h11));exact bodyPost_ret (Z0j Tryz.results15 _ rfl Tryz.isAgg47 _ Tryz.sizeOf47 h11.blk rfl) rfl ⟨_,_,zs,vs,p,rfl,by rw[HZS.out,HX.out.2.2],HVS.out.1,HVS.out.2,by
      have h12:Hold w0 w7 (queA 29 (.slice A9 n9 c9) vs*(blkA 47 gs (scrC c (.slice A10 n10 c10) (.slice A9 n9 c9) (.slice none 0 0))*(blkA 32 gc c.cells*(fstA vs p*(queA 34 (.slice A10 n10 c10) (zs.map (Value.int .u64))*(queA 23 (.slice (some ad) 1 cq) [.slice Al m cl]*R)))))):=h11.drop;exact(h12.pk6 [4,0,3])⟩
theorem client_any {a b c2 d e:Int} {st:Bool} (h:Hold w0 w (queA 23 (.slice (some ad) 1 cq) [.slice Al m cl]*R)) (hm:m<=1000) (hl:∀j,j<m->∃ad z,Al=some ad/\w0.cell? (ad.add j)=some (.int .i64 z)) :
  Calls Tryz.prog 10 #[.agg #[.int .i64 a,.int .i64 b,.int .i64 c2,.int .i64 d,.int .i64 e],.slice (some ad) 1 cq,.slice none 0 0,.bool st] w fun e w'=>∃(c:Cfg) (iv pv:Value) (zs:List Int) (vs:List Value) (p:List InsR),e = .returned (.agg (scrC c iv pv (.slice none 0 0)))/\(CfA c/\c.strong=st)/\(zs.length:Int)=c.words/\vs.length=3/\(p.length<=14/\PgA p) /\
   Hold w0 w' (queA 34 iv (zs.map (Value.int .u64))*(queA 29 pv vs*(fstA vs p*R))):=by
 have HL:=hid hl;have H1:=hid ((h.newBlk (t:=58) (cs:=#[.int .i64 a,.int .i64 b,.int .i64 c2,.int .i64 d,.int .i64 e])).newBlk (t:=47) (cs:=scrC zC (.slice none 0 0) (.slice none 0 0) (.slice none 0 0)));clear h hl;go_enter Tryz.func10,Tryz.ntmps10;go_upto_region 1 with fail
 have h1:=H1.out;have hsz:(w.alloc (.cells #[.int .i64 a,.int .i64 b,.int .i64 c2,.int .i64 d,.int .i64 e] 58)).heap.size=w.heap.size+1:=by simp
 rw[hsz] at h1;generalize hW:World.alloc (World.alloc _ _) _=W at h1 |-;generalize w.heap.size+1=gr at h1 |-;generalize w.heap.size=ga at h1 |-;clear hW H1 hsz;have b0:=h1.drop.blk.some_ (i:=0) rfl;have b1:=h1.drop.blk.some_ (i:=1) rfl;have b2:=h1.drop.blk.some_ (i:=2) rfl;have b3:=h1.drop.blk.some_ (i:=3) rfl;have b4:=h1.drop.blk.some_ (i:=4) rfl;have H:=hid h1;clear h1;go_wp2_with fail;refine(Zer H.out a b c2 d e).mono ?_;rintro e1 w2 ⟨cf,rfl,hcf,h1⟩;clear b0 b1 b2 b3 b4;have H2:=hid (h1.newBlk (t:=32) (cs:=cf.cells));have HA:=hid (hcf st);clear H h1 hcf;go_upto_region 2 with fail
 have h2:=H2.out;generalize hW:World.alloc _ _=W2 at h2 |-;generalize w2.heap.size=gc at h2 |-;clear hW H2;have p1:=h2.blk.some_ (i:=12) rfl;have z1:=h2.blk.frozen 12;have H3:=hid (h2.Zlp 12 (.bool st));clear h2;go_upto_region 3 with fail
 obtain⟨c,ec⟩:∃c:Cfg,c={cf with strong:=st}:=⟨_,rfl⟩;have h3:Hold w0 _ (blkA 32 gc (({cf with strong:=st}:Cfg)).cells*(blkA 47 gr (scrC zC (.slice none 0 0) (.slice none 0 0) (.slice none 0 0))*(blkA 58 ga #[.int .i64 a,.int .i64 b,.int .i64 c2,.int .i64 d,.int .i64 e]*(queA 23 (.slice (some ad) 1 cq) [.slice Al m cl]*R)))):=H3.out;rw[<- ec] at h3;have hA:CfA c/\c.strong=st:=by rw[ec];exact⟨HA.out,rfl⟩
 generalize hW:World.setCell _ _ _=W3 at h3 |-;clear hW H3 p1 z1 ec HA;have hb:=h3.blk;have hw:=hA.1.s.words;have HS:=hid (script_any (c:=c) (h3.pk4 [3,1]) hA.1.s.ok ⟨by omega,hw.2⟩ hm HL.out);have HA:=hid hA;clear hA hw;clear h3;go_wp2_with (refine Z03 rfl 32 _ rfl gc _ _ rfl Tryz.isAgg32 _ Tryz.sizeOf32 hb rfl ?_);refine HS.out.mono ?_;rintro e2 w4 ⟨iv,pv,zs,vs,p,rfl,hzs,hvs,hp,h4⟩;obtain⟨A9,n9,c9,rfl⟩:∃A n c,pv = .slice A n c:=by obtain⟨A,c,h⟩:=h4.drop.Zlu;exact⟨A,_,c,h⟩
 obtain⟨A10,n10,c10,rfl⟩:∃A n c,iv = .slice A n c:=by obtain⟨A,c,h⟩:=h4.Zlu;exact⟨A,_,c,h⟩
 have h5:Hold w0 w4 (queA 34 (.slice A10 n10 c10) (zs.map (Value.int .u64))*(queA 29 (.slice A9 n9 c9) vs*(fstA vs p*(blkA 47 gr (scrC zC (.slice none 0 0) (.slice none 0 0) (.slice none 0 0))*R)))):=h4;have hg:=h5.pk4 [3,0,1,2];have HZ:=hid (And.intro hzs (And.intro hvs hp));clear h4 h5 HS hb hzs hvs hp;go_wp2_with (refine Z00 rfl 47 _ _ rfl gr _ _ (scrC c (.slice A10 n10 c10) (.slice A9 n9 c9) (.slice none 0 0)) rfl rfl _ Tryz.sizeOf47 hg rfl rfl rfl ?_;intro w7 h11);exact bodyPost_ret (Z0j Tryz.results10 _ rfl Tryz.isAgg47 _ Tryz.sizeOf47 h11.blk rfl) rfl ⟨c,_,_,zs,vs,p,rfl,HA.out,HZ.out.1,HZ.out.2.1,HZ.out.2.2,h11.drop⟩
end
end Go.Proofs.YtmlfangeanmmeaaGreatDoor
