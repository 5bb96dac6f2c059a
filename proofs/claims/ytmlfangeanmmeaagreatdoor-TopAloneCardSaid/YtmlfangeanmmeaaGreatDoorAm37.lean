/-
 What the proof of TopAlone leans on, part 37 of 49: Nf. No statement of its own.
-/
import Derived.Test.YtmlfangeanmmeaaGreatDoorAm36
set_option maxHeartbeats 16000000
set_option maxRecDepth 8000
set_option linter.unusedVariables false
namespace Go.Proofs.YtmlfangeanmmeaaGreatDoor
open Go.RowKit
section
variable {w0 w:World} {R:Asr} {i:InsR} {p:List InsR} {A:Option Addr} {cp k:Nat}
theorem Zif {a:Nat} (h:Hold w0 w (Z0a (.slice A p.length cp) p*R)) (hp:ProgV p) (hf:inT p p.length=false) (ha:a<=p.length):Calls Tryz.prog 128 #[.slice A p.length cp,.int .i64 (a:Int)] w fun e w'=>∃b c:Int,e = .returned (.tuple #[.int .i64 b,.int .i64 c])/\SpanR p a b c/\Hold w0 w' (Z0a (.slice A p.length cp) p*R):=by
 have hl:=hp.len;have HA0:Hid (∀k i,p[k]?=some i->∃gc,A=some ⟨gc,0,none⟩):=hid fun k i hk=>by obtain⟨gc,hA,_⟩:=h.codeAt hk;exact⟨gc,hA⟩
 have HEND:Hid (SpanI p a p.length->SpanR p a (-1) (-1)):=hid fun hI=>⟨fun h0=>absurd h0 (by decide),fun _=>SpanI.none hp hf ⟨Int.natCast_nonneg a,by omega⟩ hI⟩;have HB:=hid (Z19 p);have hno7:∀(k:Nat) y,p[k]?=some y->y.op=7->inT p k=false:=fun k y hk h7=>(hp.plc k y hk).2 (by unfold plcG;rw[if_pos (.inl h7)]);have HP:=hid hno7;have hbl:bgAt p p.length=-1:=(Z19 p p.length).2.2.2.1 hf;have H:=hid h;obtain⟨n,hn⟩:∃n,n=p.length:=⟨_,rfl⟩;have HN:=hid hn;rw[<- hn] at hl ha hbl |-;have HBL:=hid hbl;clear h hp hf hn hno7 hbl;go_enter Tryz.func128,Tryz.ntmps128;go_wp2_with fail;go_loopw [6,7] (fun v6 v7 wr=>∃k:Nat,k<=n/\v7 = .int .i64 (k:Int)/\v6 = .int .i64 (bgAt p k)/\SpanI p a k/\Hold w0 wr (Z0a (.slice A p.length cp) p*R)) (fun _ v _=>n - (intOf v).toNat)
 case atStart=>exact⟨0,Nat.zero_le _,rfl,rfl,fun j y hj=>absurd hj (Nat.not_lt_zero _),H.out⟩
 case round =>
  clear H;obtain⟨k,hk,rfl,rfl,hI,h⟩:=hrel
  by_cases hlt:k<n
  ·have e1 : decide ((k:Int)<(n:Int))=true:=decide_eq_true (by omega)
   have e1':decide (k<n)=true:=decide_eq_true hlt;have hkl:k<p.length:=by rw[<- HN.out];exact hlt
   obtain⟨y,hy⟩:∃y,p[k]?=some y:=⟨_,List.getElem?_eq_getElem hkl⟩;obtain⟨gc,rfl⟩:=HA0.out k y hy;obtain⟨q3,q4,q5,q6,q7⟩:=h.code hy;obtain⟨-,-,hcap,-⟩:=h.codeAt hy;rw[<- HN.out] at hcap;have H1:=hid h;obtain⟨b,hb⟩:∃b,b=bgAt p k:=⟨_,rfl⟩;have hs:=HB.out k;rw[<- hb] at hs |-;have hsu:=Z3a hy;have h78:y.op=7->b<0:=fun h7=>by have:=hs.2.2.2.1 (HP.out k y hy h7);omega
   obtain⟨op,hop⟩:∃op,op=y.op:=⟨_,rfl⟩;rw[<- hop] at q3 hsu h78;rw[<- hb] at hsu;have HI:=hid hI;have HX:=hid (And.intro hy (And.intro hop (And.intro hb hsu)));have hb1:=hs.1;have hb2:=hs.2.1;clear h q4 q5 q6 q7 hI hy hop hb hsu hs;have keep:op≠8\/b<0\/(a:Int)<b\/k<a->SpanI p a (k+1):=fun hno j z hj hz h8 h1 h2 h3=>by
    rcases Nat.lt_or_ge j k with h4|h4
    ·exact HI.out j z h4 hz h8 h1 h2 h3
    ·obtain rfl:j=k:=by omega
     rw[HX.out.1] at hz;injection hz with hz
     rw[<- hz,<- HX.out.2.1] at h8;rw[<- HX.out.2.2.1] at h1 h2;omega
   have KEEP:=hid keep;clear keep;rcases Int.lt_or_le b 0 with hb0|hb0
   ·have d1:decide (b<0)=true:=decide_eq_true hb0
    have d2:decide (b >= 0)=false:=decide_eq_false (by omega);have d3:decide (0<=b)=false:=decide_eq_false (by omega)
    by_cases h7:op=7
    ·have e7:(op==7)=true:=beq_iff_eq.2 h7
     have hsp:=KEEP.out (.inr (.inl hb0));have HQ:=hid (And.intro h7 hsp);clear h7 h78 hsp KEEP;go_wp2_with fail;go_roundw
     case rel=>exact⟨k+1,by omega,by go_num,by rw[HX.out.2.2.2,if_pos HQ.out.1],HQ.out.2,H1.out⟩
     case measure=>simp[intOf];omega
    ·have e7:(op==7)=false:=beq_eq_false_iff_ne.2 h7
     have hsp:=KEEP.out (.inr (.inl hb0));have hbe:b=-1:=by omega
     have HQ:=hid (And.intro h7 (And.intro hsp hbe));clear h7 h78 hsp KEEP hbe;go_wp2_with fail;go_roundw
     case rel=>exact⟨k+1,by omega,by go_num,by rw[HX.out.2.2.2,if_neg HQ.out.1,HQ.out.2.2];simp,HQ.out.2.1,H1.out⟩
     case measure=>simp[intOf];omega
   ·have d1:decide (b<0)=false:=decide_eq_false (by omega)
    have d2:decide (b >= 0)=true:=decide_eq_true hb0;have d3:decide (0<=b)=true:=decide_eq_true hb0;have h7:op≠7:=fun h=>by have:=h78 h;omega
    have e7:(op==7)=false:=beq_eq_false_iff_ne.2 h7
    by_cases h8:op=8
    ·have e8:(op==8)=true:=beq_iff_eq.2 h8
     by_cases hin:b<=(a:Int)/\a<=k
     ·have d4:decide (b<=(a:Int))=true:=decide_eq_true hin.1
      have d5:decide ((a:Int)<=(k:Int))=true:=decide_eq_true (by omega);have d6:decide (a<=k)=true:=decide_eq_true hin.2;have HR:Hid (SpanR p a b k):=hid (by
       have:=SpanR.at (a:=a) HX.out.1 (by rw[<- HX.out.2.2.1];exact hb0) (by rw[<- HX.out.2.2.1];exact hin.1) (by omega);rw[<- HX.out.2.2.1] at this;exact this)
      clear h7 h78 h8 hin KEEP;go_wp2_with fail
      go_ret2
      exact⟨b,(k:Int),rfl,HR.out,by have h9:=H1.out;rw[<- HN.out] at h9;exact h9⟩
     ·have hsp:=KEEP.out (.inr (.inr (by omega)))
      have HQ:=hid (And.intro h8 hsp);have hin2:decide (b<=(a:Int))=false\/decide (b<=(a:Int))=true/\decide ((a:Int)<=(k:Int))=false/\decide (a<=k)=false:=by
       by_cases hc:b<=(a:Int)
       ·exact .inr ⟨decide_eq_true hc,decide_eq_false (by omega),decide_eq_false (by omega)⟩
       ·exact .inl (decide_eq_false hc)
      clear h7 h78 h8 hin hsp KEEP;rcases hin2 with d4|⟨d4,d5,d6⟩
      all_goals (
       go_wp2_with fail;go_roundw
       case rel=>exact⟨k+1,by omega,by go_num,by rw[HX.out.2.2.2,HQ.out.1];rfl,HQ.out.2,H1.out⟩
       case measure=>simp[intOf];omega)
    ·have e8:(op==8)=false:=beq_eq_false_iff_ne.2 h8
     have hsp:=KEEP.out (.inl h8);have HQ:=hid (And.intro h7 (And.intro h8 hsp));clear h7 h78 h8 hsp KEEP;go_wp2_with fail;go_roundw
     case rel=>exact⟨k+1,by omega,by go_num,by rw[HX.out.2.2.2,if_neg HQ.out.1,if_neg HQ.out.2.1],HQ.out.2.2,H1.out⟩
     case measure=>simp[intOf];omega
  ·obtain rfl:k=n:=by omega
   have e1:decide ((k:Int)<(k:Int))=false:=decide_eq_false (by omega);have HR:=hid (HEND.out (by rw[<- HN.out];exact hI));have H5:=hid h;rw[HBL.out];clear h hI;go_wp2_with fail
   go_ret2
   exact⟨-1,-1,rfl,HR.out,by have h9:=H5.out;rw[<- HN.out] at h9;exact h9⟩
theorem Zch {n:Int} (h:Hold w0 w (Z0a (.slice A p.length cp) p*R)) (hp:ProgV p) (hf:inT p p.length=false) (hk:p[k]?=some i) (hj:isJ i.op=true) (hn:0<=n/\n<=1000):Calls Tryz.prog 74 #[.slice A p.length cp,.int .i64 (k:Int),.int .i64 ((k:Int)+1+n)] w fun e w'=>∃r:Bool,e = .returned (.bool r)/\(r=true->JmpAt p k n)/\Hold w0 w' (Z0a (.slice A p.length cp) p*R):=by
 have hl:=hp.len;have hkl:=(List.getElem?_eq_some_iff.1 hk).1;have HS:∀(a:Nat),a<=p.length->∀w',Hold w0 w' (Z0a (.slice A p.length cp) p*R)->Hid (Calls Tryz.prog 128 #[.slice A p.length cp,.int .i64 (a:Int)] w' fun e w2=>∃b c:Int,e = .returned (.tuple #[.int .i64 b,.int .i64 c])/\SpanR p a b c/\Hold w0 w2 (Z0a (.slice A p.length cp) p*R)):=fun a ha w' h=>hid (Zif h hp hf ha);have HJ:Hid (∀b c:Int,(k:Int)+1+n<=p.length->SpanR p k b c->(0<=b->(k:Int)+1+n<=c)->(b<0->∃b' c',SpanR p ((k:Int)+1+n) b' c'/\(b'<0\/b'=(k:Int)+1+n))->JmpAt p k n):=hid fun b c h0 hS h1 h2=>JmpAt.reaches hp hk hj hn.1 h0 hS h1 h2;obtain⟨tg,htg⟩:∃tg:Nat,(tg:Int)=(k:Int)+1+n:=⟨((k:Int)+1+n).toNat,by omega⟩;rw[<- htg] at HJ |-;have hH:=HS k (by omega) _ h;obtain⟨m,hm⟩:∃m,m=p.length:=⟨_,rfl⟩;have HM:=hid hm;have HSS:=hid (HS tg);have H:=hid h;rw[<- hm] at hl hkl hH HJ HSS H |-;clear HS h hm hp hf hk hj htg;go_enter Tryz.func74,Tryz.ntmps74
 by_cases hgt:m<tg
 ·have e1:decide ((m:Int)<(tg:Int))=true:=decide_eq_true (by omega)
  have e1':decide (m<tg)=true:=decide_eq_true hgt;go_wp2_with fail;go_ret;exact⟨false,rfl,fun h=>(by cases h),H.out⟩
 ·have e1:decide ((m:Int)<(tg:Int))=false:=decide_eq_false (by omega)
  have e1':decide (m<tg)=false:=decide_eq_false hgt;have HLE:Hid ((tg:Int)<=(m:Int)):=hid (by omega);clear H;go_wp2_with fail;refine hH.out.mono ?_;rintro e w2 ⟨b,c,rfl,hS,h2⟩;have HJ2:=hid (HJ.out b c HLE.out hS);rcases Int.lt_or_le b 0 with hb|hb
  ·have d1:decide (b >= 0)=false:=decide_eq_false (by omega)
   have d2:decide (0<=b)=false:=decide_eq_false (by omega);have hQ:=HSS.out (by omega) _ h2;have HJ3:=hid (fun h=>HJ2.out (fun h0=>absurd h0 (by omega)) (fun _=>h));clear hS h2 HJ HJ2 HSS hH hb;go_wp2_with fail;refine hQ.out.mono ?_;rintro e w3 ⟨b',c',rfl,hS',h3⟩;have H3:=hid h3;have HB:=hid (fun h=>HJ3.out ⟨b',c',hS',h⟩);clear hS' h3 hQ HJ3
   by_cases hb2:b'<0
   ·have e2:decide (b'<0)=true:=decide_eq_true hb2
    have HT:=hid (HB.out (.inl hb2));go_wp2_with fail;go_ret;exact⟨true,by first|rfl|simp,fun _=>HT.out,H3.out⟩
   ·have e2:decide (b'<0)=false:=decide_eq_false hb2
    go_wp2_with fail;go_ret;exact⟨b'==(tg:Int),by first|rfl|simp,fun h=>HB.out (.inr (beq_iff_eq.1 h)),H3.out⟩
  ·have d1:decide (b >= 0)=true:=decide_eq_true hb
   have d2:decide (0<=b)=true:=decide_eq_true hb;have H2:=hid h2;clear hS h2 HJ HSS hH;go_wp2_with fail;go_ret;exact⟨decide ((tg:Int)<=c),by first|rfl|simp,fun h=>HJ2.out (fun _=>by simpa using h) (fun h0=>absurd hb (by omega)),H2.out⟩
theorem Zfu (h:Hold w0 w (Z0a (.slice A p.length cp) p*R)) (hp:ProgV p) (hf:inT p p.length=false):Calls Tryz.prog 42 #[.slice A p.length cp] w fun e w'=>∃a b:Int,e = .returned (.tuple #[.int .i64 a,.int .i64 b])/\(b=0->ProgJ p)/\Hold w0 w' (Z0a (.slice A p.length cp) p*R):=by
 have hl:=hp.len;have HA0:Hid (∀k i,p[k]?=some i->∃gc,A=some ⟨gc,0,none⟩):=hid fun k i hk=>by obtain⟨gc,hA,_⟩:=h.codeAt hk;exact⟨gc,hA⟩
 have HCK:∀(k:Nat) i,p[k]?=some i->∀w' R,Hold w0 w' R->Hid (Calls Tryz.prog 71 #[i.val] w' fun e w2=>e = .returned (.int .i64 0)/\Hold w0 w2 R):=fun k i hk w' R h=>hid (Z4m (hp.ins k i hk) h);have HPL:∀(k:Nat) i,p[k]?=some i->∀w' R,Hold w0 w' R->Hid (Calls Tryz.prog 72 #[i.val] w' fun e w2=>e = .returned (.int .i64 (plcG i.op))/\Hold w0 w2 R):=fun k i hk w' R h=>hid (Zcj (hp.ins k i hk) h);have HSK:∀(k:Nat) i,p[k]?=some i->∀w' R,Hold w0 w' R->Hid (Calls Tryz.prog 73 #[i.val] w' fun e w2=>e = .returned (.tuple #[.int .i64 (if isJ i.op=true then i.imm else 0),.bool (isJ i.op)])/\Hold w0 w2 R):=fun k i hk w' R h=>hid (Zci (hp.ins k i hk) h);have HRE:∀(k:Nat) i,p[k]?=some i->isJ i.op=true->∀w' R,Hold w0 w' (Z0a (.slice A p.length cp) p*R)->Hid (Calls Tryz.prog 74 #[.slice A p.length cp,.int .i64 (k:Int),.int .i64 ((k:Int)+1+i.imm)] w' fun e w2=>∃r:Bool,e = .returned (.bool r)/\(r=true->JmpAt p k i.imm)/\Hold w0 w2 (Z0a (.slice A p.length cp) p*R)):=fun k i hk hj w' R h=>hid (Zch h hp hf hk hj (hp.ins k i hk).imm);have HB:=hid (Z19 p);have HPC:=hid hp.plc;have HIM:Hid (∀(k:Nat) i,p[k]?=some i->0<=i.imm/\i.imm<=1000):=hid fun k i hk=>(hp.ins k i hk).imm;have hbl:bgAt p p.length=-1:=(Z19 p p.length).2.2.2.1 hf;have H:=hid h;obtain⟨n,hn⟩:∃n,n=p.length:=⟨_,rfl⟩;have HN:=hid hn;have HRR:=hid HRE;rw[<- hn] at hl hbl HRR H |-;have HBL:=hid hbl;have e64:decide (64<(n:Int))=false:=decide_eq_false (by omega);have e64':decide (64<n)=false:=decide_eq_false (by omega);clear h hp hf hn hbl HRE;go_enter Tryz.func42,Tryz.ntmps42;go_wp2_with fail;go_loopw [4,5] (fun v4 v5 wr=>∃k:Nat,k<=n/\v5 = .int .i64 (k:Int)/\v4 = .int .i64 (bgAt p k)/\(∀(j:Nat) y,j<k->p[j]?=some y->isJ y.op=true->JmpAt p j y.imm)/\Hold w0 wr (Z0a (.slice A n cp) p*R)) (fun _ v _=>n - (intOf v).toNat)
 case atStart=>exact⟨0,Nat.zero_le _,rfl,rfl,fun j y hj=>absurd hj (Nat.not_lt_zero _),H.out⟩
 case round =>
  clear H;obtain⟨k,hk,rfl,rfl,hI,h⟩:=hrel;have HI:=hid hI;clear hI
  by_cases hlt:k<n
  ·have e1 : decide ((k:Int)<(n:Int))=true:=decide_eq_true (by omega)
   have e1':decide (k<n)=true:=decide_eq_true hlt;have hkl:k<p.length:=by rw[<- HN.out];exact hlt
   obtain⟨y,hy⟩:∃y,p[k]?=some y:=⟨_,List.getElem?_eq_getElem hkl⟩;obtain⟨gc,rfl⟩:=HA0.out k y hy;have h':Hold w0 wr (Z0a (.slice (some ⟨gc,0,none⟩) p.length cp) p*R):=by rw[HN.out] at h;exact h
   obtain⟨q3,q4,q5,q6,q7⟩:=h'.code hy;obtain⟨-,-,hcap,-⟩:=h'.codeAt hy;rw[<- HN.out] at hcap;have H1:=hid (h.newBlk (t:=28) (cs:=y.cells));have HY:=hid hy;have hs:=HB.out k;have hpl:=HPC.out k y hy;have him:=HIM.out k y hy;have HSU:=hid (Z3a hy);obtain⟨b,hb⟩:∃b,b=bgAt p k:=⟨_,rfl⟩;rw[<- hb] at hs HSU |-;have HBB:=hid hb;clear h h' hy hkl hb;go_upto_region 8 with fail
   have h1:=H1.out;generalize hW:World.alloc _ _=W at h1 |-;generalize wr.heap.size=gi at h1 |-;clear hW H1 q3 q4 q5 q6 q7;have hb1:inT p k=true->0<=b:=hs.2.2.1;have hb2:inT p k=false->b=-1:=hs.2.2.2.1;have HJP:isJ y.op=true->JmpAt p k y.imm->∀(j:Nat) z,j<k+1->p[j]?=some z->isJ z.op=true->JmpAt p j z.imm:=fun _ h2 j z hj hz hjz=>by
    rcases Nat.lt_or_ge j k with h3|h3
    ·exact HI.out j z h3 hz hjz
    ·obtain rfl:j=k:=by omega
     rw[HY.out] at hz;injection hz with hz
     rw[<- hz];exact h2
   have HJN:isJ y.op=false->∀(j:Nat) z,j<k+1->p[j]?=some z->isJ z.op=true->JmpAt p j z.imm:=fun h2 j z hj hz hjz=>by
    rcases Nat.lt_or_ge j k with h3|h3
    ·exact HI.out j z h3 hz hjz
    ·obtain rfl:j=k:=by omega
     rw[HY.out] at hz;injection hz with hz
     rw[<- hz,h2] at hjz;cases hjz
   have HJP:=hid HJP;have HJN:=hid HJN;generalize inT p k=ib at hb1 hb2 hpl;have hbb:decide (b >= 0)=ib:=by
    cases ib with
    | true=>exact decide_eq_true (hb1 rfl)
    | false=>exact decide_eq_false (by rw[hb2 rfl];decide)
   have hbb':decide (0<=b)=ib:=hbb;have hbn:decide (b<0)=!ib:=by
    cases ib with
    | true=>exact decide_eq_false (by have:=hb1 rfl;omega)
    | false=>exact decide_eq_true (by have:=hb2 rfl;omega)
   have HE : (y.op==7)=true/\(y.op==8)=false/\ib=false/\plcG y.op=2/\isJ y.op=false\/(y.op==7)=false/\(y.op==8)=true/\ib=true/\plcG y.op=1/\isJ y.op=false \/
     (y.op==7)=false/\(y.op==8)=false/\isJ y.op=false/\(plcG y.op==1)=false/\(plcG y.op==2)=false\/(y.op==7)=false/\(y.op==8)=false/\isJ y.op=false/\plcG y.op=1/\ib=true\/(y.op==7)=false/\(y.op==8)=false/\isJ y.op=false/\plcG y.op=2/\ib=false \/
     (y.op==7)=false/\(y.op==8)=false/\isJ y.op=true/\(plcG y.op==1)=false/\(plcG y.op==2)=false:=by
    by_cases h7:y.op=7
    ·have h2:plcG y.op=2:=by unfold plcG;rw[if_pos (.inl h7)]
     exact .inl ⟨beq_iff_eq.2 h7,beq_eq_false_iff_ne.2 (by omega),hpl.2 h2,h2,by rw[h7];rfl⟩
    ·by_cases h8:y.op=8
     ·have h2:plcG y.op=1:=by unfold plcG;rw[if_neg (by omega),if_pos (.inl h8)]
      exact .inr (.inl ⟨beq_eq_false_iff_ne.2 h7,beq_iff_eq.2 h8,hpl.1 h2,h2,by rw[h8];rfl⟩)
     ·have e7:=beq_eq_false_iff_ne.2 h7
      have e8:=beq_eq_false_iff_ne.2 h8
      cases hj:isJ y.op with
      | true =>
       have h2:plcG y.op=0:=by
        unfold isJ at hj;simp only[Bool.or_eq_true,beq_iff_eq] at hj;unfold plcG;rw[if_neg (by omega),if_neg (by omega)]
       exact .inr (.inr (.inr (.inr (.inr ⟨e7,e8,rfl,by rw[h2];rfl,by rw[h2];rfl⟩))))
      | false =>
       by_cases h1:plcG y.op=1
       ·exact .inr (.inr (.inr (.inl ⟨e7,e8,rfl,h1,hpl.1 h1⟩)))
       ·by_cases h2:plcG y.op=2
        ·exact .inr (.inr (.inr (.inr (.inl ⟨e7,e8,rfl,h2,hpl.2 h2⟩))))
        ·exact .inr (.inr (.inl ⟨e7,e8,rfl,beq_eq_false_iff_ne.2 h1,beq_eq_false_iff_ne.2 h2⟩))
   have HE:=hid HE;have hQ:=HCK k y HY.out _ _ h1;have hb:=h1.blk;clear h1 hb1 hb2 hpl hs;go_wp2_with (refine Z03 rfl 28 _ rfl gi _ _ rfl Tryz.isAgg28 _ Tryz.sizeOf28 hb rfl ?_);refine hQ.out.mono ?_;rintro e w2 ⟨rfl,h2⟩;clear hb hQ;have hQ:=HPL k y HY.out _ _ h2;have hb:=h2.blk;have p0:w2.cell? ⟨gi,0,none⟩=some (.int .i64 y.op):=h2.blk.some_ (i:=0) rfl;clear h2;have HP3:=hid fun w3 (h3:Hold w0 w3 (blkA 28 gi y.cells*(Z0a (.slice (some ⟨gc,0,none⟩) n cp) p*R)))=>HSK k y HY.out _ _ h3;have HP4:Hid (isJ y.op=true->∀w4,Hold w0 w4 (blkA 28 gi y.cells*(Z0a (.slice (some ⟨gc,0,none⟩) n cp) p*R))->Hid (Calls Tryz.prog 74 #[.slice (some ⟨gc,0,none⟩) n cp,.int .i64 (k:Int),.int .i64 ((k:Int)+1+y.imm)] w4 fun e w2=>∃r:Bool,e = .returned (.bool r)/\(r=true->JmpAt p k y.imm)/\Hold w0 w2 (Z0a (.slice (some ⟨gc,0,none⟩) n cp) p*(blkA 28 gi y.cells*R)))):=hid fun hj w4 h4=>HRR.out k y HY.out hj _ _ h4.swap;clear HRR HCK HPL HSK;rcases HE.out with⟨e7,e8,rfl,hP,hJ⟩|⟨e7,e8,rfl,hP,hJ⟩|⟨e7,e8,hJ,eP1,eP2⟩|⟨e7,e8,hJ,hP,rfl⟩|⟨e7,e8,hJ,hP,rfl⟩|⟨e7,e8,hJ,eP1,eP2⟩
   case inr.inr.inr.inr.inr =>
    generalize plcG y.op=P at eP1 eP2 hQ
    cases ib
    all_goals (
     clear HE;go_wp2_with (refine Z03 rfl 28 _ rfl gi _ _ rfl Tryz.isAgg28 _ Tryz.sizeOf28 hb rfl ?_);refine hQ.out.mono ?_;rintro e w3 ⟨rfl,h3⟩;have hQ3:=HP3.out _ h3;rw[hJ] at hQ3;have hb3:=h3.blk;clear h3 p0 hb hQ;go_wp2_with (refine Z03 rfl 28 _ rfl gi _ _ rfl Tryz.isAgg28 _ Tryz.sizeOf28 hb3 rfl ?_);refine hQ3.out.mono ?_;rintro e w4 ⟨rfl,h4⟩;have hQ4:=HP4.out hJ _ h4;clear h4 hb3 hQ3;obtain⟨im,hm⟩:∃im,im=y.imm:=⟨_,rfl⟩;rw[<- hm] at hQ4 him |-;have HM:=hid hm;clear hm;go_wp2_with fail;refine hQ4.out.mono ?_;rintro e w5 ⟨r,rfl,hr,h5⟩;have p0:w5.cell? ⟨gi,0,none⟩=some (.int .i64 y.op):=h5.swap.blk.some_ (i:=0) rfl;have H5:=hid h5.swap.drop;have HR:=hid hr;clear h5 hQ4 hr
     cases r with
     | false =>
      go_wp2_with fail
      go_ret2
      exact⟨(k:Int),42,rfl,fun h=>(by cases h),H5.out⟩
     | true =>
      have HJ4:=hid (HJP.out hJ (HM.out ▸ HR.out rfl));go_wp2_with fail;go_roundw
      case rel=>exact⟨k+1,by omega,by go_num,by rw[HSU.out,if_neg (beq_eq_false_iff_ne.1 e7),if_neg (beq_eq_false_iff_ne.1 e8)],HJ4.out,H5.out⟩
      case measure=>simp[intOf];omega)
   all_goals (
    try rw[hP] at hQ
    try (generalize plcG y.op=P at eP1 eP2 hQ)
    try cases ib)
   all_goals (
    clear HE;go_wp2_with (refine Z03 rfl 28 _ rfl gi _ _ rfl Tryz.isAgg28 _ Tryz.sizeOf28 hb rfl ?_);refine hQ.out.mono ?_;rintro e w3 ⟨rfl,h3⟩;have hQ3:=HP3.out _ h3;rw[hJ] at hQ3;have hb3:=h3.blk;clear h3 p0 hb hQ;go_wp2_with (refine Z03 rfl 28 _ rfl gi _ _ rfl Tryz.isAgg28 _ Tryz.sizeOf28 hb3 rfl ?_);refine hQ3.out.mono ?_;rintro e w4 ⟨rfl,h4⟩;have p0:w4.cell? ⟨gi,0,none⟩=some (.int .i64 y.op):=h4.blk.some_ (i:=0) rfl;have H4:=hid h4.drop;have HJ4:=hid (HJN.out hJ);clear h4 hb3 hQ3;go_wp2_with fail;go_roundw
    case rel=>exact⟨k+1,by omega,by go_num,by first|rw[HSU.out,if_pos (beq_iff_eq.1 e7)]|rw[HSU.out,if_neg (beq_eq_false_iff_ne.1 e7),if_pos (beq_iff_eq.1 e8)]|rw[HSU.out,if_neg (beq_eq_false_iff_ne.1 e7),if_neg (beq_eq_false_iff_ne.1 e8)],HJ4.out,H4.out⟩
    case measure=>simp[intOf];omega)
  ·obtain rfl:k=n:=by omega
   have e1:decide ((k:Int)<(k:Int))=false:=decide_eq_false (by omega);have HJ:Hid (ProgJ p):=hid fun j y hy hj=>HI.out j y (by rw[HN.out];exact(List.getElem?_eq_some_iff.1 hy).1) hy hj;rw[HBL.out];have H5:=hid h;clear h;go_wp2_with fail
   go_ret2
   exact⟨0,0,rfl,fun _=>HJ.out,H5.out⟩
end
end Go.Proofs.YtmlfangeanmmeaaGreatDoor
