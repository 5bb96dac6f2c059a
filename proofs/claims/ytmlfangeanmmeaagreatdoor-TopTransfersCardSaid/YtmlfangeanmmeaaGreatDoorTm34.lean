/-
  What the proof of TopTransfers leans on, part 34 of 48: Pg, Tk, Lo, Tl, Tl2. No statement of its own.
-/
import Derived.Test.YtmlfangeanmmeaaGreatDoorTm32
import Derived.Test.YtmlfangeanmmeaaGreatDoorTm33
namespace Go.Proofs.YtmlfangeanmmeaaGreatDoor
set_option maxRecDepth 8000
open Go.RowKit
set_option linter.unusedVariables false
def Z79 (op:Int):Int:=if op=7 then 2 else if op=8∨op=10∨op=11 then 1 else 0
def bgAt (p:List InsR):Nat→Int
  | 0=>-1
  | k + 1=>match p[k]? with | some i=>if i.op=7 then (k:Int) else if i.op=8 then -1 else bgAt p k | none=>bgAt p k
theorem Za1 {p:List InsR} {k:Nat} {i:InsR} (h:p[k]?=some i):bgAt p (k + 1)=if i.op=7 then (k:Int) else if i.op=8 then -1 else bgAt p k:=by
  show (match p[k]? with | some i=>if i.op=7 then (k:Int) else if i.op=8 then -1 else bgAt p k | none=>bgAt p k)=_
  rw [h]
theorem Zbq (p:List InsR):∀ k,(inT p k=true→0≤bgAt p k)∧(inT p k=false→bgAt p k=-1)
  | 0=>⟨fun h=>(by cases h),fun _=>rfl⟩
  | k + 1 => by
    have ih:=Zbq p k
    cases hp:p[k]? with
    | none =>
      show ((match p[k]? with | some i=>if i.op=7 then true else if i.op=8 then false else inT p k | none=>inT p k)=true→0≤(match p[k]? with | some i=>if i.op=7 then (k:Int) else if i.op=8 then -1 else bgAt p k | none=>bgAt p k))∧((match p[k]? with | some i=>if i.op=7 then true else if i.op=8 then false else inT p k | none=>inT p k)=false→(match p[k]? with | some i=>if i.op=7 then (k:Int) else if i.op=8 then -1 else bgAt p k | none=>bgAt p k)=-1)
      rw [hp]
      exact ih
    | some i =>
      rw [Z2g hp,Za1 hp]
      by_cases h7:i.op=7
      · rw [if_pos h7,if_pos h7]
        exact ⟨fun _=>Int.natCast_nonneg _,fun h=>(by cases h)⟩
      · rw [if_neg h7,if_neg h7]
        by_cases h8:i.op=8
        · rw [if_pos h8,if_pos h8]
          exact ⟨fun h=>(by cases h),fun _=>rfl⟩
        · rw [if_neg h8,if_neg h8];exact ih
section
variable {w0 w:World} {R:Asr} {c:Cfg} {b:Bool} {i:InsR} {p:List InsR} {A:Option Addr} {cp k:Nat}
theorem Zew (hF:FormsAt w0) (hi:Z76 c b i) (h:Hold w0 w R):Calls Tryz.prog 76 #[i.val] w fun e w'=>e = .returned (.int .i64 0)∧Hold w0 w' R:=by
  obtain ⟨op,a,b',c',imm⟩:=i
  rcases hi with ⟨h1,h2,h3,h4,h5,h6⟩ | ⟨h1,h2,h3,h4,h5,h6,h7,h8⟩ | ⟨h1,hb,h2,h3,h4,h5,h6⟩ | ⟨h1,hb,h2,h3,h4,h5⟩ | ⟨h1,hb,h2,h3,h4,h5,h6,h7⟩ | ⟨h1,hb,h2,h3,h4,h5,h6,h7⟩
  · dsimp only at h1 h2 h3 h4 h5;subst h1 h4 h5;exact Z2v hF ⟨by omega,h3⟩ h
  · dsimp only at h1 h2 h3 h4 h5 h6 h7 h8;subst h1;exact Z2u hF ⟨by omega,h3⟩ ⟨h4,h5⟩ ⟨h6,h7⟩ (by omega) h
  · dsimp only at h1 h2 h3 h4 h5 h6;subst h1 h2 h3 h4;exact Z2t hF ⟨h5,h6⟩ h
  · dsimp only at h1 h2 h3 h4 h5;subst h1 h2 h3 h4 h5;exact Z2s hF h
  · dsimp only at h1 h2 h3 h4 h5;subst h1 h4 h5;exact Z23 hF ⟨by omega,h3⟩ ⟨Int.le_refl 0,by decide⟩ h
  · dsimp only at h1 h2 h3 h4 h5;subst h1 h2 h5;exact Z22 hF ⟨Int.le_refl 0,by decide⟩ ⟨h3,h4⟩ h
theorem Zev (hF:FormsAt w0) (hi:Z76 c b i) (h:Hold w0 w R):Calls Tryz.prog 77 #[i.val] w fun e w'=>e = .returned (.int .i64 (Z79 i.op))∧Hold w0 w' R:=by
  obtain ⟨op,a,b',c',imm⟩:=i
  rcases hi with ⟨h1,h2,h3,h4,h5,h6⟩ | ⟨h1,h2,h3,h4,h5,h6,h7,h8⟩ | ⟨h1,hb,h2,h3,h4,h5,h6⟩ | ⟨h1,hb,h2,h3,h4,h5⟩ | ⟨h1,hb,h2,h3,h4,h5,h6,h7⟩ | ⟨h1,hb,h2,h3,h4,h5,h6,h7⟩
  · dsimp only at h1 h2 h3 h4 h5;subst h1 h4 h5;exact Zdi hF ⟨by omega,h3⟩ h
  · dsimp only at h1 h2 h3 h4 h5 h6 h7 h8;subst h1;exact Zdh hF ⟨by omega,h3⟩ ⟨h4,h5⟩ ⟨h6,h7⟩ (by omega) h
  · dsimp only at h1 h2 h3 h4 h5 h6;subst h1 h2 h3 h4;exact Zdg hF ⟨h5,h6⟩ h
  · dsimp only at h1 h2 h3 h4 h5;subst h1 h2 h3 h4 h5;exact Zdf hF h
  · dsimp only at h1 h2 h3 h4 h5;subst h1 h4 h5;exact Zb8 hF ⟨by omega,h3⟩ ⟨Int.le_refl 0,by decide⟩ h
  · dsimp only at h1 h2 h3 h4 h5;subst h1 h2 h5;exact Zb7 hF ⟨Int.le_refl 0,by decide⟩ ⟨h3,h4⟩ h
theorem Zeu (hF:FormsAt w0) (hi:Z76 c b i) (h:Hold w0 w R):Calls Tryz.prog 131 #[i.val] w fun e w'=>e = .returned (.tuple #[.int .i64 0,.bool false])∧Hold w0 w' R:=by
  obtain ⟨op,a,b',c',imm⟩:=i
  rcases hi with ⟨h1,h2,h3,h4,h5,h6⟩ | ⟨h1,h2,h3,h4,h5,h6,h7,h8⟩ | ⟨h1,hb,h2,h3,h4,h5,h6⟩ | ⟨h1,hb,h2,h3,h4,h5⟩ | ⟨h1,hb,h2,h3,h4,h5,h6,h7⟩ | ⟨h1,hb,h2,h3,h4,h5,h6,h7⟩
  · dsimp only at h1 h2 h3 h4 h5;subst h1 h4 h5;exact Zdd hF ⟨by omega,h3⟩ h
  · dsimp only at h1 h2 h3 h4 h5 h6 h7 h8;subst h1;exact Zdc hF ⟨by omega,h3⟩ ⟨h4,h5⟩ ⟨h6,h7⟩ (by omega) h
  · dsimp only at h1 h2 h3 h4 h5 h6;subst h1 h2 h3 h4;exact Zdb hF ⟨h5,h6⟩ h
  · dsimp only at h1 h2 h3 h4 h5;subst h1 h2 h3 h4 h5;exact Zda hF h
  · dsimp only at h1 h2 h3 h4 h5;subst h1 h4 h5;exact Zb6 hF ⟨by omega,h3⟩ ⟨Int.le_refl 0,by decide⟩ h
  · dsimp only at h1 h2 h3 h4 h5;subst h1 h2 h5;exact Zb5 hF ⟨Int.le_refl 0,by decide⟩ ⟨h3,h4⟩ h
theorem Z7e {bg:Int} (h:Hold w0 w (Z0a (.slice A p.length cp) p*R)) (hk:p[k]?=some i) (hS:Calls Tryz.prog 131 #[i.val] w fun e w'=>e = .returned (.tuple #[.int .i64 0,.bool false])∧Hold w0 w' (Z0a (.slice A p.length cp) p*R)):Calls Tryz.prog 78 #[.slice A p.length cp,.int .i64 (k:Int),.int .i64 bg] w fun e w'=>e = .returned (.int .i64 0)∧Hold w0 w' (Z0a (.slice A p.length cp) p*R):=by
  obtain ⟨gc,hA,hcap,-⟩:=h.codeAt hk
  subst hA
  have hkl:k < p.length:=(List.getElem?_eq_some_iff.1 hk).1
  obtain ⟨q3,q4,q5,q6,q7⟩:=h.code hk
  have HS:=hid hS
  clear h hk hS
  go_enter Tryz.func78,Tryz.ntmps78
  go_wp2_with fail
  refine HS.out.mono ?_
  rintro e w' ⟨rfl,h2⟩
  have H2:=hid h2
  clear h2 HS q3 q4 q5 q6 q7
  go_wp2_with fail
  go_ret
  exact ⟨rfl,H2.out⟩
theorem Zee {bg:Int} (hF:FormsAt w0) (h:Hold w0 w (Z0a (.slice A p.length cp) p*R)) (hk:p[k]?=some i) (hi:Z76 c b i):Calls Tryz.prog 78 #[.slice A p.length cp,.int .i64 (k:Int),.int .i64 bg] w fun e w'=>e = .returned (.int .i64 0)∧Hold w0 w' (Z0a (.slice A p.length cp) p*R):=Z7e h hk (Zeu hF hi h)
set_option maxHeartbeats 4000000 in
theorem Zl6 (hF:FormsAt w0) (h:Hold w0 w (Z0a (.slice A p.length cp) p*R)) (hk:p[k]?=some i) (hp:ProgOk c p):Calls Tryz.prog 45 #[.slice A p.length cp,.int .i64 (k:Int),.int .i64 (bgAt p k)] w fun e w'=>e = .returned (.int .i64 0)∧Hold w0 w' (Z0a (.slice A p.length cp) p*R):=by
  have hi:=hp.ins k i hk
  obtain ⟨gc,hA,hcap,-⟩:=h.codeAt hk
  subst hA
  have hkl:k < p.length:=(List.getElem?_eq_some_iff.1 hk).1
  obtain ⟨q3,q4,q5,q6,q7⟩:=h.code hk
  have HK:=hid hk
  have HS:=hid (Zew hF hi h)
  have HP:∀ w',Hold w0 w' (Z0a (.slice (some ⟨gc,0,none⟩) p.length cp) p*R)→Hid (Calls Tryz.prog 77 #[i.val] w' fun e w'=>e = .returned (.int .i64 (Z79 i.op))∧Hold w0 w' (Z0a (.slice (some ⟨gc,0,none⟩) p.length cp) p*R)):=fun w' h=>hid (Zev hF hi h)
  have HT:∀ w',Hold w0 w' (Z0a (.slice (some ⟨gc,0,none⟩) p.length cp) p*R)→Hid (Calls Tryz.prog 78 #[.slice (some ⟨gc,0,none⟩) p.length cp,.int .i64 (k:Int),.int .i64 (bgAt p k)] w' fun e w'=>e = .returned (.int .i64 0)∧Hold w0 w' (Z0a (.slice (some ⟨gc,0,none⟩) p.length cp) p*R)):=fun w' h=>hid (Zee hF h hk hi)
  have hb:=Zbq p k
  generalize inT p k=ib at hi hb
  generalize bgAt p k=bg at hb HT
  have HB:=hid hb
  have HI:=hid hi
  clear h hk hi hb hp
  go_enter Tryz.func45,Tryz.ntmps45
  go_wp2_with fail
  refine HS.out.mono ?_
  rintro e w2 ⟨rfl,h2⟩
  clear HS q3 q4 q5 q6 q7
  have HPP:=HP _ h2
  obtain ⟨q3,q4,q5,q6,q7⟩:=h2.code HK.out
  have hbb:decide (bg ≥ 0)=ib:=by
    cases ib with
    | true=>exact decide_eq_true (HB.out.1 rfl)
    | false=>exact decide_eq_false (by rw [HB.out.2 rfl];decide)
  have hbb':decide (0≤bg)=ib:=hbb
  go_wp2_with fail
  refine HPP.out.mono ?_
  rintro e w3 ⟨rfl,h3⟩
  clear h2 HPP q3 q4 q5 q6 q7 HP
  have HTT:=HT _ h3
  obtain ⟨q3,q4,q5,q6,q7⟩:=h3.code HK.out
  clear h3 HT
  have HE:Hid ((i.op=1∨i.op=3)∨(i.op=7∧ib=false)∨((i.op=8∨i.op=10∨i.op=11)∧ib=true)):=hid (by
    rcases HI.out with h | h | h | h | h | h
    · exact .inl (.inl h.1)
    · exact .inl (.inr h.1)
    · exact .inr (.inl ⟨h.1,h.2.1⟩)
    · exact .inr (.inr ⟨.inl h.1,h.2.1⟩)
    · exact .inr (.inr ⟨.inr (.inl h.1),h.2.1⟩)
    · exact .inr (.inr ⟨.inr (.inr h.1),h.2.1⟩))
  go_upto_region 6 with fail
  clear hbb hbb'
  obtain ⟨op,hop⟩:∃ op,op=i.op:=⟨_,rfl⟩
  rw [← hop] at q3 HE ⊢
  clear hop HI HK q4 q5 q6 q7 HB
  rcases HE.out with (rfl | rfl) | ⟨rfl,rfl⟩ | ⟨rfl | rfl | rfl,rfl⟩
  · cases ib with
    | true =>
      rw [show Z79 1=0 from rfl]
      go_wp2_with fail
      refine HTT.out.mono ?_
      rintro e w4 ⟨rfl,h4⟩
      have H4:=hid h4
      clear h4 HTT q3
      go_wp2_with fail
      go_ret
      exact ⟨rfl,H4.out⟩
    | false =>
      rw [show Z79 1=0 from rfl]
      go_wp2_with fail
      refine HTT.out.mono ?_
      rintro e w4 ⟨rfl,h4⟩
      have H4:=hid h4
      clear h4 HTT q3
      go_wp2_with fail
      go_ret
      exact ⟨rfl,H4.out⟩
  · cases ib with
    | true =>
      rw [show Z79 3=0 from rfl]
      go_wp2_with fail
      refine HTT.out.mono ?_
      rintro e w4 ⟨rfl,h4⟩
      have H4:=hid h4
      clear h4 HTT q3
      go_wp2_with fail
      go_ret
      exact ⟨rfl,H4.out⟩
    | false =>
      rw [show Z79 3=0 from rfl]
      go_wp2_with fail
      refine HTT.out.mono ?_
      rintro e w4 ⟨rfl,h4⟩
      have H4:=hid h4
      clear h4 HTT q3
      go_wp2_with fail
      go_ret
      exact ⟨rfl,H4.out⟩
  · rw [show Z79 7=2 from rfl]
    go_wp2_with fail
    refine HTT.out.mono ?_
    rintro e w4 ⟨rfl,h4⟩
    have H4:=hid h4
    clear h4 HTT q3
    go_wp2_with fail
    go_ret
    exact ⟨rfl,H4.out⟩
  · rw [show Z79 8=1 from rfl]
    go_wp2_with fail
    refine HTT.out.mono ?_
    rintro e w4 ⟨rfl,h4⟩
    have H4:=hid h4
    clear h4 HTT q3
    go_wp2_with fail
    go_ret
    exact ⟨rfl,H4.out⟩
  · rw [show Z79 10=1 from rfl]
    go_wp2_with fail
    refine HTT.out.mono ?_
    rintro e w4 ⟨rfl,h4⟩
    have H4:=hid h4
    clear h4 HTT q3
    go_wp2_with fail
    go_ret
    exact ⟨rfl,H4.out⟩
  · rw [show Z79 11=1 from rfl]
    go_wp2_with fail
    refine HTT.out.mono ?_
    rintro e w4 ⟨rfl,h4⟩
    have H4:=hid h4
    clear h4 HTT q3
    go_wp2_with fail
    go_ret
    exact ⟨rfl,H4.out⟩
theorem Zbo {b k:Nat} (hk:b + 1≤k) (hkl:k < p.length) (h8:(p[k]'hkl).op=8) (hno:∀ j (hj:j < p.length),b + 1≤j→j < k→(p[j]'hj).op ≠ 8):Z0j p (b:Int)=(k:Int):=by
  have hf:(p.drop (b + 1)).findIdx? (fun i=>i.op == 8)=some (k - (b + 1)):=by
    rw [List.findIdx?_eq_some_iff_getElem]
    refine ⟨by rw [List.length_drop];omega,?_,fun j hj=>?_⟩
    · rw [List.getElem_drop]
      have e:b + 1 + (k - (b + 1))=k:=by omega
      simp only [e,beq_iff_eq]
      exact h8
    · rw [List.getElem_drop]
      simp only [beq_iff_eq]
      exact hno _ _ (by omega) (by omega)
  unfold Z0j
  rw [show (b:Int).toNat=b by omega,hf]
  show (b:Int) + 1 + ((k - (b + 1):Nat):Int)=k
  omega
theorem Z8h {b:Nat} (hno:∀ j (hj:j < p.length),b + 1≤j→(p[j]'hj).op ≠ 8):Z0j p (b:Int)=(p.length:Int):=by
  have hf:(p.drop (b + 1)).findIdx? (fun i=>i.op == 8)=none:=by
    rw [List.findIdx?_eq_none_iff]
    intro x hx
    obtain ⟨j,hj,rfl⟩:=List.getElem_of_mem hx
    rw [List.getElem_drop]
    simp only [beq_eq_false_iff_ne,ne_eq]
    exact hno _ _ (by omega)
  unfold Z0j
  rw [show (b:Int).toNat=b by omega,hf]
set_option maxHeartbeats 4000000 in
theorem Z9i (h:Hold w0 w (Z0a (.slice A p.length cp) p*R)) (hl:p.length≤64) (hfin:bgAt p p.length=-1) (hone:∀ (w:World) (R:Asr) (k:Nat) (i:InsR) (gc cp:Nat),Hold w0 w (Z0a (.slice (some ⟨gc,0,none⟩) p.length cp) p*R)→p[k]?=some i→Calls Tryz.prog 45 #[.slice (some ⟨gc,0,none⟩) p.length cp,.int .i64 (k:Int),.int .i64 (bgAt p k)] w fun e w'=>e = .returned (.int .i64 0)∧Hold w0 w' (Z0a (.slice (some ⟨gc,0,none⟩) p.length cp) p*R)):Calls Tryz.prog 29 #[.slice A p.length cp] w fun e w'=>e = .returned (.tuple #[.int .i64 0,.int .i64 0])∧Hold w0 w' (Z0a (.slice A p.length cp) p*R):=by
  obtain ⟨n,hn⟩:∃ n,n=p.length:=⟨_,rfl⟩
  have HO1:=hid hone
  have HX:=hid (And.intro hl (And.intro hl (And.intro hn hfin)))
  have hA0:∀ k i,p[k]?=some i→∃ gc,A=some ⟨gc,0,none⟩:=fun k i hk=>by obtain ⟨gc,hA,_⟩:=h.codeAt hk;exact ⟨gc,hA⟩
  have HA0:=hid hA0
  have e64:decide (64 < (n:Int))=false:=decide_eq_false (by omega)
  have e64':decide (64 < n)=false:=decide_eq_false (by omega)
  have H:=hid h
  clear h hone hfin hA0
  rw [← hn] at hl H ⊢
  clear hn
  go_enter Tryz.func29,Tryz.ntmps29
  go_wp2_with fail
  go_loopw [4,13] (fun v4 i wr=>∃ k:Nat,k≤n∧i = .int .i64 (k:Int)∧v4 = .int .i64 (bgAt p k)∧Hold w0 wr (Z0a (.slice A n cp) p*R)) (fun _ i _=>n - (intOf i).toNat)
  case atStart=>exact ⟨0,Nat.zero_le _,rfl,rfl,H.out⟩
  case round =>
    clear H
    obtain ⟨k,hk,rfl,rfl,h⟩:=hrel
    by_cases hlt:k < n
    · have e1:decide ((k:Int) < (n:Int))=true:=decide_eq_true (by omega)
      have e1':decide (k < n)=true:=decide_eq_true hlt
      have hkl:k < p.length:=by rw [← HX.out.2.2.1];exact hlt
      obtain ⟨i,hi⟩:∃ i,p[k]?=some i:=⟨_,List.getElem?_eq_getElem hkl⟩
      obtain ⟨gc,hA⟩:=HA0.out k i hi
      subst hA
      have h':Hold w0 wr (Z0a (.slice (some ⟨gc,0,none⟩) p.length cp) p*R):=by rw [HX.out.2.2.1] at h;exact h
      obtain ⟨-,-,hcap,-⟩:=h'.codeAt hi
      obtain ⟨q3,q4,q5,q6,q7⟩:=h'.code hi
      rw [← HX.out.2.2.1] at hcap
      have hbs:=Za1 hi
      have HI:=hid (And.intro hi hbs)
      have H1:=hid (h.newBlk (t:=28) (cs:=#[.int .i64 i.op,.int .i64 i.a,.int .i64 i.b,.int .i64 i.c,.int .i64 i.imm]))
      clear h h' hi hbs hkl
      go_upto_region 7 with fail
      have h1:=H1.out
      generalize hW:World.alloc _ _=W at h1 ⊢
      generalize wr.heap.size=gi at h1 ⊢
      clear hW H1 q3 q4 q5 q6 q7
      have HO:Hid (Calls Tryz.prog 45 #[.slice (some ⟨gc,0,none⟩) n cp,.int .i64 (k:Int),.int .i64 (bgAt p k)] W fun e w'=>e = .returned (.int .i64 0)∧Hold w0 w' (Z0a (.slice (some ⟨gc,0,none⟩) n cp) p*(blkA 28 gi #[.int .i64 i.op,.int .i64 i.a,.int .i64 i.b,.int .i64 i.c,.int .i64 i.imm]*R))):=hid (by
        have h2:=h1.swap
        rw [HX.out.2.2.1] at h2 ⊢
        exact HO1.out _ _ _ _ _ _ h2 HI.out.1)
      obtain ⟨bg,hbg⟩:∃ bg,bg=bgAt p k:=⟨_,rfl⟩
      have HBG:=hid hbg
      rw [← hbg] at HO ⊢
      clear h1 hbg
      go_wp2_with fail
      refine HO.out.mono ?_
      rintro e w4 ⟨rfl,h4⟩
      have p0:w4.cell? ⟨gi,0,none⟩=some (.int .i64 i.op):=h4.swap.blk.some_ (i:=0) rfl
      have H4:=hid (h4.swap.drop)
      clear h4 HO
      obtain ⟨op,hop⟩:∃ op,op=i.op:=⟨_,rfl⟩
      rw [← hop] at p0
      have HOP:=hid hop
      clear hop
      by_cases h7:op=7
      · subst h7
        go_wp2_with fail
        go_roundw
        case rel=>exact ⟨k + 1,by omega,by go_num,by rw [HI.out.2,if_pos HOP.out.symm],H4.out⟩
        case measure=>simp [intOf];omega
      · have e7:(op == 7)=false:=beq_eq_false_iff_ne.2 h7
        by_cases h8:op=8
        · subst h8
          go_wp2_with fail
          go_roundw
          case rel=>exact ⟨k + 1,by omega,by go_num,by rw [HI.out.2,← HOP.out];rfl,H4.out⟩
          case measure=>simp [intOf];omega
        · have e8:(op == 8)=false:=beq_eq_false_iff_ne.2 h8
          have H78:=hid (And.intro h7 h8)
          clear h7 h8
          go_wp2_with fail
          go_roundw
          case rel=>exact ⟨k + 1,by omega,by go_num,by rw [HI.out.2,← HOP.out,if_neg H78.out.1,if_neg H78.out.2,HBG.out],H4.out⟩
          case measure=>simp [intOf];omega
    · obtain rfl:k=n:=by omega
      have e1:decide ((k:Int) < (k:Int))=false:=decide_eq_false (by omega)
      have hb:bgAt p k=-1:=by have:=HX.out.2.2.2;rw [← HX.out.2.2.1] at this;exact this
      rw [hb]
      have H5:=hid h
      clear h hb
      go_wp2_with fail
      go_ret2
      exact ⟨rfl,H5.out⟩
set_option maxHeartbeats 4000000 in
theorem Zc8 (hF:FormsAt w0) (h:Hold w0 w (Z0a (.slice A p.length cp) p*R)) (hp:ProgOk c p):Calls Tryz.prog 29 #[.slice A p.length cp] w fun e w'=>e = .returned (.tuple #[.int .i64 0,.int .i64 0])∧Hold w0 w' (Z0a (.slice A p.length cp) p*R):=Z9i h hp.len ((Zbq p p.length).2 hp.fin) (fun _ _ _ _ _ _ h hk=>Zl6 hF h hk hp)
set_option maxHeartbeats 4000000 in
theorem Zl7 {b:Nat} (h:Hold w0 w (Z0a (.slice A p.length cp) p*R)) (hb:b < p.length) (hl:p.length≤64):Calls Tryz.prog 132 #[.slice A p.length cp,.int .i64 (b:Int)] w fun e w'=>e = .returned (.int .i64 (Z0j p (b:Int)))∧Hold w0 w' (Z0a (.slice A p.length cp) p*R):=by
  obtain ⟨gc,hA,hcap,-⟩:=h.codeAt (List.getElem?_eq_getElem hb)
  subst hA
  obtain ⟨n,hn⟩:∃ n,n=p.length:=⟨_,rfl⟩
  have HN:=hid hn
  have H:=hid h
  rw [← hn] at hb hl hcap ⊢
  clear h hn
  go_enter Tryz.func132,Tryz.ntmps132
  go_wp2_with fail
  go_loopw [5] (fun v5 wr=>∃ k:Nat,b + 1≤k∧k≤n∧v5 = .int .i64 (k:Int)∧(∀ j (hj:j < p.length),b + 1≤j→j < k→(p[j]'hj).op ≠ 8)∧Hold w0 wr (Z0a (.slice (some ⟨gc,0,none⟩) p.length cp) p*R)) (fun v _=>n - (intOf v).toNat)
  case atStart=>exact ⟨b + 1,Nat.le_refl _,by omega,by go_num,fun j _ h1 h2=>by omega,H.out⟩
  case round =>
    clear H
    obtain ⟨k,hk0,hk,rfl,hno,h⟩:=hrel
    have HNO:=hid hno
    clear hno
    by_cases hlt:k < n
    · have e1:decide ((k:Int) < (n:Int))=true:=decide_eq_true (by omega)
      have e1':decide (k < n)=true:=decide_eq_true hlt
      have hkl:k < p.length:=by rw [← HN.out];exact hlt
      have hi:=List.getElem?_eq_getElem hkl
      obtain ⟨i,hii⟩:∃ i,i=p[k]:=⟨_,rfl⟩
      rw [← hii] at hi
      obtain ⟨q3,q4,q5,q6,q7⟩:=h.code hi
      have HII:=hid hii
      have H1:=hid h
      clear h hi hii q4 q5 q6 q7
      obtain ⟨op,hop⟩:∃ op,op=i.op:=⟨_,rfl⟩
      rw [← hop] at q3
      have HOP:=hid hop
      clear hop
      by_cases h8:op=8
      · subst h8
        have HR:=hid (Zbo hk0 hkl (by rw [← HII.out,← HOP.out]) HNO.out)
        go_wp2_with fail
        go_ret
        exact ⟨by rw [HR.out];rfl,by have h9:=H1.out;rw [← HN.out] at h9;exact h9⟩
      · have e8:(op == 8)=false:=beq_eq_false_iff_ne.2 h8
        have H8:=hid h8
        clear h8
        go_wp2_with fail
        go_roundw
        case rel =>
          refine ⟨k + 1,by omega,by omega,by go_num,fun j hj h1 h2=>?_,H1.out⟩
          by_cases hjk:j=k
          · subst hjk
            rw [← HII.out,← HOP.out];exact H8.out
          · exact HNO.out j hj h1 (by omega)
        case measure=>simp [intOf];omega
    · obtain rfl:k=n:=by omega
      have e1:decide ((k:Int) < (k:Int))=false:=decide_eq_false (by omega)
      have HR:Hid (Z0j p (b:Int)=(p.length:Int)):=hid (Z8h (fun j hj h1=>HNO.out j hj h1 (by rw [HN.out];exact hj)))
      have H1:=hid h
      clear h
      go_wp2_with fail
      go_ret
      exact ⟨by rw [HR.out,← HN.out];rfl,by have h9:=H1.out;rw [← HN.out] at h9;exact h9⟩
theorem Zgu (hF:FormsAt w0) (h:Hold w0 w (Z0a (.slice A p.length cp) p*R)) (hp:ProgOk c p):Calls Tryz.prog 215 #[.slice A p.length cp] w fun e w'=>e = .returned (.bool true)∧Hold w0 w' (Z0a (.slice A p.length cp) p*R):=by
  have HC:=hid (Zc8 hF h hp)
  clear h hp hF
  go_enter Tryz.func215,Tryz.ntmps215
  go_wp2_with fail
  refine HC.out.mono ?_
  rintro e w2 ⟨rfl,h2⟩
  have H2:=hid h2
  clear h2 HC
  go_wp2_with fail
  go_ret
  exact ⟨rfl,H2.out⟩
set_option maxHeartbeats 4000000 in
theorem Z9h {b:Nat} (hF:FormsAt w0) (h:Hold w0 w (Z0a (.slice A p.length cp) p*R)) (hp:ProgOk c p) (hi:p[b]?=some i) (h7:i.op=7):Calls Tryz.prog 181 #[.slice A p.length cp,.int .i64 (b:Int)] w fun e w'=>e = .returned (.int .i64 (Z0j p (b:Int)))∧Hold w0 w' (Z0a (.slice A p.length cp) p*R):=by
  have hb:=(List.getElem?_eq_some_iff.1 hi).1
  obtain ⟨gc,hA,hcap,-⟩:=h.codeAt hi
  subst hA
  have HV:=hid (Zgu hF h hp)
  have HI:=hid (And.intro hi h7)
  have HE:∀ w',Hold w0 w' (Z0a (.slice (some ⟨gc,0,none⟩) p.length cp) p*R)→Hid (Calls Tryz.prog 132 #[.slice (some ⟨gc,0,none⟩) p.length cp,.int .i64 (b:Int)] w' fun e w'=>e = .returned (.int .i64 (Z0j p (b:Int)))∧Hold w0 w' (Z0a (.slice (some ⟨gc,0,none⟩) p.length cp) p*R)):=fun w' h=>hid (Zl7 h hb hp.len)
  have e0:decide ((b:Int) < 0)=false:=decide_eq_false (by omega)
  have e1:decide ((b:Int) ≥ (p.length:Int))=false:=decide_eq_false (by omega)
  have e1':decide ((p.length:Int)≤(b:Int))=false:=decide_eq_false (by omega)
  have e1'':decide (p.length≤b)=false:=decide_eq_false (by omega)
  clear h hi h7 hp hF
  go_enter Tryz.func181,Tryz.ntmps181
  go_wp2_with fail
  refine HV.out.mono ?_
  rintro e w2 ⟨rfl,h2⟩
  obtain ⟨q3,q4,q5,q6,q7⟩:=h2.code HI.out.1
  rw [HI.out.2] at q3
  have HEE:=HE _ h2
  clear h2 HV q4 q5 q6 q7 HE
  go_wp2_with fail
  refine HEE.out.mono ?_
  rintro e w3 ⟨rfl,h3⟩
  have H3:=hid h3
  clear h3 HEE q3
  go_wp2_with fail
  go_ret
  exact ⟨rfl,H3.out⟩
end
structure PgOk (w0:World) (p:List InsR):Prop where
  len:p.length≤64
  chk:∀ {w:World} {R:Asr} {A:Option Addr} {cp:Nat},Hold w0 w (Z0a (.slice A p.length cp) p*R)→Calls Tryz.prog 29 #[.slice A p.length cp] w fun e w'=>e = .returned (.tuple #[.int .i64 0,.int .i64 0])∧Hold w0 w' (Z0a (.slice A p.length cp) p*R)
theorem PgOk.of {w0:World} {c:Cfg} {p:List InsR} (hF:FormsAt w0) (hp:ProgOk c p):PgOk w0 p:=⟨hp.len,fun h=>Zc8 hF h hp⟩
end Go.Proofs.YtmlfangeanmmeaaGreatDoor
namespace Go.Proofs.YtmlfangeanmmeaaGreatDoor
set_option maxRecDepth 8000
open Go
set_option linter.unusedVariables false
def tkt:Ph→Option Int
  | .wait tk | .chk tk _ | .dec tk | .wr tk _ _ | .rel tk _ _ _ | .stamp tk _ | .pass tk=>some tk
  | _=>none
def Z1n:Ph→Bool
  | .chk _ _ | .dec _ | .wr _ _ _ | .rel _ _ _ _ | .stamp _ _ | .pass _=>true
  | _=>false
theorem Zby {q:Ph} (h:Z1n q=true):∃ tk,tkt q=some tk:=by
  cases q <;> first | exact ⟨_,rfl⟩ | cases h
structure TkB (n:Nat) (B:Nat) (C:Cells) (th:Nat→TS):Prop where
  s0:0≤valC C 5 0
  sn:valC C 5 0≤valC C 4 0
  nB:valC C 4 0≤B
  rng:∀ i,i < n→∀ tk,tkt (th i).ph=some tk→valC C 5 0≤tk∧tk < valC C 4 0
  turn:∀ i,i < n→∀ tk,Z1n (th i).ph=true→tkt (th i).ph=some tk→tk=valC C 5 0
  dis:∀ i,i < n→∀ j,j < n→∀ tk,tkt (th i).ph=some tk→tkt (th j).ph=some tk→i=j
theorem TkB.one {n B:Nat} {C:Cells} {th:Nat→TS} (H:TkB n B C th) {i j:Nat} (hi:i < n) (hj:j < n) (h1:Z1n (th i).ph=true) (h2:Z1n (th j).ph=true):i=j:=by
  obtain ⟨t1,e1⟩:=Zby h1
  obtain ⟨t2,e2⟩:=Zby h2
  have a1:=H.turn i hi t1 h1 e1
  have a2:=H.turn j hj t2 h2 e2
  rw [a1] at e1
  rw [a2] at e2
  exact H.dis i hi j hj _ e1 e2
theorem wrap_u64 {x:Int} (h:0≤x) (h2:x < 18446744073709551616):IntKind.u64.wrap x=x:=by
  show x % 18446744073709551616=x
  exact Int.emod_eq_of_lt h h2
inductive TkEff (C:Cells) (q:Ph) (C':Cells) (q':Ph):Prop
  | quiet:valC C' 4 0=valC C 4 0→valC C' 5 0=valC C 5 0→tkt q'=tkt q→(Z1n q'=true→Z1n q=true∨tkt q=some (valC C 5 0))→TkEff C q C' q'
  | new:tkt q=none→valC C' 4 0=valC C 4 0 + 1→valC C' 5 0=valC C 5 0→tkt q'=some (valC C 4 0)→Z1n q'=false→TkEff C q C' q'
  | pass (tk:Int):tkt q=some tk→Z1n q=true→valC C' 4 0=valC C 4 0→valC C' 5 0=tk + 1→tkt q'=none→Z1n q'=false→TkEff C q C' q'
section
variable {c:Cfg} {p:List InsR} {n B:Nat} {T T':TS} {id:Int} {C C':Cells} {s:StR} {th:Nat→TS}
theorem TStep.tk (hs:TStep c p id C T C' T' s) (hC:Shp c n C) (h4:0≤valC C 4 0∧valC C 4 0≤1000000):TkEff C T.ph C' T'.ph:=by
  have k1:∀ (k i v:Int) (d:Bool),k ≠ 4→valC (opC C k i v d) 4 0=valC C 4 0:=fun k i v d h=>Z1g h
  have k2:∀ (k i v:Int) (d:Bool),k ≠ 5→valC (opC C k i v d) 5 0=valC C 5 0:=fun k i v d h=>Z1g h
  cases hs with
  | loc0 i hi ho hq=>exact .quiet rfl rfl rfl (fun h=>.inl h)
  | loc1 i hi ho hq=>exact .quiet rfl rfl rfl (fun h=>.inl h)
  | begin_ i hi ho hq=>rw [hq];exact .quiet (k1 _ _ _ _ (by decide)) (k2 _ _ _ _ (by decide)) rfl (fun h=>by cases h)
  | clock hq=>rw [hq];exact .quiet rfl rfl rfl (fun h=>by cases h)
  | active hq=>rw [hq];exact .quiet (k1 _ _ _ _ (by decide)) (k2 _ _ _ _ (by decide)) rfl (fun h=>by cases h)
  | rlog i hi ho hq hg=>rw [hq];exact .quiet rfl rfl rfl (fun h=>by cases h)
  | r0ok i o hi ho hq hg hor h64 hrv=>rw [hq];exact .quiet rfl rfl rfl (fun h=>by cases h)
  | r0bad i o hi ho hq hg hor hbad=>rw [hq];exact .quiet rfl rfl rfl (fun h=>by cases h)
  | r1 ad bf hq=>rw [hq];exact .quiet rfl rfl rfl (fun h=>by cases h)
  | r2bad ad bf vl hq hbad=>rw [hq];exact .quiet rfl rfl rfl (fun h=>by cases h)
  | r2ok ad bf vl i hi ho had hq hgot=>rw [hq];exact .quiet rfl rfl rfl (fun h=>by cases h)
  | twrite i hi ho hq=>exact .quiet rfl rfl rfl (fun h=>.inl h)
  | cnone i hi ho hq hL=>rw [hq];exact .quiet rfl rfl rfl (fun h=>by cases h)
  | clock_ i hi ho hq hL=>rw [hq];exact .quiet rfl rfl rfl (fun h=>by cases h)
  | lload sn o hq ho=>rw [hq];exact .quiet rfl rfl rfl (fun h=>by cases h)
  | lmore sn o a old2 hq ho ha hold hne=>rw [hq];exact .quiet (k1 _ _ _ _ (by decide)) (k2 _ _ _ _ (by decide)) rfl (fun h=>by cases h)
  | llast sn o a old2 hq ho ha hold hne=>rw [hq];exact .quiet (k1 _ _ _ _ (by decide)) (k2 _ _ _ _ (by decide)) rfl (fun h=>by cases h)
  | ticket hq=>rw [hq];exact .new rfl (by rw [Z0q hC.h4,wrap_u64 (by omega) (by omega)]) (k2 _ _ _ _ (by decide)) rfl rfl
  | wait tk hq hw=>exact .quiet rfl rfl rfl (fun h=>.inl h)
  | mine tk hq hw hS=>rw [hq];exact .quiet rfl rfl rfl (fun h=>.inr (by rw [hw];rfl))
  | mine0 tk hq hw hS=>rw [hq];exact .quiet rfl rfl rfl (fun h=>.inr (by rw [hw];rfl))
  | cmore tk z zs hq hv hzs=>rw [hq];exact .quiet rfl rfl rfl (fun h=>.inl rfl)
  | clast tk z hq hv=>rw [hq];exact .quiet rfl rfl rfl (fun h=>.inl rfl)
  | cbad0 tk z zs hq hv hL=>rw [hq];exact .quiet rfl rfl rfl (fun h=>.inl rfl)
  | cbad1 tk z zs hq hv hL=>rw [hq];exact .quiet rfl rfl rfl (fun h=>.inl rfl)
  | dnone tk hq hL=>rw [hq];exact .quiet rfl rfl rfl (fun h=>.inl rfl)
  | dstore tk hq hL hk=>rw [hq];exact .quiet rfl rfl rfl (fun h=>.inl rfl)
  | wmore tk ck k z v hq hz hv hk=>rw [hq];exact .quiet (k1 _ _ _ _ (by decide)) (k2 _ _ _ _ (by decide)) rfl (fun h=>.inl rfl)
  | wlast tk ck k z v hq hz hv hk=>rw [hq];exact .quiet (k1 _ _ _ _ (by decide)) (k2 _ _ _ _ (by decide)) rfl (fun h=>.inl rfl)
  | rmore tk ck k st z v hq hz hv hk=>rw [hq];exact .quiet (k1 _ _ _ _ (by decide)) (k2 _ _ _ _ (by decide)) rfl (fun h=>.inl rfl)
  | rlast tk ck k st z v hq hz hv hk =>
    rw [hq]
    cases st with
    | true=>exact .quiet (k1 _ _ _ _ (by decide)) (k2 _ _ _ _ (by decide)) rfl (fun h=>.inl rfl)
    | false=>exact .quiet (k1 _ _ _ _ (by decide)) (k2 _ _ _ _ (by decide)) rfl (fun h=>.inl rfl)
  | stamp tk ck hq=>rw [hq];exact .quiet (k1 _ _ _ _ (by decide)) (k2 _ _ _ _ (by decide)) rfl (fun h=>.inl rfl)
  | pass tk hq=>rw [hq];exact .pass tk rfl rfl (k1 _ _ _ _ (by decide)) (Z0q hC.h5) rfl rfl
  | commit hq hcd=>rw [hq];exact .quiet (k1 _ _ _ _ (by decide)) (k2 _ _ _ _ (by decide)) rfl (fun h=>by cases h)
  | again i hq hcd hi hlt=>rw [hq];exact .quiet (k1 _ _ _ _ (by decide)) (k2 _ _ _ _ (by decide)) rfl (fun h=>by cases h)
  | gaveUp i hq hcd hi hlt=>rw [hq];exact .quiet (k1 _ _ _ _ (by decide)) (k2 _ _ _ _ (by decide)) rfl (fun h=>by cases h)
theorem Z0b {f:Nat→TS} {i:Nat} {T:TS}:updT f i T i=T:=if_pos rfl
theorem Z0f {f:Nat→TS} {i j:Nat} {T:TS} (h:j ≠ i):updT f i T j=f j:=if_neg h
theorem TkB.step (H:TkB n B C th) {i:Nat} (hi:i < n) (he:TkEff C (th i).ph C' T'.ph):TkB n (B + 1) C' (updT th i T'):=by
  cases he with
  | quiet e4 e5 et ei =>
    refine ⟨by rw [e5];exact H.s0,by rw [e4,e5];exact H.sn,by rw [e4];have:=H.nB;omega,?_,?_,?_⟩
    · intro j hj tk h
      rw [e4,e5]
      by_cases h1:j=i
      · subst h1;rw [Z0b,et] at h;exact H.rng j hj tk h
      · rw [Z0f h1] at h;exact H.rng j hj tk h
    · intro j hj tk h h2
      rw [e5]
      by_cases h1:j=i
      · subst h1
        rw [Z0b] at h h2
        rw [et] at h2
        rcases ei h with h3 | h3
        · exact H.turn j hj tk h3 h2
        · rw [h3] at h2;exact (Option.some.inj h2).symm
      · rw [Z0f h1] at h h2;exact H.turn j hj tk h h2
    · have key:∀ j tk,tkt (updT th i T' j).ph=some tk→tkt (th j).ph=some tk:=by
        intro j tk h
        by_cases h1:j=i
        · subst h1;rw [Z0b,et] at h;exact h
        · rw [Z0f h1] at h;exact h
      intro j hj k hk tk h1 h2
      exact H.dis j hj k hk tk (key j tk h1) (key k tk h2)
  | new eq e4 e5 et ei =>
    refine ⟨by rw [e5];exact H.s0,by rw [e4,e5];have:=H.sn;omega,by rw [e4];have:=H.nB;omega,?_,?_,?_⟩
    · intro j hj tk h
      rw [e4,e5]
      by_cases h1:j=i
      · subst h1
        rw [Z0b,et] at h
        have:=Option.some.inj h
        have:=H.sn
        omega
      · rw [Z0f h1] at h;have:=H.rng j hj tk h;omega
    · intro j hj tk h h2
      rw [e5]
      by_cases h1:j=i
      · subst h1;rw [Z0b,ei] at h;cases h
      · rw [Z0f h1] at h h2;exact H.turn j hj tk h h2
    · intro j hj k hk tk h1 h2
      by_cases a:j=i
      · by_cases b:k=i
        · rw [a,b]
        · subst a
          rw [Z0b,et] at h1
          rw [Z0f b] at h2
          have:=Option.some.inj h1
          have:=H.rng k hk tk h2
          omega
      · by_cases b:k=i
        · subst b
          rw [Z0b,et] at h2
          rw [Z0f a] at h1
          have:=Option.some.inj h2
          have:=H.rng j hj tk h1
          omega
        · rw [Z0f a] at h1
          rw [Z0f b] at h2
          exact H.dis j hj k hk tk h1 h2
  | pass t0 eq hin e4 e5 et ei =>
    have h0:=H.turn i hi t0 hin eq
    have h1:=H.rng i hi t0 eq
    have s0:=H.s0
    refine ⟨by omega,by rw [e4,e5];omega,by rw [e4];have:=H.nB;omega,?_,?_,?_⟩
    · intro j hj tk h
      rw [e4,e5]
      by_cases h1:j=i
      · subst h1;rw [Z0b,et] at h;cases h
      · rw [Z0f h1] at h
        have h2:=H.rng j hj tk h
        have h3:tk ≠ t0:=by
          intro h3
          rw [h3] at h
          exact h1 (H.dis j hj i hi t0 h eq)
        omega
    · intro j hj tk h h2
      by_cases h1:j=i
      · subst h1;rw [Z0b,ei] at h;cases h
      · rw [Z0f h1] at h
        exact absurd (H.one hj hi h hin) h1
    · have key:∀ j tk,tkt (updT th i T' j).ph=some tk→tkt (th j).ph=some tk:=by
        intro j tk h
        by_cases h1:j=i
        · subst h1;rw [Z0b,et] at h;cases h
        · rw [Z0f h1] at h;exact h
      intro j hj k hk tk h1 h2
      exact H.dis j hj k hk tk (key j tk h1) (key k tk h2)
end
def frm:Ph→Option Nat
  | .lk _ _ | .take | .wait _ | .chk _ _ | .dec _ | .wr _ _ _=>some 0
  | .rel _ _ k _=>some k
  | _=>none
def hld (c:Cfg) (T:TS) (o u:Int):Prop:=∃ f j,frm T.ph=some f∧f≤j∧(osT c T)[j]?=some o∧T.old[j]?=some u
section
variable {c:Cfg} {p:List InsR} {n B:Nat} {T T':TS} {id:Int} {C C':Cells} {s:StR} {th:Nat→TS} {o u:Int}
theorem Z1c (h:frm T.ph=none):¬ hld c T o u:=by
  rintro ⟨f,j,hf,_⟩
  rw [h] at hf;cases hf
theorem Zf1 (h:T.old=[]):¬ hld c T o u:=by
  rintro ⟨f,j,_,_,_,hj⟩
  rw [h] at hj;cases hj
theorem Z3i (h:hld c T' o u) (hL:T'.L=T.L) (ho:T'.old=T.old) (hf:∀ f',frm T'.ph=some f'→∃ f,frm T.ph=some f∧f≤f'):hld c T o u:=by
  obtain ⟨f',j,h1,h2,h3,h4⟩:=h
  obtain ⟨f,hf1,hf2⟩:=hf f' h1
  refine ⟨f,j,hf1,by omega,?_,by rw [← ho];exact h4⟩
  have e:osT c T'=osT c T:=by unfold osT;rw [hL]
  rw [← e];exact h3
theorem Zbi (hc:CfgP c) (h:hld c T o u):0≤o∧o < c.orecs:=by
  obtain ⟨f,j,h1,h2,h3,h4⟩:=h
  exact Z17 hc.orecs.1 (List.mem_of_getElem? h3)
inductive LkEff (c:Cfg) (id:Int) (C:Cells) (T:TS) (C':Cells) (T':TS):Prop
  | quiet:(∀ o,valC C' 2 o=valC C 2 o)→(∀ o u,hld c T' o u→hld c T o u)→(∀ sn,T'.ph = .lk true sn→T.ph = .lk true sn∨(sn % 64=0∧∃ o,0≤o∧o < c.orecs∧sn=valC C 2 o))→LkEff c id C T C' T'
  | lock (o sn:Int):0≤o→o < c.orecs→T.ph = .lk true sn→valC C 2 o=sn→valC C' 2 o=sn + id + 1→(∀ x,0≤x→x ≠ o→valC C' 2 x=valC C 2 x)→(∀ x u,hld c T' x u→hld c T x u∨(x=o∧u=sn))→(∀ sn,T'.ph ≠ .lk true sn)→LkEff c id C T C' T'
  | free (z v u0:Int):0≤z→z < c.orecs→hld c T z u0→valC C' 2 z=v→(∀ x,0≤x→x ≠ z→valC C' 2 x=valC C 2 x)→(∀ x u,hld c T' x u→hld c T x u∧x ≠ z)→(v=u0∧(∃ tk ck k,T.ph = .rel tk ck k false)∨∃ tk ck k,T.ph = .rel tk ck k true∧v=(ck + 1)*64)→(∀ sn,T'.ph ≠ .lk true sn)→LkEff c id C T C' T'
theorem Z9p {old:List Int} {sn:Int}:oldN true old sn=old++[sn]:=rfl
theorem Z7f {old:List Int} {sn:Int}:oldN false old sn=old:=rfl
theorem Zck {q:Ph} {old2:List Int} {sn o x u:Int} (ho:(osT c T)[T.old.length]?=some o) (hq:frm q=some 0) (hT:frm T.ph=some 0) (h2:old2=T.old++[sn]) (h:hld c { T with ph:=q,old:=old2 } x u):hld c T x u∨(x=o∧u=sn):=by
  obtain ⟨f,j,h1,_,h3,h4⟩:=h
  have h3:(osT c T)[j]?=some x:=h3
  have h4:old2[j]?=some u:=h4
  rw [h2] at h4
  rcases Nat.lt_or_ge j T.old.length with hj | hj
  · rw [List.getElem?_append_left hj] at h4
    exact .inl ⟨0,j,hT,Nat.zero_le _,h3,h4⟩
  · rw [List.getElem?_append_right hj] at h4
    have:j - T.old.length=0:=by
      rcases Nat.eq_zero_or_pos (j - T.old.length) with h | h
      · exact h
      · rw [List.getElem?_eq_none (by simp;omega)] at h4;cases h4
    have e:j=T.old.length:=by omega
    subst e
    rw [ho] at h3
    simp at h4
    exact .inr ⟨(Option.some.inj h3).symm,h4.symm⟩
theorem Zf0 {q:Ph} {k:Nat} {z x u:Int} (hz:(osT c T)[k]?=some z) (hT:frm T.ph=some k) (hq:∀ f,frm q=some f→f=k + 1) (h:hld c { T with ph:=q } x u):hld c T x u∧x ≠ z:=by
  obtain ⟨f,j,h1,h2,h3,h4⟩:=h
  have hf:=hq f h1
  refine ⟨⟨k,j,hT,by omega,h3,h4⟩,?_⟩
  rintro rfl
  have:=Ze3 (xs:=lgO c T.L) hz h3
  omega
theorem TStep.lk (hs:TStep c p id C T C' T' s) (hc:CfgP c) (hC:Shp c n C) (hW:WF c p B T):LkEff c id C T C' T':=by
  have k2:∀ (k i v:Int) (d:Bool),k ≠ 2→∀ o,valC (opC C k i v d) 2 o=valC C 2 o:=fun k i v d h o=>Z1g h
  have hph:=hW.phs
  cases hs with
  | loc0 i hi ho hq=>exact .quiet (fun _=>rfl) (fun o u h=>absurd h (Z1c (by show frm T.ph=none;rw [hq];rfl))) (fun sn h=>.inl h)
  | loc1 i hi ho hq=>exact .quiet (fun _=>rfl) (fun o u h=>absurd h (Z1c (by show frm T.ph=none;rw [hq];rfl))) (fun sn h=>.inl h)
  | begin_ i hi ho hq=>exact .quiet (k2 _ _ _ _ (by decide)) (fun o u h=>absurd h (Z1c rfl)) (fun sn h=>by cases h)
  | clock hq=>exact .quiet (fun _=>rfl) (fun o u h=>absurd h (Z1c rfl)) (fun sn h=>by cases h)
  | active hq=>exact .quiet (k2 _ _ _ _ (by decide)) (fun o u h=>absurd h (Z1c rfl)) (fun sn h=>by cases h)
  | rlog i hi ho hq hg=>exact .quiet (fun _=>rfl) (fun o u h=>absurd h (Z1c rfl)) (fun sn h=>by cases h)
  | r0ok i o hi ho hq hg hor h64 hrv=>exact .quiet (fun _=>rfl) (fun o u h=>absurd h (Z1c rfl)) (fun sn h=>by cases h)
  | r0bad i o hi ho hq hg hor hbad=>exact .quiet (fun _=>rfl) (fun o u h=>absurd h (Z1c rfl)) (fun sn h=>by cases h)
  | r1 ad bf hq=>exact .quiet (fun _=>rfl) (fun o u h=>absurd h (Z1c rfl)) (fun sn h=>by cases h)
  | r2bad ad bf vl hq hbad=>exact .quiet (fun _=>rfl) (fun o u h=>absurd h (Z1c rfl)) (fun sn h=>by cases h)
  | r2ok ad bf vl i hi ho had hq hgot=>exact .quiet (fun _=>rfl) (fun o u h=>absurd h (Z1c rfl)) (fun sn h=>by cases h)
  | twrite i hi ho hq=>exact .quiet (fun _=>rfl) (fun o u h=>absurd h (Z1c (by show frm T.ph=none;rw [hq];rfl))) (fun sn h=>.inl h)
  | cnone i hi ho hq hL =>
    rw [hq] at hph
    exact .quiet (fun _=>rfl) (fun o u h=>absurd h (Zf1 hph)) (fun sn h=>by cases h)
  | clock_ i hi ho hq hL =>
    rw [hq] at hph
    exact .quiet (fun _=>rfl) (fun o u h=>absurd h (Zf1 hph)) (fun sn h=>by cases h)
  | lload sn o hq ho =>
    have hr:=Z17 hc.orecs.1 (List.mem_of_getElem? ho)
    refine .quiet (fun _=>rfl) (fun o u h=>Z3i h rfl rfl (fun f h=>⟨0,by rw [hq];rfl,Nat.zero_le _⟩)) (fun sn h=>.inr ?_)
    rw [Z3h (hC.h2 hr.1 hr.2)] at h
    injection h with h1 h2
    have h3:=of_decide_eq_true h1
    exact ⟨by rw [← h2];exact h3,o,hr.1,hr.2,h2.symm⟩
  | lmore sn o a old2 hq ho ha hold hne =>
    have hr:=Z17 hc.orecs.1 (List.mem_of_getElem? ho)
    have hf:frm T.ph=some 0:=by rw [hq];rfl
    by_cases he:valC C 2 o=sn
    · have hb:(valC C 2 o == sn)=true:=by simp [he]
      rw [hb] at ha ⊢
      have hd:a.done=true:=by rw [← ha];exact Z6c (hC.h2 hr.1 hr.2) 3
      rw [hd,Z9p] at hold
      exact .lock o sn hr.1 hr.2 hq he (Z0q (hC.h2 hr.1 hr.2)) (fun x hx hxo=>Z11 hr.1 hx (Ne.symm hxo)) (fun x u h=>Zck ho rfl hf hold.symm h) (fun sn h=>by cases h)
    · have hb:(valC C 2 o == sn)=false:=by simp [he]
      rw [hb] at ha ⊢
      have hd:a.done=false:=by rw [← ha];exact Z6c (hC.h2 hr.1 hr.2) 3
      rw [hd,Z7f] at hold
      rw [Z7n rfl]
      exact .quiet (fun _=>rfl) (fun o u h=>Z3i h rfl hold.symm (fun f h=>⟨0,hf,Nat.zero_le _⟩)) (fun sn h=>by cases h)
  | llast sn o a old2 hq ho ha hold hne =>
    have hr:=Z17 hc.orecs.1 (List.mem_of_getElem? ho)
    have hf:frm T.ph=some 0:=by rw [hq];rfl
    by_cases he:valC C 2 o=sn
    · have hb:(valC C 2 o == sn)=true:=by simp [he]
      rw [hb] at ha ⊢
      have hd:a.done=true:=by rw [← ha];exact Z6c (hC.h2 hr.1 hr.2) 3
      rw [hd,Z9p] at hold
      exact .lock o sn hr.1 hr.2 hq he (Z0q (hC.h2 hr.1 hr.2)) (fun x hx hxo=>Z11 hr.1 hx (Ne.symm hxo)) (fun x u h=>Zck ho rfl hf hold.symm h) (fun sn h=>by cases h)
    · have hb:(valC C 2 o == sn)=false:=by simp [he]
      rw [hb] at ha ⊢
      have hd:a.done=false:=by rw [← ha];exact Z6c (hC.h2 hr.1 hr.2) 3
      rw [hd,Z7f] at hold
      rw [Z7n rfl]
      exact .quiet (fun _=>rfl) (fun o u h=>Z3i h rfl hold.symm (fun f h=>⟨0,hf,Nat.zero_le _⟩)) (fun sn h=>by cases h)
  | ticket hq=>exact .quiet (k2 _ _ _ _ (by decide)) (fun o u h=>Z3i h rfl rfl (fun f h=>⟨0,by rw [hq];rfl,Nat.zero_le _⟩)) (fun sn h=>by cases h)
  | wait tk hq hw=>exact .quiet (fun _=>rfl) (fun o u h=>h) (fun sn h=>.inl h)
  | mine tk hq hw hS=>exact .quiet (fun _=>rfl) (fun o u h=>Z3i h rfl rfl (fun f h=>⟨0,by rw [hq];rfl,Nat.zero_le _⟩)) (fun sn h=>by cases h)
  | mine0 tk hq hw hS=>exact .quiet (fun _=>rfl) (fun o u h=>Z3i h rfl rfl (fun f h=>⟨0,by rw [hq];rfl,Nat.zero_le _⟩)) (fun sn h=>by cases h)
  | cmore tk z zs hq hv hzs=>exact .quiet (fun _=>rfl) (fun o u h=>Z3i h rfl rfl (fun f h=>⟨0,by rw [hq];rfl,Nat.zero_le _⟩)) (fun sn h=>by cases h)
  | clast tk z hq hv=>exact .quiet (fun _=>rfl) (fun o u h=>Z3i h rfl rfl (fun f h=>⟨0,by rw [hq];rfl,Nat.zero_le _⟩)) (fun sn h=>by cases h)
  | cbad0 tk z zs hq hv hL=>exact .quiet (fun _=>rfl) (fun o u h=>absurd h (Z1c rfl)) (fun sn h=>by cases h)
  | cbad1 tk z zs hq hv hL=>exact .quiet (fun _=>rfl) (fun o u h=>Z3i h rfl rfl (fun f h=>⟨0,by rw [hq];rfl,Nat.zero_le _⟩)) (fun sn h=>by cases h)
  | dnone tk hq hL=>exact .quiet (fun _=>rfl) (fun o u h=>absurd h (Z1c rfl)) (fun sn h=>by cases h)
  | dstore tk hq hL hk=>exact .quiet (fun _=>rfl) (fun o u h=>Z3i h rfl rfl (fun f h=>⟨0,by rw [hq];rfl,Nat.zero_le _⟩)) (fun sn h=>by cases h)
  | wmore tk ck k z v hq hz hv hk=>exact .quiet (k2 _ _ _ _ (by decide)) (fun o u h=>Z3i h rfl rfl (fun f h=>⟨0,by rw [hq];rfl,Nat.zero_le _⟩)) (fun sn h=>by cases h)
  | wlast tk ck k z v hq hz hv hk=>exact .quiet (k2 _ _ _ _ (by decide)) (fun o u h=>Z3i h rfl rfl (fun f h=>⟨0,by rw [hq];rfl,Nat.zero_le _⟩)) (fun sn h=>by cases h)
  | rmore tk ck k st z v hq hz hv hk =>
    have hr:=Z17 hc.orecs.1 (List.mem_of_getElem? hz)
    have hf:frm T.ph=some k:=by rw [hq];rfl
    rw [hq] at hph
    obtain ⟨u0,hu0⟩:∃ u0,T.old[k]?=some u0:=⟨_,List.getElem?_eq_getElem (by have:=hph.2.1;have:=hph.2.2;omega)⟩
    refine .free z v u0 hr.1 hr.2 ⟨k,k,hf,Nat.le_refl _,hz,hu0⟩ (Z0q (hC.h2 hr.1 hr.2)) (fun x hx hxo=>Z11 hr.1 hx (Ne.symm hxo)) (fun x u h=>Zf0 (q:=.rel tk ck (k + 1) st) hz hf (fun f h=>(Option.some.inj h).symm) h) ?_ (fun sn h=>by cases h)
    cases st with
    | true=>exact .inr ⟨tk,ck,k,hq,hv⟩
    | false=>exact .inl ⟨by have:T.old[k]?=some v:=hv;rw [hu0] at this;exact (Option.some.inj this).symm,tk,ck,k,hq⟩
  | rlast tk ck k st z v hq hz hv hk =>
    have hr:=Z17 hc.orecs.1 (List.mem_of_getElem? hz)
    have hf:frm T.ph=some k:=by rw [hq];rfl
    rw [hq] at hph
    obtain ⟨u0,hu0⟩:∃ u0,T.old[k]?=some u0:=⟨_,List.getElem?_eq_getElem (by have:=hph.2.1;have:=hph.2.2;omega)⟩
    refine .free z v u0 hr.1 hr.2 ⟨k,k,hf,Nat.le_refl _,hz,hu0⟩ (Z0q (hC.h2 hr.1 hr.2)) (fun x hx hxo=>Z11 hr.1 hx (Ne.symm hxo)) (fun x u h=>Zf0 hz hf (fun f h=>by cases st <;> cases h) h) ?_ (fun sn h=>by cases st <;> cases h)
    cases st with
    | true=>exact .inr ⟨tk,ck,k,hq,hv⟩
    | false=>exact .inl ⟨by have:T.old[k]?=some v:=hv;rw [hu0] at this;exact (Option.some.inj this).symm,tk,ck,k,hq⟩
  | stamp tk ck hq=>exact .quiet (k2 _ _ _ _ (by decide)) (fun o u h=>absurd h (Z1c rfl)) (fun sn h=>by cases h)
  | pass tk hq=>exact .quiet (k2 _ _ _ _ (by decide)) (fun o u h=>absurd h (Z1c rfl)) (fun sn h=>by cases h)
  | commit hq hcd=>exact .quiet (k2 _ _ _ _ (by decide)) (fun o u h=>absurd h (Z1c rfl)) (fun sn h=>by cases h)
  | again i hq hcd hi hlt=>exact .quiet (k2 _ _ _ _ (by decide)) (fun o u h=>absurd h (Z1c rfl)) (fun sn h=>by cases h)
  | gaveUp i hq hcd hi hlt=>exact .quiet (k2 _ _ _ _ (by decide)) (fun o u h=>absurd h (Z1c rfl)) (fun sn h=>by cases h)
structure LkB (c:Cfg) (n:Nat) (C:Cells) (th:Nat→TS):Prop where
  hold:∀ i,i < n→∀ o u,hld c (th i) o u→valC C 2 o=u + i + 1∧0≤u∧u % 64=0
  sn:∀ i,i < n→∀ sn,(th i).ph = .lk true sn→0≤sn∧sn % 64=0
theorem LkB.one (H:LkB c n C th) (hn:n≤16) {i j:Nat} (hi:i < n) (hj:j < n) {o u u':Int} (h1:hld c (th i) o u) (h2:hld c (th j) o u'):i=j:=by
  have a:=H.hold i hi o u h1
  have b:=H.hold j hj o u' h2
  omega
theorem LkB.step (H:LkB c n C th) (hn:n≤16) (hc:CfgP c) (h0:∀ o,0≤o→o < c.orecs→0≤valC C 2 o) {i:Nat} (hi:i < n) (he:LkEff c i C (th i) C' T'):LkB c n C' (updT th i T'):=by
  cases he with
  | quiet e eh es =>
    refine ⟨fun j hj o u h=>?_,fun j hj sn h=>?_⟩
    · rw [e]
      by_cases a:j=i
      · subst a;rw [Z0b] at h;exact H.hold j hj o u (eh o u h)
      · rw [Z0f a] at h;exact H.hold j hj o u h
    · by_cases a:j=i
      · subst a
        rw [Z0b] at h
        rcases es sn h with h1 | ⟨h1,o,ho0,ho1,h2⟩
        · exact H.sn j hj sn h1
        · exact ⟨by rw [h2];exact h0 o ho0 ho1,h1⟩
      · rw [Z0f a] at h;exact H.sn j hj sn h
  | lock o sn ho0 ho1 hq hv hv2 hoth hh hns =>
    have hsn:=H.sn i hi sn hq
    have key:∀ j,j < n→∀ x u,hld c (th j) x u→valC C' 2 x=u + j + 1∧0≤u∧u % 64=0:=by
      intro j hj x u h
      have h3:=H.hold j hj x u h
      have hx:=Zbi hc h
      have hxo:x ≠ o:=by
        rintro rfl
        omega
      rw [hoth x hx.1 hxo]
      exact h3
    refine ⟨fun j hj x u h=>?_,fun j hj sn' h=>?_⟩
    · by_cases a:j=i
      · subst a
        rw [Z0b] at h
        rcases hh x u h with h1 | ⟨rfl,rfl⟩
        · exact key j hj x u h1
        · exact ⟨hv2,hsn.1,hsn.2⟩
      · rw [Z0f a] at h;exact key j hj x u h
    · by_cases a:j=i
      · subst a;rw [Z0b] at h;exact absurd h (hns sn')
      · rw [Z0f a] at h;exact H.sn j hj sn' h
  | free z v u0 hz0 hz1 hh0 hv hoth hh hvv hns =>
    refine ⟨fun j hj x u h=>?_,fun j hj sn' h=>?_⟩
    · by_cases a:j=i
      · subst a
        rw [Z0b] at h
        obtain ⟨h1,h2⟩:=hh x u h
        rw [hoth x (Zbi hc h1).1 h2]
        exact H.hold j hj x u h1
      · rw [Z0f a] at h
        have hxz:x ≠ z:=by
          rintro rfl
          exact a (H.one hn hj hi h hh0)
        rw [hoth x (Zbi hc h).1 hxz]
        exact H.hold j hj x u h
    · by_cases a:j=i
      · subst a;rw [Z0b] at h;exact absurd h (hns sn')
      · rw [Z0f a] at h;exact H.sn j hj sn' h
end
def wtr:Ph→Bool
  | .wr _ _ _ | .rel _ _ _ true | .stamp _ _=>true
  | _=>false
def Z5z:Ph→Bool
  | .none | .ent1=>false
  | _=>true
def ckOf:Ph→Option Int
  | .wr _ ck _ | .rel _ ck _ true | .stamp _ ck=>some ck
  | _=>none
def rls (c:Cfg) (T:TS) (o:Int):Prop:=(∃ tk ck k j,T.ph = .rel tk ck k true∧j < k∧(osT c T)[j]?=some o)∨∃ tk ck,T.ph = .stamp tk ck∧o ∈ osT c T
def Z2b (q:Ph) (L:PL) (a:Int):Prop:=match q with | .wr _ _ k=>a ∈ L.addrs.take k | _=>a ∈ L.addrs
instance (q:Ph) (L:PL) (a:Int):Decidable (Z2b q L a):=by unfold Z2b;split <;> infer_instance
abbrev Hist:=Int→Int→Int
def Z1i (c:Cfg) (n:Nat) (C:Cells) (th:Nat→TS) (rv o:Int):Prop:=rv < valC C 2 o / 64∨∃ j,j < n∧wtr (th j).ph=true∧∃ u,hld c (th j) o u
def Z4b (H:Hist) (k:Int) (L:PL):Hist:=fun u a=>if u=k + 1 then (if a ∈ L.addrs then getV L a else H k a) else H u a
def Z0r (C:Cells) (L:PL) (q q':Ph) (H:Hist):Hist:=match q,q' with | .dec _,.wr _ _ _=>Z4b H (valC C 3 0) L | _,_=>H
structure Tl (c:Cfg) (n:Nat) (C:Cells) (th:Nat→TS) (H:Hist):Prop where
  clk0:0≤valC C 3 0
  ver0:∀ o,0≤o→o < c.orecs→0≤valC C 2 o
  ver:∀ o,0≤o→o < c.orecs→valC C 2 o / 64≤valC C 3 0∨∃ i,i < n∧rls c (th i) o
  rlv:∀ i,i < n→∀ o,rls c (th i) o→valC C 2 o / 64=valC C 3 0 + 1
  ckk:∀ i,i < n→∀ ck,ckOf (th i).ph=some ck→ck=valC C 3 0
  dat:∀ i,i < n→wtr (th i).ph=true→∀ a,0≤a→a < c.words→valC C 1 a=if Z2b (th i).ph (th i).L a then getV (th i).L a else H (valC C 3 0) a
  dno:(∀ i,i < n→wtr (th i).ph=false)→∀ a,0≤a→a < c.words→valC C 1 a=H (valC C 3 0) a
  nxt:∀ i,i < n→wtr (th i).ph=true→∀ a,0≤a→a < c.words→H (valC C 3 0 + 1) a=if a ∈ (th i).L.addrs then getV (th i).L a else H (valC C 3 0) a
  his:∀ a,0≤a→a < c.words→∀ u,valC C 2 (a % c.orecs) / 64≤u→u≤valC C 3 0→H u a=H (valC C 3 0) a
  rvs:∀ i,i < n→Z5z (th i).ph=true→0≤(th i).rv∧(th i).rv≤valC C 3 0
  rd1:∀ i,i < n→∀ ad bf,(th i).ph = .rd1 ad bf→bf % 64=0∧bf / 64≤(th i).rv∧0≤ad∧ad < c.words
  rd2:∀ i,i < n→∀ ad bf vl,(th i).ph = .rd2 ad bf vl→(bf % 64=0∧bf / 64≤(th i).rv∧0≤ad∧ad < c.words)∧(vl=H (th i).rv ad∨Z1i c n C th (th i).rv (ad % c.orecs))
  chk:∀ i,i < n→∀ tk zs,(th i).ph = .chk tk zs→∀ a ∈ (th i).sn,a % c.orecs ∈ zs∨H (th i).rv a=H (valC C 3 0) a
  dec:∀ i,i < n→∀ tk,(th i).ph = .dec tk→∀ a ∈ (th i).sn,H (th i).rv a=H (valC C 3 0) a
section
variable {c:Cfg} {p:List InsR} {n B:Nat} {T T':TS} {id:Int} {C C':Cells} {s:StR} {th:Nat→TS} {o u:Int} {H:Hist}
theorem Z33 (h:rls c T o):wtr T.ph=true:=by
  rcases h with ⟨tk,ck,k,j,h,_⟩ | ⟨tk,ck,h,_⟩
  · rw [h];rfl
  · rw [h];rfl
theorem Z3t {q:Ph} (h:wtr q=true):Z1n q=true:=by
  cases q <;> first | rfl | cases h
theorem Z4w {q:Ph} {ck:Int} (h:ckOf q=some ck):wtr q=true:=by
  cases q with
  | rel a b d st=>cases st <;> first | rfl | cases h
  | wr a b d=>rfl
  | stamp a b=>rfl
  | _=>cases h
theorem Z38 (hc:CfgP c) (a:Int):0≤a % c.orecs∧a % c.orecs < c.orecs:=⟨Int.emod_nonneg _ (by have:=hc.orecs;omega),Int.emod_lt_of_pos _ (by have:=hc.orecs;omega)⟩
theorem Zm6 (hW:WF c p B T) (hw:wtr T.ph=true) (ho:o ∈ osT c T):(∃ u,hld c T o u)∨rls c T o:=by
  have hph:=hW.phs
  obtain ⟨j,hj⟩:=List.mem_iff_getElem?.1 ho
  have hjl:=getElem?_lt hj
  cases hq:T.ph with
  | wr tk ck k =>
    rw [hq] at hph
    obtain ⟨u,hu⟩:∃ u,T.old[j]?=some u:=⟨_,List.getElem?_eq_getElem (by have:=hph.2.1;omega)⟩
    exact .inl ⟨u,0,j,by rw [hq];rfl,Nat.zero_le _,hj,hu⟩
  | rel tk ck k st =>
    rw [hq] at hph hw
    cases st with
    | false=>cases hw
    | true =>
      rcases Nat.lt_or_ge j k with h | h
      · exact .inr (.inl ⟨tk,ck,k,j,hq,h,hj⟩)
      · obtain ⟨u,hu⟩:∃ u,T.old[j]?=some u:=⟨_,List.getElem?_eq_getElem (by have:=hph.2.1;omega)⟩
        exact .inl ⟨u,k,j,by rw [hq];rfl,h,hj,hu⟩
  | stamp tk ck=>exact .inr (.inr ⟨tk,ck,hq,ho⟩)
  | _=>rw [hq] at hw;cases hw
theorem Zdr {q:Ph} {L:PL} {a:Int} (h:Z2b q L a):a ∈ L.addrs:=by
  unfold Z2b at h
  split at h
  · exact List.mem_of_mem_take h
  · exact h
theorem Tl.load (X:Tl c n C th H) (hc:CfgP c) (hW:∀ j,j < n→∃ p B,WF c p B (th j)) {ad rv:Int} (h0:0≤ad) (h1:ad < c.words) (hr:rv≤valC C 3 0):valC C 1 ad=H rv ad∨Z1i c n C th rv (ad % c.orecs):=by
  have key:valC C 1 ad=H (valC C 3 0) ad→valC C 1 ad=H rv ad∨Z1i c n C th rv (ad % c.orecs):=by
    intro h
    rcases Int.lt_or_le rv (valC C 2 (ad % c.orecs) / 64) with h2 | h2
    · exact .inr (.inl h2)
    · exact .inl (by rw [h,X.his ad h0 h1 rv h2 hr])
  by_cases hw:∃ j,j < n∧wtr (th j).ph=true
  · obtain ⟨j,hj,hw⟩:=hw
    have hd:=X.dat j hj hw ad h0 h1
    by_cases hm:Z2b (th j).ph (th j).L ad
    · right
      obtain ⟨p,B,hWj⟩:=hW j hj
      rcases Zm6 (o:=ad % c.orecs) hWj hw (osT_mem.2 ⟨ad,Zdr hm,rfl⟩) with ⟨u,hu⟩ | hr2
      · exact .inr ⟨j,hj,hw,u,hu⟩
      · have:=X.rlv j hj _ hr2
        exact .inl (by omega)
    · rw [if_neg hm] at hd
      exact key hd
  · refine key (X.dno (fun j hj=>?_) ad h0 h1)
    cases h:wtr (th j).ph with
    | false=>rfl
    | true=>exact absurd ⟨j,hj,h⟩ hw
theorem Zd4 (L:LkB c n C th) (hn:n≤16) {rv o:Int} (h1:valC C 2 o % 64=0) (h2:valC C 2 o / 64≤rv):¬ Z1i c n C th rv o:=by
  rintro (h | ⟨j,hj,_,u,hu⟩)
  · omega
  · have:=L.hold j hj o u hu
    omega
theorem Tl.quiet (X:Tl c n C th H) {i:Nat} (hi:i < n) (hv:∀ o,0≤o→o < c.orecs→valC C' 2 o / 64=valC C 2 o / 64∧0≤valC C' 2 o) (hc:CfgP c) (hd:∀ a,valC C' 1 a=valC C 1 a) (hk:valC C' 3 0=valC C 3 0)
    (hw:wtr (th i).ph=false) (hw':wtr T'.ph=false) (rvs:Z5z T'.ph=true→0≤T'.rv∧T'.rv≤valC C 3 0)
    (rd1:∀ ad bf,T'.ph = .rd1 ad bf→bf % 64=0∧bf / 64≤T'.rv∧0≤ad∧ad < c.words)
    (rd2:∀ ad bf vl,T'.ph = .rd2 ad bf vl→(bf % 64=0∧bf / 64≤T'.rv∧0≤ad∧ad < c.words)∧(vl=H T'.rv ad∨Z1i c n C th T'.rv (ad % c.orecs)))
    (chk:∀ tk zs,T'.ph = .chk tk zs→∀ a ∈ T'.sn,a % c.orecs ∈ zs∨H T'.rv a=H (valC C 3 0) a)
    (dec:∀ tk,T'.ph = .dec tk→∀ a ∈ T'.sn,H T'.rv a=H (valC C 3 0) a):Tl c n C' (updT th i T') H:=by
  have dm:∀ rv a,Z1i c n C th rv (a % c.orecs)→Z1i c n C' (updT th i T') rv (a % c.orecs):=by
    rintro rv a (h | ⟨j,hj,h1,u,h2⟩)
    · left;rw [(hv _ (Z38 hc a).1 (Z38 hc a).2).1];exact h
    · have hji:j ≠ i:=by rintro rfl;rw [hw] at h1;cases h1
      exact .inr ⟨j,hj,by rw [Z0f hji];exact h1,u,by rw [Z0f hji];exact h2⟩
  have hwn:∀ j,wtr (updT th i T' j).ph=true→j ≠ i∧updT th i T' j=th j:=by
    intro j h
    by_cases hji:j=i
    · subst hji;rw [Z0b,hw'] at h;cases h
    · exact ⟨hji,Z0f hji⟩
  constructor
  · rw [hk];exact X.clk0
  · exact fun o h0 h1=>(hv o h0 h1).2
  · intro o h0 h1
    rw [(hv o h0 h1).1,hk]
    rcases X.ver o h0 h1 with h | ⟨j,hj,h⟩
    · exact .inl h
    · have hji:j ≠ i:=by rintro rfl;have:=Z33 h;rw [hw] at this;cases this
      exact .inr ⟨j,hj,by rw [Z0f hji];exact h⟩
  · intro j hj o h
    obtain ⟨h1,h2⟩:=hwn j (Z33 h)
    rw [h2] at h
    have ho:0≤o∧o < c.orecs:=by
      rcases h with ⟨tk,ck,k,j,_,_,h⟩ | ⟨tk,ck,_,h⟩
      · exact Z17 hc.orecs.1 (List.mem_of_getElem? h)
      · exact Z17 hc.orecs.1 h
    rw [(hv o ho.1 ho.2).1,hk]
    exact X.rlv j hj o h
  · intro j hj ck h
    obtain ⟨h1,h2⟩:=hwn j (Z4w h)
    rw [h2] at h
    rw [hk];exact X.ckk j hj ck h
  · intro j hj h a h0 h1
    obtain ⟨_,h2⟩:=hwn j h
    rw [h2] at h ⊢
    rw [hd,hk];exact X.dat j hj h a h0 h1
  · intro h a h0 h1
    rw [hd,hk]
    refine X.dno (fun j hj=>?_) a h0 h1
    by_cases hji:j=i
    · subst hji;exact hw
    · have:=h j hj;rw [Z0f hji] at this;exact this
  · intro j hj h a h0 h1
    obtain ⟨_,h2⟩:=hwn j h
    rw [h2] at h ⊢
    rw [hk];exact X.nxt j hj h a h0 h1
  · intro a h0 h1 u h2 h3
    rw [hk] at h3 ⊢
    rw [(hv _ (Z38 hc a).1 (Z38 hc a).2).1] at h2
    exact X.his a h0 h1 u h2 h3
  · intro j hj h
    rw [hk]
    by_cases hji:j=i
    · subst hji;rw [Z0b] at h ⊢;exact rvs h
    · rw [Z0f hji] at h ⊢;exact X.rvs j hj h
  · intro j hj ad bf h
    by_cases hji:j=i
    · subst hji;rw [Z0b] at h ⊢;exact rd1 ad bf h
    · rw [Z0f hji] at h ⊢;exact X.rd1 j hj ad bf h
  · intro j hj ad bf vl h
    have key:(bf % 64=0∧bf / 64≤(updT th i T' j).rv∧0≤ad∧ad < c.words)∧(vl=H (updT th i T' j).rv ad∨Z1i c n C th (updT th i T' j).rv (ad % c.orecs)):=by
      by_cases hji:j=i
      · subst hji;rw [Z0b] at h ⊢;exact rd2 ad bf vl h
      · rw [Z0f hji] at h ⊢;exact X.rd2 j hj ad bf vl h
    exact ⟨key.1,key.2.imp id (dm _ _)⟩
  · intro j hj tk zs h
    rw [hk]
    by_cases hji:j=i
    · subst hji;rw [Z0b] at h ⊢;exact chk tk zs h
    · rw [Z0f hji] at h ⊢;exact X.chk j hj tk zs h
  · intro j hj tk h
    rw [hk]
    by_cases hji:j=i
    · subst hji;rw [Z0b] at h ⊢;exact dec tk h
    · rw [Z0f hji] at h ⊢;exact X.dec j hj tk h
end
section
variable {c:Cfg} {p:List InsR} {n B:Nat} {T T':TS} {id:Int} {C C':Cells} {s:StR} {th:Nat→TS} {o u:Int} {H:Hist}
theorem Z0g {P:TS→Prop} {i j:Nat} (h1:j=i→P T') (h2:j ≠ i→P (th j)):P (updT th i T' j):=by
  by_cases h:j=i
  · subst h;rw [Z0b];exact h1 rfl
  · rw [Z0f h];exact h2 h
theorem Zca {k u:Int} {L:PL} (h:u≤k):Z4b H k L u=H u:=by
  funext a
  unfold Z4b
  rw [if_neg (by omega)]
theorem Z9k {k:Int} {L:PL} {a:Int}:Z4b H k L (k + 1) a=if a ∈ L.addrs then getV L a else H k a:=by
  unfold Z4b
  rw [if_pos rfl]
theorem Tl.decide (X:Tl c n C th H) (K:TkB n B C th) {i:Nat} (hi:i < n) {tk:Int} (hq:(th i).ph = .dec tk) (h1:T'={ th i with ph:=.wr tk (valC C 3 0) 0 }):Tl c n C (updT th i T') (Z4b H (valC C 3 0) (th i).L):=by
  subst h1
  have hin:Z1n (th i).ph=true:=by rw [hq];rfl
  have hwi:wtr (th i).ph=false:=by rw [hq];rfl
  have hno:∀ j,j < n→wtr (th j).ph=false:=by
    intro j hj
    cases h:wtr (th j).ph with
    | false=>rfl
    | true =>
      have:=K.one hj hi (Z3t h) hin
      subst this;rw [h] at hwi;cases hwi
  have hle:∀ u,u≤valC C 3 0→Z4b H (valC C 3 0) (th i).L u=H u:=fun u h=>Zca h
  have hkk:=hle _ (Int.le_refl _)
  have dm:∀ rv o,Z1i c n C th rv o→Z1i c n C (updT th i { th i with ph:=.wr tk (valC C 3 0) 0 }) rv o:=by
    rintro rv o (h | ⟨j,hj,h1,_⟩)
    · exact .inl h
    · rw [hno j hj] at h1;cases h1
  constructor
  · exact X.clk0
  · exact X.ver0
  · intro o h0 h1
    rcases X.ver o h0 h1 with h | ⟨j,hj,h⟩
    · exact .inl h
    · have:=Z33 h;rw [hno j hj] at this;cases this
  · intro j hj o h
    refine Z0g (P:=fun T=>rls c T o→_) (fun _ h=>?_) (fun _ h=>?_) h
    · rcases h with ⟨_,_,_,_,h,_⟩ | ⟨_,_,h,_⟩ <;> cases h
    · have:=Z33 h;rw [hno j hj] at this;cases this
  · intro j hj ck h
    refine Z0g (P:=fun T=>ckOf T.ph=some ck→_) (fun _ h=>?_) (fun _ h=>?_) h
    · exact (Option.some.inj h).symm
    · have:=Z4w h;rw [hno j hj] at this;cases this
  · intro j hj h a h0 h1
    rw [hkk]
    refine Z0g (P:=fun T=>wtr T.ph=true→valC C 1 a=if Z2b T.ph T.L a then getV T.L a else H (valC C 3 0) a) (fun _ h=>?_) (fun _ h=>?_) h
    · rw [if_neg (by unfold Z2b;simp)]
      exact X.dno hno a h0 h1
    · rw [hno j hj] at h;cases h
  · intro h
    have:=h i hi
    rw [Z0b] at this;cases this
  · intro j hj h a h0 h1
    rw [hkk]
    refine Z0g (P:=fun T=>wtr T.ph=true→Z4b H (valC C 3 0) (th i).L (valC C 3 0 + 1) a=if a ∈ T.L.addrs then getV T.L a else H (valC C 3 0) a) (fun _ h=>?_) (fun _ h=>?_) h
    · exact Z9k
    · rw [hno j hj] at h;cases h
  · intro a h0 h1 u h2 h3
    rw [hkk,hle u h3]
    exact X.his a h0 h1 u h2 h3
  · intro j hj
    refine Z0g (P:=fun T=>Z5z T.ph=true→0≤T.rv∧T.rv≤valC C 3 0) (fun _ h=>?_) (fun _ h=>X.rvs j hj h)
    exact X.rvs i hi (by rw [hq];rfl)
  · intro j hj ad bf
    refine Z0g (P:=fun T=>T.ph = .rd1 ad bf→bf % 64=0∧bf / 64≤T.rv∧0≤ad∧ad < c.words) (fun _ h=>by cases h) (fun _ h=>X.rd1 j hj ad bf h)
  · intro j hj ad bf vl
    refine Z0g (P:=fun T=>T.ph = .rd2 ad bf vl→(bf % 64=0∧bf / 64≤T.rv∧0≤ad∧ad < c.words)∧(vl=Z4b H (valC C 3 0) (th i).L T.rv ad∨Z1i c n C _ T.rv (ad % c.orecs))) (fun _ h=>by cases h) (fun _ h=>?_)
    have h1:=X.rd2 j hj ad bf vl h
    have h2:=X.rvs j hj (by rw [h];rfl)
    rw [hle _ h2.2]
    exact ⟨h1.1,h1.2.imp id (dm _ _)⟩
  · intro j hj tk zs
    refine Z0g (P:=fun T=>T.ph = .chk tk zs→∀ a ∈ T.sn,a % c.orecs ∈ zs∨Z4b H (valC C 3 0) (th i).L T.rv a=Z4b H (valC C 3 0) (th i).L (valC C 3 0) a) (fun _ h=>by cases h) (fun _ h=>?_)
    have h2:=X.rvs j hj (by rw [h];rfl)
    rw [hkk,hle _ h2.2]
    exact X.chk j hj tk zs h
  · intro j hj tk
    refine Z0g (P:=fun T=>T.ph = .dec tk→∀ a ∈ T.sn,Z4b H (valC C 3 0) (th i).L T.rv a=Z4b H (valC C 3 0) (th i).L (valC C 3 0) a) (fun _ h=>by cases h) (fun _ h=>?_)
    have h2:=X.rvs j hj (by rw [h];rfl)
    rw [hkk,hle _ h2.2]
    exact X.dec j hj tk h
theorem Zk8 {L:PL} (hI:Inv L) {k:Nat} {z v:Int} (hz:L.addrs[k]?=some z) (hv:L.vals[k]?=some v):getV L z=v:=by
  have hm:=List.mem_of_getElem? hz
  have hk:=getElem?_lt hz
  have h1:=Z6k hm
  have e:adr L k=z:=by rw [Zfj hk];exact (List.getElem?_eq_some_iff.1 hz).2
  have h2:=hI.nodup _ k h1.1 hk (by rw [h1.2,e])
  unfold getV
  rw [if_pos hm,h2]
  simp [List.getD,hv]
theorem Tl.write (X:Tl c n C th H) (K:TkB n B C th) (hC:Shp c n C) {i:Nat} (hi:i < n) (hW:WF c p B (th i)) {tk ck:Int} {k:Nat} {z v:Int} (hq:(th i).ph = .wr tk ck k) (hz:(th i).L.addrs[k]?=some z) (hv:(th i).L.vals[k]?=some v)
    {q:Ph} (hq':(q = .wr tk ck (k + 1))∨(q = .rel tk ck 0 true∧k + 1=(th i).L.addrs.length)) (h1:T'={ th i with ph:=q }):Tl c n (opC C 1 z v true) (updT th i T') H:=by
  subst h1
  have hzr:=hW.adr z (List.mem_of_getElem? hz)
  have hin:Z1n (th i).ph=true:=by rw [hq];rfl
  have hwi:wtr (th i).ph=true:=by rw [hq];rfl
  have hwq:wtr q=true:=by rcases hq' with rfl | ⟨rfl,_⟩ <;> rfl
  have hno:∀ j,j < n→wtr (th j).ph=true→j=i:=fun j hj h=>K.one hj hi (Z3t h) hin
  have e2:∀ o,valC (opC C 1 z v true) 2 o=valC C 2 o:=fun o=>Z1g (by decide)
  have e3:valC (opC C 1 z v true) 3 0=valC C 3 0:=Z1g (by decide)
  have hrl:∀ o,¬ rls c { th i with ph:=q } o:=by
    intro o h
    rcases h with ⟨tk2,ck2,k2,j,h,hj,_⟩ | ⟨_,_,h,_⟩
    · rcases hq' with rfl | ⟨rfl,_⟩
      · cases h
      · cases h;omega
    · rcases hq' with rfl | ⟨rfl,_⟩ <;> cases h
  have hrl0:∀ o,¬ rls c (th i) o:=by
    intro o h
    rcases h with ⟨tk2,ck2,k2,j,h,hj,_⟩ | ⟨_,_,h,_⟩ <;> (rw [hq] at h;cases h)
  have hwr:∀ a,a ≠ z→(Z2b q (th i).L a ↔ Z2b (th i).ph (th i).L a):=by
    intro a ha
    have hk:=getElem?_lt hz
    have h2:(th i).L.addrs.take (k + 1)=(th i).L.addrs.take k++[z]:=by rw [List.take_add_one,hz];rfl
    rw [hq]
    have h3:a ∈ (th i).L.addrs.take (k + 1) ↔ a ∈ (th i).L.addrs.take k:=by rw [h2];simp [ha]
    rcases hq' with rfl | ⟨rfl,hl⟩
    · exact h3
    · show a ∈ (th i).L.addrs ↔ _
      rw [show (th i).L.addrs=(th i).L.addrs.take (k + 1) by rw [hl,List.take_length]]
      exact h3
  have hwz:Z2b q (th i).L z:=by
    rcases hq' with rfl | ⟨rfl,hl⟩
    · show z ∈ (th i).L.addrs.take (k + 1)
      rw [List.take_add_one,hz];simp
    · exact List.mem_of_getElem? hz
  have dm:∀ rv o,Z1i c n C th rv o→Z1i c n (opC C 1 z v true) (updT th i { th i with ph:=q }) rv o:=by
    rintro rv o (h | ⟨j,hj,h1,u,h2⟩)
    · left;rw [e2];exact h
    · have:=hno j hj h1
      subst this
      refine .inr ⟨j,hj,by rw [Z0b];exact hwq,u,?_⟩
      rw [Z0b]
      obtain ⟨f,j2,a1,a2,a3,a4⟩:=h2
      rw [hq] at a1
      have:f=0:=(Option.some.inj a1).symm
      subst this
      refine ⟨0,j2,?_,Nat.zero_le _,a3,a4⟩
      rcases hq' with rfl | ⟨rfl,_⟩ <;> rfl
  constructor
  · rw [e3];exact X.clk0
  · intro o;rw [e2];exact X.ver0 o
  · intro o h0 h1
    rw [e2,e3]
    rcases X.ver o h0 h1 with h | ⟨j,hj,h⟩
    · exact .inl h
    · have:=hno j hj (Z33 h);subst this;exact absurd h (hrl0 o)
  · intro j hj o h
    refine Z0g (P:=fun T=>rls c T o→_) (fun _ h=>absurd h (hrl o)) (fun hji h=>?_) h
    exact absurd (hno j hj (Z33 h)) hji
  · intro j hj ck2 h
    rw [e3]
    refine Z0g (P:=fun T=>ckOf T.ph=some ck2→_) (fun _ h=>?_) (fun hji h=>absurd (hno j hj (Z4w h)) hji) h
    refine X.ckk i hi ck2 ?_
    rw [hq]
    rcases hq' with rfl | ⟨rfl,_⟩ <;> exact h
  · intro j hj h a h0 h1
    rw [e3]
    refine Z0g (P:=fun T=>wtr T.ph=true→valC (opC C 1 z v true) 1 a=if Z2b T.ph T.L a then getV T.L a else H (valC C 3 0) a) (fun _ h=>?_) (fun hji h=>absurd (hno j hj h) hji) h
    by_cases ha:a=z
    · subst ha
      rw [Z0q (hC.h1 h0 h1),if_pos hwz]
      exact (Zk8 hW.inv hz hv).symm
    · rw [Z11 hzr.1 h0 (Ne.symm ha)]
      have:=X.dat i hi hwi a h0 h1
      rw [this]
      by_cases hb:Z2b (th i).ph (th i).L a
      · rw [if_pos hb,if_pos ((hwr a ha).2 hb)]
      · rw [if_neg hb,if_neg (fun h=>hb ((hwr a ha).1 h))]
  · intro h
    have:=h i hi
    rw [Z0b] at this
    rw [hwq] at this;cases this
  · intro j hj h a h0 h1
    rw [e3]
    refine Z0g (P:=fun T=>wtr T.ph=true→H (valC C 3 0 + 1) a=if a ∈ T.L.addrs then getV T.L a else H (valC C 3 0) a) (fun _ h=>X.nxt i hi hwi a h0 h1) (fun hji h=>X.nxt j hj h a h0 h1) h
  · intro a h0 h1 u h2 h3
    rw [e3] at h3 ⊢
    rw [e2] at h2
    exact X.his a h0 h1 u h2 h3
  · intro j hj
    rw [e3]
    exact Z0g (P:=fun T=>Z5z T.ph=true→0≤T.rv∧T.rv≤valC C 3 0) (fun _ h=>X.rvs i hi (by rw [hq];rfl)) (fun _ h=>X.rvs j hj h)
  · intro j hj ad bf
    refine Z0g (P:=fun T=>T.ph = .rd1 ad bf→bf % 64=0∧bf / 64≤T.rv∧0≤ad∧ad < c.words) (fun _ h=>?_) (fun _ h=>X.rd1 j hj ad bf h)
    rcases hq' with rfl | ⟨rfl,_⟩ <;> cases h
  · intro j hj ad bf vl
    refine Z0g (P:=fun T=>T.ph = .rd2 ad bf vl→(bf % 64=0∧bf / 64≤T.rv∧0≤ad∧ad < c.words)∧(vl=H T.rv ad∨Z1i c n _ _ T.rv (ad % c.orecs))) (fun _ h=>?_) (fun _ h=>?_)
    · rcases hq' with rfl | ⟨rfl,_⟩ <;> cases h
    · have h1:=X.rd2 j hj ad bf vl h
      exact ⟨h1.1,h1.2.imp id (dm _ _)⟩
  · intro j hj tk zs
    rw [e3]
    refine Z0g (P:=fun T=>T.ph = .chk tk zs→∀ a ∈ T.sn,a % c.orecs ∈ zs∨H T.rv a=H (valC C 3 0) a) (fun _ h=>?_) (fun _ h=>X.chk j hj tk zs h)
    rcases hq' with rfl | ⟨rfl,_⟩ <;> cases h
  · intro j hj tk
    rw [e3]
    refine Z0g (P:=fun T=>T.ph = .dec tk→∀ a ∈ T.sn,H T.rv a=H (valC C 3 0) a) (fun _ h=>?_) (fun _ h=>X.dec j hj tk h)
    rcases hq' with rfl | ⟨rfl,_⟩ <;> cases h
theorem Tl.release (X:Tl c n C th H) (K:TkB n B C th) (hC:Shp c n C) (hc:CfgP c) {i:Nat} (hi:i < n) (hW:WF c p B (th i)) {tk ck:Int} {k:Nat} {z:Int} (hq:(th i).ph = .rel tk ck k true) (hz:(osT c (th i))[k]?=some z)
    {q:Ph} (hq':q = .rel tk ck (k + 1) true∨(q = .stamp tk ck∧k + 1=(osT c (th i)).length)) (h1:T'={ th i with ph:=q }):Tl c n (opC C 2 z ((ck + 1)*64) true) (updT th i T') H:=by
  subst h1
  have hzr:=Z17 hc.orecs.1 (List.mem_of_getElem? hz)
  have hin:Z1n (th i).ph=true:=by rw [hq];rfl
  have hwi:wtr (th i).ph=true:=by rw [hq];rfl
  have hwq:wtr q=true:=by rcases hq' with rfl | ⟨rfl,_⟩ <;> rfl
  have hck:ck=valC C 3 0:=X.ckk i hi ck (by rw [hq];rfl)
  have hno:∀ j,j < n→wtr (th j).ph=true→j=i:=fun j hj h=>K.one hj hi (Z3t h) hin
  have e1:∀ a,valC (opC C 2 z ((ck + 1)*64) true) 1 a=valC C 1 a:=fun o=>Z1g (by decide)
  have e3:valC (opC C 2 z ((ck + 1)*64) true) 3 0=valC C 3 0:=Z1g (by decide)
  have ez:valC (opC C 2 z ((ck + 1)*64) true) 2 z / 64=valC C 3 0 + 1:=by
    rw [Z0q (hC.h2 hzr.1 hzr.2),hck]
    exact Int.mul_ediv_cancel _ (by decide)
  have eo:∀ o,0≤o→o ≠ z→valC (opC C 2 z ((ck + 1)*64) true) 2 o=valC C 2 o:=fun o h0 h=>Z11 hzr.1 h0 (Ne.symm h)
  have clk:=X.clk0
  have hrl:∀ o,rls c (th i) o→rls c { th i with ph:=q } o:=by
    intro o h
    rcases h with ⟨tk2,ck2,k2,j,h,hj,ho⟩ | ⟨_,_,h,_⟩
    · rw [hq] at h
      cases h
      rcases hq' with rfl | ⟨rfl,_⟩
      · exact .inl ⟨tk,ck,k + 1,j,rfl,by omega,ho⟩
      · exact .inr ⟨tk,ck,rfl,List.mem_of_getElem? ho⟩
    · rw [hq] at h;cases h
  have hrlz:rls c { th i with ph:=q } z:=by
    rcases hq' with rfl | ⟨rfl,_⟩
    · exact .inl ⟨tk,ck,k + 1,k,rfl,by omega,hz⟩
    · exact .inr ⟨tk,ck,rfl,List.mem_of_getElem? hz⟩
  have hrl2:∀ o,rls c { th i with ph:=q } o→o=z∨rls c (th i) o:=by
    intro o h
    rcases h with ⟨tk2,ck2,k2,j,h,hj,ho⟩ | ⟨tk2,ck2,h,ho⟩
    · rcases hq' with rfl | ⟨rfl,_⟩
      · cases h
        have ho2:(osT c (th i))[j]?=some o:=ho
        clear ho
        by_cases hjk:j=k
        · subst hjk;rw [hz] at ho2;exact .inl (Option.some.inj ho2).symm
        · exact .inr (.inl ⟨tk,ck,k,j,hq,by omega,ho2⟩)
      · cases h
    · rcases hq' with rfl | ⟨rfl,hl⟩
      · cases h
      · obtain ⟨j,hj⟩:=List.mem_iff_getElem?.1 ho
        have hj2:(osT c (th i))[j]?=some o:=hj
        clear hj
        by_cases hjk:j=k
        · subst hjk;rw [hz] at hj2;exact .inl (Option.some.inj hj2).symm
        · have:=getElem?_lt hj2
          exact .inr (.inl ⟨tk,ck,k,j,hq,by omega,hj2⟩)
  have dm : ∀ rv o,0≤o→rv≤valC C 3 0→Z1i c n C th rv o→Z1i c n (opC C 2 z ((ck + 1)*64) true) (updT th i { th i with ph:=q }) rv o:=by
    rintro rv o h0 hrv h
    by_cases hoz:o=z
    · subst hoz;left;omega
    · rcases h with h | ⟨j,hj,h1,u,h2⟩
      · left;rw [eo o h0 hoz];exact h
      · have:=hno j hj h1
        subst this
        refine .inr ⟨j,hj,by rw [Z0b];exact hwq,u,?_⟩
        rw [Z0b]
        obtain ⟨f,j2,a1,a2,a3,a4⟩:=h2
        rw [hq] at a1
        have:f=k:=(Option.some.inj a1).symm
        subst this
        have hne:j2 ≠ f:=by rintro rfl;rw [hz] at a3;exact hoz (Option.some.inj a3).symm
        rcases hq' with rfl | ⟨rfl,hl⟩
        · exact ⟨f + 1,j2,rfl,by omega,a3,a4⟩
        · have:=getElem?_lt a3
          omega
  constructor
  · rw [e3];exact X.clk0
  · intro o h0 h1
    by_cases hoz:o=z
    · subst hoz;omega
    · rw [eo o h0 hoz];exact X.ver0 o h0 h1
  · intro o h0 h1
    rw [e3]
    by_cases hoz:o=z
    · subst hoz;exact .inr ⟨i,hi,by rw [Z0b];exact hrlz⟩
    · rw [eo o h0 hoz]
      rcases X.ver o h0 h1 with h | ⟨j,hj,h⟩
      · exact .inl h
      · have:=hno j hj (Z33 h)
        subst this
        exact .inr ⟨j,hj,by rw [Z0b];exact hrl o h⟩
  · intro j hj o h
    rw [e3]
    refine Z0g (P:=fun T=>rls c T o→_) (fun _ h=>?_) (fun hji h=>absurd (hno j hj (Z33 h)) hji) h
    by_cases hoz:o=z
    · subst hoz;exact ez
    · rcases hrl2 o h with h3 | h3
      · exact absurd h3 hoz
      · have ho:0≤o:=by
          rcases h3 with ⟨_,_,_,_,_,_,h⟩ | ⟨_,_,_,h⟩
          · exact (Z17 hc.orecs.1 (List.mem_of_getElem? h)).1
          · exact (Z17 hc.orecs.1 h).1
        rw [eo o ho hoz]
        exact X.rlv i hi o h3
  · intro j hj ck2 h
    rw [e3]
    refine Z0g (P:=fun T=>ckOf T.ph=some ck2→_) (fun _ h=>?_) (fun hji h=>absurd (hno j hj (Z4w h)) hji) h
    refine X.ckk i hi ck2 ?_
    rw [hq]
    rcases hq' with rfl | ⟨rfl,_⟩ <;> exact h
  · intro j hj h a h0 h1
    rw [e3,e1]
    refine Z0g (P:=fun T=>wtr T.ph=true→valC C 1 a=if Z2b T.ph T.L a then getV T.L a else H (valC C 3 0) a) (fun _ h=>?_) (fun hji h=>absurd (hno j hj h) hji) h
    have:=X.dat i hi hwi a h0 h1
    rw [hq] at this
    rcases hq' with rfl | ⟨rfl,_⟩ <;> exact this
  · intro h
    have:=h i hi
    rw [Z0b] at this
    rw [hwq] at this;cases this
  · intro j hj h a h0 h1
    rw [e3]
    exact Z0g (P:=fun T=>wtr T.ph=true→H (valC C 3 0 + 1) a=if a ∈ T.L.addrs then getV T.L a else H (valC C 3 0) a) (fun _ h=>X.nxt i hi hwi a h0 h1) (fun hji h=>X.nxt j hj h a h0 h1) h
  · intro a h0 h1 u h2 h3
    rw [e3] at h3 ⊢
    by_cases hoz:a % c.orecs=z
    · rw [hoz,ez] at h2;omega
    · rw [eo _ (Z38 hc a).1 hoz] at h2
      exact X.his a h0 h1 u h2 h3
  · intro j hj
    rw [e3]
    exact Z0g (P:=fun T=>Z5z T.ph=true→0≤T.rv∧T.rv≤valC C 3 0) (fun _ h=>X.rvs i hi (by rw [hq];rfl)) (fun _ h=>X.rvs j hj h)
  · intro j hj ad bf
    refine Z0g (P:=fun T=>T.ph = .rd1 ad bf→bf % 64=0∧bf / 64≤T.rv∧0≤ad∧ad < c.words) (fun _ h=>?_) (fun _ h=>X.rd1 j hj ad bf h)
    rcases hq' with rfl | ⟨rfl,_⟩ <;> cases h
  · intro j hj ad bf vl
    refine Z0g (P:=fun T=>T.ph = .rd2 ad bf vl→(bf % 64=0∧bf / 64≤T.rv∧0≤ad∧ad < c.words)∧(vl=H T.rv ad∨Z1i c n _ _ T.rv (ad % c.orecs))) (fun _ h=>?_) (fun _ h=>?_)
    · rcases hq' with rfl | ⟨rfl,_⟩ <;> cases h
    · have h1:=X.rd2 j hj ad bf vl h
      have h2:=X.rvs j hj (by rw [h];rfl)
      exact ⟨h1.1,h1.2.imp id (dm _ _ (Z38 hc ad).1 h2.2)⟩
  · intro j hj tk zs
    rw [e3]
    refine Z0g (P:=fun T=>T.ph = .chk tk zs→∀ a ∈ T.sn,a % c.orecs ∈ zs∨H T.rv a=H (valC C 3 0) a) (fun _ h=>?_) (fun _ h=>X.chk j hj tk zs h)
    rcases hq' with rfl | ⟨rfl,_⟩ <;> cases h
  · intro j hj tk
    rw [e3]
    refine Z0g (P:=fun T=>T.ph = .dec tk→∀ a ∈ T.sn,H T.rv a=H (valC C 3 0) a) (fun _ h=>?_) (fun _ h=>X.dec j hj tk h)
    rcases hq' with rfl | ⟨rfl,_⟩ <;> cases h
theorem Tl.stamp (X:Tl c n C th H) (K:TkB n B C th) (hC:Shp c n C) (hc:CfgP c) {i:Nat} (hi:i < n) {tk ck:Int} (hq:(th i).ph = .stamp tk ck) (h1:T'={ th i with ph:=.pass tk }):Tl c n (opC C 3 0 (ck + 1) true) (updT th i T') H:=by
  subst h1
  have hin:Z1n (th i).ph=true:=by rw [hq];rfl
  have hwi:wtr (th i).ph=true:=by rw [hq];rfl
  have hck:ck=valC C 3 0:=X.ckk i hi ck (by rw [hq];rfl)
  have hno:∀ j,j < n→Z1n (th j).ph=true→j=i:=fun j hj h=>K.one hj hi h hin
  have e1:∀ a,valC (opC C 3 0 (ck + 1) true) 1 a=valC C 1 a:=fun o=>Z1g (by decide)
  have e2:∀ a,valC (opC C 3 0 (ck + 1) true) 2 a=valC C 2 a:=fun o=>Z1g (by decide)
  have e3:valC (opC C 3 0 (ck + 1) true) 3 0=valC C 3 0 + 1:=by rw [Z0q hC.h3,hck]
  have clk:=X.clk0
  have hnw:∀ j,j < n→wtr (updT th i { th i with ph:=.pass tk } j).ph=false:=by
    intro j hj
    refine Z0g (P:=fun T=>wtr T.ph=false) (fun _=>rfl) (fun hji=>?_)
    cases h:wtr (th j).ph with
    | false=>rfl
    | true=>exact absurd (hno j hj (Z3t h)) hji
  have hnt:∀ j,j < n→j ≠ i→Z1n (th j).ph=false:=by
    intro j hj hji
    cases h:Z1n (th j).ph with
    | false=>rfl
    | true=>exact absurd (hno j hj h) hji
  have dm:∀ rv o,Z1i c n C th rv o→Z1i c n (opC C 3 0 (ck + 1) true) (updT th i { th i with ph:=.pass tk }) rv o:=by
    rintro rv o (h | ⟨j,hj,h1,u,h2⟩)
    · left;rw [e2];exact h
    · have:=hno j hj (Z3t h1)
      subst this
      exact absurd h2 (Z1c (by rw [hq];rfl))
  constructor
  · omega
  · intro o;rw [e2];exact X.ver0 o
  · intro o h0 h1
    rw [e2,e3]
    left
    rcases X.ver o h0 h1 with h | ⟨j,hj,h⟩
    · omega
    · rw [X.rlv j hj o h];exact Int.le_refl _
  · intro j hj o h
    have:=Z33 h
    rw [hnw j hj] at this;cases this
  · intro j hj ck2 h
    have:=Z4w h
    rw [hnw j hj] at this;cases this
  · intro j hj h
    rw [hnw j hj] at h;cases h
  · intro _ a h0 h1
    rw [e1,e3,X.nxt i hi hwi a h0 h1,X.dat i hi hwi a h0 h1,hq]
    rfl
  · intro j hj h
    rw [hnw j hj] at h;cases h
  · intro a h0 h1 u h2 h3
    rw [e2] at h2
    rw [e3] at h3 ⊢
    rcases Int.lt_or_le (valC C 3 0) u with h4 | h4
    · rw [show u=valC C 3 0 + 1 by omega]
    · rw [X.nxt i hi hwi a h0 h1]
      by_cases ha:a ∈ (th i).L.addrs
      · have:=X.rlv i hi (a % c.orecs) (.inr ⟨tk,ck,hq,osT_mem.2 ⟨a,ha,rfl⟩⟩)
        omega
      · rw [if_neg ha]
        exact X.his a h0 h1 u h2 h4
  · intro j hj
    rw [e3]
    refine Z0g (P:=fun T=>Z5z T.ph=true→0≤T.rv∧T.rv≤valC C 3 0 + 1) (fun _ h=>?_) (fun _ h=>?_)
    · have:=X.rvs i hi (by rw [hq];rfl)
      exact ⟨this.1,by have:=this.2;show (th i).rv≤_;omega⟩
    · have:=X.rvs j hj h;omega
  · intro j hj ad bf
    exact Z0g (P:=fun T=>T.ph = .rd1 ad bf→bf % 64=0∧bf / 64≤T.rv∧0≤ad∧ad < c.words) (fun _ h=>by cases h) (fun _ h=>X.rd1 j hj ad bf h)
  · intro j hj ad bf vl
    refine Z0g (P:=fun T=>T.ph = .rd2 ad bf vl→(bf % 64=0∧bf / 64≤T.rv∧0≤ad∧ad < c.words)∧(vl=H T.rv ad∨Z1i c n _ _ T.rv (ad % c.orecs))) (fun _ h=>by cases h) (fun _ h=>?_)
    have h1:=X.rd2 j hj ad bf vl h
    exact ⟨h1.1,h1.2.imp id (dm _ _)⟩
  · intro j hj tk zs
    refine Z0g (P:=fun T=>T.ph = .chk tk zs→∀ a ∈ T.sn,a % c.orecs ∈ zs∨H T.rv a=H _ a) (fun _ h=>by cases h) (fun hji h=>?_)
    have:=hnt j hj hji
    rw [h] at this;cases this
  · intro j hj tk
    refine Z0g (P:=fun T=>T.ph = .dec tk→∀ a ∈ T.sn,H T.rv a=H _ a) (fun _ h=>by cases h) (fun hji h=>?_)
    have:=hnt j hj hji
    rw [h] at this;cases this
end
end Go.Proofs.YtmlfangeanmmeaaGreatDoor
