/-
  What the proof of TopTransfers leans on, part 42 of 48: Pt. No statement of its own.
-/
import Derived.Test.YtmlfangeanmmeaaGreatDoorTm37
namespace Go.Proofs.YtmlfangeanmmeaaGreatDoor
set_option maxRecDepth 8000
open Go
set_option linter.unusedVariables false
def Z88 (m a b:Int):List InsR:=[⟨1,2,0,0,m⟩,⟨7,0,0,0,8⟩,⟨10,1,0,0,a⟩,⟨3,1,1,2,1⟩,⟨11,0,1,0,a⟩,⟨10,1,0,0,b⟩,⟨3,1,1,2,0⟩,⟨11,0,1,0,b⟩,⟨8,0,0,0,0⟩]
def Z15 (m a b:Int):List InsR:=reps 3 (Z88 m a b)
theorem Z1w {m a b:Int} {k:Nat} {i:InsR} (h:(Z15 m a b)[k]?=some i):(k % 9=0∧i=⟨1,2,0,0,m⟩)∨(k % 9=1∧i=⟨7,0,0,0,8⟩)∨(k % 9=2∧i=⟨10,1,0,0,a⟩)∨(k % 9=3∧i=⟨3,1,1,2,1⟩)∨(k % 9=4∧i=⟨11,0,1,0,a⟩)∨(k % 9=5∧i=⟨10,1,0,0,b⟩)∨(k % 9=6∧i=⟨3,1,1,2,0⟩)∨(k % 9=7∧i=⟨11,0,1,0,b⟩)∨(k % 9=8∧i=⟨8,0,0,0,0⟩):=by
  have h1:(Z88 m a b)[k % 9]?=some i:=Zap (l:=Z88 m a b) (by show 0 < 9;decide) 3 k i h
  have hk:k % 9 < 9:=Nat.mod_lt _ (by decide)
  generalize k % 9=j at h1 hk ⊢
  match j,hk with
  | 0,_=>exact .inl ⟨rfl,(Option.some.inj h1).symm⟩
  | 1,_=>exact .inr (.inl ⟨rfl,(Option.some.inj h1).symm⟩)
  | 2,_=>exact .inr (.inr (.inl ⟨rfl,(Option.some.inj h1).symm⟩))
  | 3,_=>exact .inr (.inr (.inr (.inl ⟨rfl,(Option.some.inj h1).symm⟩)))
  | 4,_=>exact .inr (.inr (.inr (.inr (.inl ⟨rfl,(Option.some.inj h1).symm⟩))))
  | 5,_=>exact .inr (.inr (.inr (.inr (.inr (.inl ⟨rfl,(Option.some.inj h1).symm⟩)))))
  | 6,_=>exact .inr (.inr (.inr (.inr (.inr (.inr (.inl ⟨rfl,(Option.some.inj h1).symm⟩))))))
  | 7,_=>exact .inr (.inr (.inr (.inr (.inr (.inr (.inr (.inl ⟨rfl,(Option.some.inj h1).symm⟩)))))))
  | 8,_=>exact .inr (.inr (.inr (.inr (.inr (.inr (.inr (.inr ⟨rfl,(Option.some.inj h1).symm⟩)))))))
theorem Z21 (m a b:Int):(Z15 m a b).length=27:=rfl
theorem Z6r {p q:List InsR} (h:p.map InsR.op=q.map InsR.op):∀ k,inT p k=inT q k
  | 0=>rfl
  | k + 1=>by
    have ih:=Z6r h k
    have hk:(p[k]?).map InsR.op=(q[k]?).map InsR.op:=by rw [← List.getElem?_map,← List.getElem?_map,h]
    show (match p[k]? with | some i=>if i.op=7 then true else if i.op=8 then false else inT p k | none=>inT p k)=(match q[k]? with | some i=>if i.op=7 then true else if i.op=8 then false else inT q k | none=>inT q k)
    cases hp:p[k]? with
    | none =>
      rw [hp] at hk
      cases hq:q[k]? with
      | none=>exact ih
      | some j=>rw [hq] at hk;cases hk
    | some i =>
      rw [hp] at hk
      cases hq:q[k]? with
      | none=>rw [hq] at hk;cases hk
      | some j =>
        rw [hq] at hk
        have:i.op=j.op:=Option.some.inj hk
        simp only [this,ih]
theorem Z6h {p q:List InsR} (op:Int) (h:p.map InsR.op=q.map InsR.op):∀ k,Z1b p op k=Z1b q op k
  | 0=>rfl
  | k + 1=>by
    have ih:=Z6h op h k
    have hk:(p[k]?).map InsR.op=(q[k]?).map InsR.op:=by rw [← List.getElem?_map,← List.getElem?_map,h]
    show (match p[k]? with | some i=>if i.op=7 then 0 else (if i.op=op then 1 else 0) + Z1b p op k | none=>Z1b p op k)=(match q[k]? with | some i=>if i.op=7 then 0 else (if i.op=op then 1 else 0) + Z1b q op k | none=>Z1b q op k)
    cases hp:p[k]? with
    | none =>
      rw [hp] at hk
      cases hq:q[k]? with
      | none=>exact ih
      | some j=>rw [hq] at hk;cases hk
    | some i =>
      rw [hp] at hk
      cases hq:q[k]? with
      | none=>rw [hq] at hk;cases hk
      | some j =>
        rw [hq] at hk
        have:i.op=j.op:=Option.some.inj hk
        simp only [this,ih]
theorem Zci (m a b:Int):∀ k,k < 27→inT (Z15 m a b) k=decide (2≤k % 9):=by
  have key:∀ k,k < 27→inT (Z15 0 0 0) k=decide (2≤k % 9):=by decide
  intro k hk
  rw [Z6r (p:=Z15 m a b) (q:=Z15 0 0 0) rfl]
  exact key k hk
theorem Zh8 {c:Cfg} {m a b:Int} (hw:c.words=4) (hm:0≤m∧m≤1000) (ha:0≤a∧a < 4) (hb:0≤b∧b < 4):ProgOk c (Z15 m a b) where
  ins k i h:=by
    have hk:=getElem?_lt h
    rw [Z21] at hk
    rw [Zci m a b k hk]
    unfold Z76
    rcases Z1w h with ⟨hj,rfl⟩ | ⟨hj,rfl⟩ | ⟨hj,rfl⟩ | ⟨hj,rfl⟩ | ⟨hj,rfl⟩ | ⟨hj,rfl⟩ | ⟨hj,rfl⟩ | ⟨hj,rfl⟩ | ⟨hj,rfl⟩ <;> rw [hj,hw]
    · exact .inl ⟨rfl,(by show (1:Int)≤2;decide),(by show (2:Int) < 8;decide),rfl,rfl,hm.1,hm.2⟩
    · decide
    · exact .inr (.inr (.inr (.inr (.inl ⟨rfl,by decide,(by show (1:Int)≤1;decide),(by show (1:Int) < 8;decide),rfl,rfl,ha.1,ha.2⟩))))
    · decide
    · exact .inr (.inr (.inr (.inr (.inr ⟨rfl,by decide,rfl,(by show (0:Int)≤1;decide),(by show (1:Int) < 8;decide),rfl,ha.1,ha.2⟩))))
    · exact .inr (.inr (.inr (.inr (.inl ⟨rfl,by decide,(by show (1:Int)≤1;decide),(by show (1:Int) < 8;decide),rfl,rfl,hb.1,hb.2⟩))))
    · decide
    · exact .inr (.inr (.inr (.inr (.inr ⟨rfl,by decide,rfl,(by show (0:Int)≤1;decide),(by show (1:Int) < 8;decide),rfl,hb.1,hb.2⟩))))
    · decide
  fin:=by rw [Z21,Z6r (p:=Z15 m a b) (q:=Z15 0 0 0) rfl];decide
  len:=by rw [Z21];decide
theorem Zep {c:Cfg} {m a b:Int} (hr:c.reads=8) (hw:c.writes=4):CapOk c (Z15 m a b) where
  rd k i h ho:=by
    have hk:=getElem?_lt h
    rw [Z21] at hk
    have key:∀ k,k < 27→Z1b (Z15 0 0 0) 10 k≤2:=by decide
    have:=key k hk
    rw [hr,Z6h (p:=Z15 m a b) (q:=Z15 0 0 0) 10 rfl]
    show Z1b (Z15 0 0 0) 10 k < 8
    omega
  wr k i h ho:=by
    have hk:=getElem?_lt h
    rw [Z21] at hk
    have key:∀ k,k < 27→Z1b (Z15 0 0 0) 11 k≤2:=by decide
    have:=key k hk
    rw [hw,Z6h (p:=Z15 m a b) (q:=Z15 0 0 0) 11 rfl]
    show Z1b (Z15 0 0 0) 11 k < 4
    omega
def mSnd (m a b:Int) (V:Int→Int):Int:=if a=b then u64 (V a - m) else V b
def mNew (m a b:Int) (V:Int→Int) (x:Int):Int:=if x=b then u64 (mSnd m a b V + m) else u64 (V a - m)
def atM (m a b:Int) (V:Int→Int) (T:TS):Prop :=
  (T.pc.toNat % 9=2→T.L.addrs=[]∧T.regs 2=m) ∧
  (T.pc.toNat % 9=3→T.L.addrs=[]∧T.regs 2=m∧a ∈ T.sn∧T.regs 1=V a) ∧
  (T.pc.toNat % 9=4→T.L.addrs=[]∧T.regs 2=m∧a ∈ T.sn∧T.regs 1=u64 (V a - m)) ∧
  (T.pc.toNat % 9=5→T.L.addrs=[a]∧getV T.L a=u64 (V a - m)∧T.regs 2=m∧a ∈ T.sn) ∧
  (T.pc.toNat % 9=6→T.L.addrs=[a]∧getV T.L a=u64 (V a - m)∧T.regs 2=m∧a ∈ T.sn∧(a=b∨b ∈ T.sn)∧T.regs 1=mSnd m a b V) ∧
  (T.pc.toNat % 9=7→T.L.addrs=[a]∧getV T.L a=u64 (V a - m)∧a ∈ T.sn∧(a=b∨b ∈ T.sn)∧T.regs 1=u64 (mSnd m a b V + m)) ∧
  (T.pc.toNat % 9=8→(∀ x,x ∈ T.L.addrs ↔ x=a∨x=b)∧(∀ x,x ∈ T.L.addrs→getV T.L x=mNew m a b V x)∧a ∈ T.sn∧(a=b∨b ∈ T.sn))
structure PM (m a b:Int) (V:Int→Int) (T:TS):Prop where
  r2:T.ph = .none→T.pc.toNat % 9=1→T.regs 2=m
  sv:T.ph ≠ .none→T.saved 2=m
  ent:(T.ph = .ent1∨T.ph = .ent2)→T.regs 2=m
  pos:phIn T.ph=true→T.ph ≠ .leave→atM m a b V T
  fin:Zbe T.ph=true→T.pc.toNat % 9=8
theorem PM.start {m a b:Int} {V:Int→Int}:PM m a b V startT:=⟨fun _ h=>(by cases h),fun h=>absurd rfl h,fun h=>(by rcases h with h | h <;> cases h),fun h=>(by cases h),fun h=>(by cases h)⟩
theorem Z9g {L:PL} {a v:Int} (h0:0≤a) (ha:a ∈ L.addrs):(putL L a v).addrs=L.addrs∧(putL L a v).vals=L.vals.set (L.addrs.idxOf a) v:=by
  unfold putL
  rw [if_neg (by omega),if_pos ha]
  exact ⟨rfl,rfl⟩
theorem Zcl {L:PL} (hI:Inv L) {a v x:Int} (h0:0≤a) (hok:a ∈ L.addrs∨L.addrs.length < L.cap):getV (putL L a v) x=if x=a then v else getV L x:=by
  by_cases ha:a ∈ L.addrs
  · obtain ⟨e1,e2⟩:=Z9g (v:=v) h0 ha
    have hk:=List.idxOf_lt_length_of_mem ha
    have hkv:L.addrs.idxOf a < L.vals.length:=by rw [hI.vlen];exact hk
    unfold getV
    rw [e1,e2]
    by_cases hx:x=a
    · subst hx
      rw [if_pos ha,if_pos rfl]
      simp [List.getD,hkv]
    · rw [if_neg hx]
      by_cases hm:x ∈ L.addrs
      · rw [if_pos hm,if_pos hm]
        have hne:L.addrs.idxOf a ≠ L.addrs.idxOf x:=by
          intro he
          have h1:=List.getElem_idxOf hk
          have h2:=List.getElem_idxOf (List.idxOf_lt_length_of_mem hm)
          simp only [← he] at h2
          rw [h1] at h2
          exact hx h2.symm
        simp [List.getD,hne]
      · rw [if_neg hm,if_neg hm]
  · have hl:=hok.resolve_left ha
    obtain ⟨e1,e2⟩:=Z6i (v:=v) h0 ha hl
    unfold getV
    rw [e1,e2]
    by_cases hx:x=a
    · subst hx
      rw [if_pos (by simp),if_pos rfl]
      have:(L.addrs++[x]).idxOf x=L.vals.length:=by
        rw [List.idxOf_append,if_neg ha,hI.vlen];simp
      rw [this]
      simp [List.getD]
    · rw [if_neg hx]
      by_cases hm:x ∈ L.addrs
      · have hk:=List.idxOf_lt_length_of_mem hm
        rw [if_pos (List.mem_append_left _ hm),if_pos hm,List.idxOf_append,if_pos hm]
        simp only [List.getD]
        rw [List.getElem?_append_left (by rw [hI.vlen];exact hk)]
      · rw [if_neg (by simp [hm,hx]),if_neg hm]
theorem Za6 (xs:List Int) (v:Int):v ∈ Z3s xs v:=by
  unfold Z3s
  split
  · assumption
  · simp
theorem Zfl {xs:List Int} {v z:Int} (h:z ∈ xs):z ∈ Z3s xs v:=by
  unfold Z3s
  split
  · exact h
  · exact List.mem_append_left _ h
theorem Z6a {r:Nat→Int} {k:Nat} {v:Int}:upR r k v k=v:=if_pos rfl
theorem Zdt {r:Nat→Int} {k j:Nat} {v:Int} (h:j ≠ k):upR r k v j=r j:=if_neg h
section
variable {c:Cfg} {n B:Nat} {T T':TS} {id:Int} {C C':Cells} {s:StR} {th:Nat→TS} {H:Hist} {m a b:Int} {V:Int→Int}
theorem PM.quiet (P:PM m a b V T) (h1:T'.pc=T.pc) (h2:T'.L=T.L) (h3:T'.sn=T.sn) (h4:T'.regs=T.regs) (hsv:T'.saved=T.saved) (h5:phIn T.ph=true) (h5b:T.ph ≠ .leave) (h6:Zbe T'.ph=true→Zbe T.ph=true) (h7:phIn T'.ph=true):PM m a b V T':=by
  have hn:T.ph ≠ .none:=by intro h;rw [h] at h5;cases h5
  refine ⟨fun h=>?_,fun h=>?_,fun h=>?_,fun _ _=>?_,fun h=>?_⟩
  · rw [h] at h7;cases h7
  · rw [hsv];exact P.sv hn
  · rcases h with h | h <;> (rw [h] at h7;cases h7)
  · have:=P.pos h5 h5b
    unfold atM at this ⊢
    rw [h1,h2,h3,h4]
    exact this
  · rw [h1];exact P.fin (h6 h)
theorem PM.bad (P:PM m a b V T) (hn:T.ph ≠ .none) (hsv:T'.saved=T.saved) (h:T'.ph = .leave):PM m a b V T':=by
  refine ⟨fun h2=>?_,fun _=>by rw [hsv];exact P.sv hn,fun h2=>?_,fun _ h2=>absurd h h2,fun h2=>?_⟩
  · rw [h] at h2;cases h2
  · rw [h] at h2;rcases h2 with h2 | h2 <;> cases h2
  · rw [h] at h2;cases h2
theorem PM.step (P:PM m a b V T) (hw:4≤Z1s c.writes) (ha0:0≤a) (hb0:0≤b) (hm0:u64 m=m) (hW:WF c (Z15 m a b) B T) (hrd:∀ ad bf vl,T.ph = .rd2 ad bf vl→(ldA C 2 (ad % c.orecs)).got=bf→vl=V ad) (hs:TStep c (Z15 m a b) id C T C' T' s):PM m a b V T':=by
  have hph:=hW.phs
  have hpc:=Zia hW.pc0
  have n7:∀ (i:InsR),(Z15 m a b)[T.pc.toNat]?=some i→i.op=7→T.pc.toNat % 9=1:=by
    intro i hi h7
    rcases Z1w hi with ⟨h,rfl⟩ | ⟨h,rfl⟩ | ⟨h,rfl⟩ | ⟨h,rfl⟩ | ⟨h,rfl⟩ | ⟨h,rfl⟩ | ⟨h,rfl⟩ | ⟨h,rfl⟩ | ⟨h,rfl⟩ <;> first | exact h | cases h7
  have n8:∀ (i:InsR),(Z15 m a b)[T.pc.toNat]?=some i→i.op=8→T.pc.toNat % 9=8:=by
    intro i hi h8
    rcases Z1w hi with ⟨h,rfl⟩ | ⟨h,rfl⟩ | ⟨h,rfl⟩ | ⟨h,rfl⟩ | ⟨h,rfl⟩ | ⟨h,rfl⟩ | ⟨h,rfl⟩ | ⟨h,rfl⟩ | ⟨h,rfl⟩ <;> first | exact h | cases h8
  have hend:∀ j:Nat,(∃ i,(Z15 m a b)[j]?=some i∧i.op=8)→(j + 1) % 9=0:=by
    rintro j ⟨i,hi,h8⟩
    rcases Z1w hi with ⟨h,rfl⟩ | ⟨h,rfl⟩ | ⟨h,rfl⟩ | ⟨h,rfl⟩ | ⟨h,rfl⟩ | ⟨h,rfl⟩ | ⟨h,rfl⟩ | ⟨h,rfl⟩ | ⟨h,rfl⟩ <;> first | omega | cases h8
  have hinT:∀ k,k < 27→k % 9=0→inT (Z15 m a b) k=false:=fun k hk h=>by rw [Zci m a b k hk,h];rfl
  cases hs with
  | loc0 i hi ho hq =>
    refine ⟨fun _ h=>?_,fun h=>absurd hq h,fun h=>?_,fun h=>?_,fun h=>?_⟩
    · have h:(T.pc + 1).toNat % 9=1:=h
      rw [hpc] at h
      have h0:T.pc.toNat % 9=0:=by omega
      rcases Z1w hi with ⟨h,rfl⟩ | ⟨h,rfl⟩ | ⟨h,rfl⟩ | ⟨h,rfl⟩ | ⟨h,rfl⟩ | ⟨h,rfl⟩ | ⟨h,rfl⟩ | ⟨h,rfl⟩ | ⟨h,rfl⟩
      · show locR ⟨1,2,0,0,m⟩ T.regs 2=m
        unfold locR
        rw [if_pos rfl]
        show upR T.regs 2 (u64 m) 2=m
        rw [Z6a,hm0]
      all_goals omega
    · have h:T.ph = .ent1∨T.ph = .ent2:=h
      rw [hq] at h;rcases h with h | h <;> cases h
    · have h:phIn T.ph=true:=h
      rw [hq] at h;cases h
    · have h:Zbe T.ph=true:=h
      rw [hq] at h;cases h
  | loc1 i hi ho hq =>
    have hn:T.ph ≠ .none:=by rw [hq];intro h;cases h
    have hP:=P.pos (by rw [hq];rfl) (by rw [hq];intro h;cases h)
    refine ⟨fun h=>absurd h hn,fun _=>P.sv hn,fun h=>?_,fun _ _=>?_,fun h=>?_⟩
    · have h:T.ph = .ent1∨T.ph = .ent2:=h
      rw [hq] at h;rcases h with h | h <;> cases h
    · unfold atM
      show ((T.pc + 1).toNat % 9=2→_)∧((T.pc + 1).toNat % 9=3→_)∧((T.pc + 1).toNat % 9=4→T.L.addrs=[]∧locR i T.regs 2=m∧a ∈ T.sn∧locR i T.regs 1=u64 (V a - m))∧((T.pc + 1).toNat % 9=5→_)∧((T.pc + 1).toNat % 9=6→_)∧((T.pc + 1).toNat % 9=7→T.L.addrs=[a]∧getV T.L a=u64 (V a - m)∧a ∈ T.sn∧(a=b∨b ∈ T.sn)∧locR i T.regs 1=u64 (mSnd m a b V + m))∧((T.pc + 1).toNat % 9=8→_)
      rw [hpc]
      rcases Z1w hi with ⟨h,rfl⟩ | ⟨h,rfl⟩ | ⟨h,rfl⟩ | ⟨h,rfl⟩ | ⟨h,rfl⟩ | ⟨h,rfl⟩ | ⟨h,rfl⟩ | ⟨h,rfl⟩ | ⟨h,rfl⟩
      · have:=hW.plc
        rw [hq] at this
        have h3:=getElem?_lt hi
        rw [hinT _ h3 h] at this;cases this
      · rcases ho with ho | ho <;> cases ho
      · rcases ho with ho | ho <;> cases ho
      · obtain ⟨h1,h2,h3,h4⟩:=hP.2.1 h
        refine ⟨fun h=>by omega,fun h=>by omega,fun _=>⟨h1,?_,h3,?_⟩,fun h=>by omega,fun h=>by omega,fun h=>by omega,fun h=>by omega⟩
        · show locR ⟨3,1,1,2,1⟩ T.regs 2=m
          exact h2
        · show u64 (T.regs 1 - T.regs 2)=_
          rw [h4,h2]
      · rcases ho with ho | ho <;> cases ho
      · rcases ho with ho | ho <;> cases ho
      · obtain ⟨h1,h2,h3,h4,h5,h6⟩:=hP.2.2.2.2.1 h
        refine ⟨fun h=>by omega,fun h=>by omega,fun h=>by omega,fun h=>by omega,fun h=>by omega,fun _=>⟨h1,h2,h4,h5,?_⟩,fun h=>by omega⟩
        show u64 (T.regs 1 + T.regs 2)=_
        rw [h6,h3]
      · rcases ho with ho | ho <;> cases ho
      · rcases ho with ho | ho <;> cases ho
    · have h:Zbe T.ph=true:=h
      rw [hq] at h;cases h
  | begin_ i hi ho hq =>
    have h1:=n7 i hi ho
    have h2:=P.r2 hq h1
    exact ⟨fun h=>(by cases h),fun _=>h2,fun _=>h2,fun h=>(by cases h),fun h=>(by cases h)⟩
  | clock hq =>
    have hn:T.ph ≠ .none:=by rw [hq];intro h;cases h
    exact ⟨fun h=>(by cases h),fun _=>P.sv hn,fun _=>P.ent (.inl hq),fun h=>(by cases h),fun h=>(by cases h)⟩
  | active hq =>
    have hn:T.ph ≠ .none:=by rw [hq];intro h;cases h
    rw [hq] at hph
    obtain ⟨_,i,hi,h7⟩:=hW.bg hn
    rw [← hph.1] at hi
    have h1:=n7 i hi h7
    refine ⟨fun h=>(by cases h),fun _=>P.sv hn,fun h=>(by rcases h with h | h <;> cases h),fun _ _=>?_,fun h=>(by cases h)⟩
    unfold atM
    show ((T.pc + 1).toNat % 9=2→T.L.addrs=[]∧T.regs 2=m)∧((T.pc + 1).toNat % 9=3→_)∧((T.pc + 1).toNat % 9=4→_)∧((T.pc + 1).toNat % 9=5→_)∧((T.pc + 1).toNat % 9=6→_)∧((T.pc + 1).toNat % 9=7→_)∧((T.pc + 1).toNat % 9=8→_)
    rw [hpc]
    exact ⟨fun _=>⟨hph.2.2.1,P.ent (.inr hq)⟩,fun h=>by omega,fun h=>by omega,fun h=>by omega,fun h=>by omega,fun h=>by omega,fun h=>by omega⟩
  | rlog i hi ho hq hg =>
    have hn:T.ph ≠ .none:=by rw [hq];intro h;cases h
    have hP:=P.pos (by rw [hq];rfl) (by rw [hq];intro h;cases h)
    refine ⟨fun h=>(by cases h),fun _=>P.sv hn,fun h=>(by rcases h with h | h <;> cases h),fun _ _=>?_,fun h=>(by cases h)⟩
    unfold atM
    show ((T.pc + 1).toNat % 9=2→_)∧((T.pc + 1).toNat % 9=3→_)∧((T.pc + 1).toNat % 9=4→_)∧((T.pc + 1).toNat % 9=5→_)∧((T.pc + 1).toNat % 9=6→T.L.addrs=[a]∧getV T.L a=u64 (V a - m)∧upR T.regs i.a.toNat (getV T.L i.imm) 2=m∧a ∈ T.sn∧(a=b∨b ∈ T.sn)∧upR T.regs i.a.toNat (getV T.L i.imm) 1=mSnd m a b V)∧((T.pc + 1).toNat % 9=7→_)∧((T.pc + 1).toNat % 9=8→_)
    rw [hpc]
    unfold Z44 at hg
    have hg:=of_decide_eq_true hg
    rcases Z1w hi with ⟨h,rfl⟩ | ⟨h,rfl⟩ | ⟨h,rfl⟩ | ⟨h,rfl⟩ | ⟨h,rfl⟩ | ⟨h,rfl⟩ | ⟨h,rfl⟩ | ⟨h,rfl⟩ | ⟨h,rfl⟩
    · cases ho
    · cases ho
    · rw [(hP.1 h).1] at hg;cases hg
    · cases ho
    · cases ho
    · obtain ⟨h1,h2,h3,h4⟩:=hP.2.2.2.1 h
      rw [h1] at hg
      have hba:b=a:=List.mem_singleton.1 hg
      refine ⟨fun h=>by omega,fun h=>by omega,fun h=>by omega,fun h=>by omega,fun _=>⟨h1,h2,?_,h4,.inl hba.symm,?_⟩,fun h=>by omega,fun h=>by omega⟩
      · rw [Zdt (by show (2:Nat) ≠ 1;decide)];exact h3
      · show upR T.regs 1 (getV T.L b) 1=_
        rw [Z6a,hba,h2]
        unfold mSnd
        rw [if_pos rfl]
    · cases ho
    · cases ho
    · cases ho
  | r0ok i o hi ho hq hg hor h64 hv=>exact P.quiet rfl rfl rfl rfl rfl (by rw [hq];rfl) (by rw [hq];intro h;cases h) (fun h=>by cases h) rfl
  | r0bad i o hi ho hq hg hor hbad=>exact P.bad (by rw [hq];intro h;cases h) rfl rfl
  | r1 ad bf hq=>exact P.quiet rfl rfl rfl rfl rfl (by rw [hq];rfl) (by rw [hq];intro h;cases h) (fun h=>by cases h) rfl
  | r2bad ad bf vl hq hbad=>exact P.bad (by rw [hq];intro h;cases h) rfl rfl
  | r2ok ad bf vl i hi ho had hq hgot =>
    have hn:T.ph ≠ .none:=by rw [hq];intro h;cases h
    have hP:=P.pos (by rw [hq];rfl) (by rw [hq];intro h;cases h)
    have hvl:=hrd ad bf vl hq hgot
    have hno:ad ∉ T.L.addrs:=by rw [hq] at hph;exact hph.2.1
    refine ⟨fun h=>(by cases h),fun _=>P.sv hn,fun h=>(by rcases h with h | h <;> cases h),fun _ _=>?_,fun h=>(by cases h)⟩
    unfold atM
    show ((T.pc + 1).toNat % 9=2→_)∧((T.pc + 1).toNat % 9=3→T.L.addrs=[]∧upR T.regs i.a.toNat vl 2=m∧a ∈ Z3s T.sn ad∧upR T.regs i.a.toNat vl 1=V a)∧((T.pc + 1).toNat % 9=4→_)∧((T.pc + 1).toNat % 9=5→_)∧((T.pc + 1).toNat % 9=6→T.L.addrs=[a]∧getV T.L a=u64 (V a - m)∧upR T.regs i.a.toNat vl 2=m∧a ∈ Z3s T.sn ad∧(a=b∨b ∈ Z3s T.sn ad)∧upR T.regs i.a.toNat vl 1=mSnd m a b V)∧((T.pc + 1).toNat % 9=7→_)∧((T.pc + 1).toNat % 9=8→_)
    rw [hpc]
    rcases Z1w hi with ⟨h,rfl⟩ | ⟨h,rfl⟩ | ⟨h,rfl⟩ | ⟨h,rfl⟩ | ⟨h,rfl⟩ | ⟨h,rfl⟩ | ⟨h,rfl⟩ | ⟨h,rfl⟩ | ⟨h,rfl⟩
    · cases ho
    · cases ho
    · obtain ⟨h1,h2⟩:=hP.1 h
      have had:a=ad:=had
      subst had
      refine ⟨fun h=>by omega,fun _=>⟨h1,?_,Za6 _ _,?_⟩,fun h=>by omega,fun h=>by omega,fun h=>by omega,fun h=>by omega,fun h=>by omega⟩
      · rw [Zdt (by show (2:Nat) ≠ 1;decide)];exact h2
      · show upR T.regs 1 vl 1=_
        rw [Z6a];exact hvl
    · cases ho
    · cases ho
    · obtain ⟨h1,h2,h3,h4⟩:=hP.2.2.2.1 h
      have had:b=ad:=had
      subst had
      have hne:a ≠ b:=by
        rintro rfl
        rw [h1] at hno
        exact hno (by simp)
      refine ⟨fun h=>by omega,fun h=>by omega,fun h=>by omega,fun h=>by omega,fun _=>⟨h1,h2,?_,Zfl h4,.inr (Za6 _ _),?_⟩,fun h=>by omega,fun h=>by omega⟩
      · rw [Zdt (by show (2:Nat) ≠ 1;decide)];exact h3
      · show upR T.regs 1 vl 1=_
        rw [Z6a,hvl]
        unfold mSnd
        rw [if_neg hne]
    · cases ho
    · cases ho
    · cases ho
  | twrite i hi ho hq =>
    have hn:T.ph ≠ .none:=by rw [hq];intro h;cases h
    have hP:=P.pos (by rw [hq];rfl) (by rw [hq];intro h;cases h)
    have hcap:=hW.cap hn
    refine ⟨fun h=>absurd h hn,fun _=>P.sv hn,fun h=>?_,fun _ _=>?_,fun h=>?_⟩
    · have h:T.ph = .ent1∨T.ph = .ent2:=h
      rw [hq] at h;rcases h with h | h <;> cases h
    · unfold atM
      show ((T.pc + 1).toNat % 9=2→_)∧((T.pc + 1).toNat % 9=3→_)∧((T.pc + 1).toNat % 9=4→_)∧((T.pc + 1).toNat % 9=5→(putL T.L i.imm (T.regs i.b.toNat)).addrs=[a]∧getV (putL T.L i.imm (T.regs i.b.toNat)) a=u64 (V a - m)∧T.regs 2=m∧a ∈ T.sn)∧((T.pc + 1).toNat % 9=6→_)∧((T.pc + 1).toNat % 9=7→_)∧((T.pc + 1).toNat % 9=8→(∀ x,x ∈ (putL T.L i.imm (T.regs i.b.toNat)).addrs ↔ x=a∨x=b)∧(∀ x,x ∈ (putL T.L i.imm (T.regs i.b.toNat)).addrs→getV (putL T.L i.imm (T.regs i.b.toNat)) x=mNew m a b V x)∧a ∈ T.sn∧(a=b∨b ∈ T.sn))
      rw [hpc]
      rcases Z1w hi with ⟨h,rfl⟩ | ⟨h,rfl⟩ | ⟨h,rfl⟩ | ⟨h,rfl⟩ | ⟨h,rfl⟩ | ⟨h,rfl⟩ | ⟨h,rfl⟩ | ⟨h,rfl⟩ | ⟨h,rfl⟩
      · cases ho
      · cases ho
      · cases ho
      · cases ho
      · obtain ⟨h1,h2,h3,h4⟩:=hP.2.2.1 h
        have hl:T.L.addrs.length < T.L.cap:=by rw [h1,hcap];show 0 < Z1s c.writes;omega
        have h5:=Z6i (L:=T.L) (a:=a) (v:=T.regs 1) ha0 (by rw [h1];simp) hl
        refine ⟨fun h=>by omega,fun h=>by omega,fun h=>by omega,fun _=>⟨?_,?_,h2,h3⟩,fun h=>by omega,fun h=>by omega,fun h=>by omega⟩
        · show (putL T.L a (T.regs 1)).addrs=[a]
          rw [h5.1,h1];rfl
        · show getV (putL T.L a (T.regs 1)) a=_
          rw [Zcl hW.inv ha0 (.inr hl),if_pos rfl,h4]
      · cases ho
      · cases ho
      · obtain ⟨h1,h2,h3,h4,h5⟩:=hP.2.2.2.2.2.1 h
        have hl:T.L.addrs.length < T.L.cap:=by rw [h1,hcap];show 1 < Z1s c.writes;omega
        have hm:∀ x,x ∈ (putL T.L b (T.regs 1)).addrs ↔ x=a∨x=b:=by
          intro x
          by_cases hba:b ∈ T.L.addrs
          · rw [(Z9g (v:=T.regs 1) hb0 hba).1,h1]
            rw [h1] at hba
            have hba:=List.mem_singleton.1 hba
            simp [hba]
          · rw [(Z6i (v:=T.regs 1) hb0 hba hl).1,h1]
            simp
        refine ⟨fun h=>by omega,fun h=>by omega,fun h=>by omega,fun h=>by omega,fun h=>by omega,fun h=>by omega,fun _=>⟨hm,fun x hx=>?_,h3,h4⟩⟩
        show getV (putL T.L b (T.regs 1)) x=_
        have hx:=(hm x).1 hx
        rw [Zcl hW.inv hb0 (.inr hl)]
        unfold mNew
        by_cases hxb:x=b
        · rw [if_pos hxb,if_pos hxb,h5]
        · rw [if_neg hxb,if_neg hxb,hx.resolve_right hxb,h2]
      · cases ho
    · have h:Zbe T.ph=true:=h
      rw [hq] at h;cases h
  | cnone i hi ho hq hL =>
    have hP:=P.pos (by rw [hq];rfl) (by rw [hq];intro h;cases h)
    have:=((hP.2.2.2.2.2.2 (n8 i hi ho)).1 a).2 (.inl rfl)
    rw [hL] at this;cases this
  | clock_ i hi ho hq hL =>
    have hn:T.ph ≠ .none:=by rw [hq];intro h;cases h
    have hP:=P.pos (by rw [hq];rfl) (by rw [hq];intro h;cases h)
    exact ⟨fun h=>(by cases h),fun _=>P.sv hn,fun h=>(by rcases h with h | h <;> cases h),fun _ _=>hP,fun _=>n8 i hi ho⟩
  | lload sn o hq ho=>exact P.quiet rfl rfl rfl rfl rfl (by rw [hq];rfl) (by rw [hq];intro h;cases h) (fun _=>by rw [hq];rfl) rfl
  | lmore sn o ac old2 hq ho ha hold hne=>exact P.quiet rfl rfl rfl rfl rfl (by rw [hq];rfl) (by rw [hq];intro h;cases h) (fun _=>by rw [hq];rfl) rfl
  | llast sn o ac old2 hq ho ha hold hne=>exact P.quiet rfl rfl rfl rfl rfl (by rw [hq];rfl) (by rw [hq];intro h;cases h) (fun _=>by rw [hq];rfl) rfl
  | ticket hq=>exact P.quiet rfl rfl rfl rfl rfl (by rw [hq];rfl) (by rw [hq];intro h;cases h) (fun _=>by rw [hq];rfl) rfl
  | wait tk hq hw=>exact P
  | mine tk hq hw hS=>exact P.quiet rfl rfl rfl rfl rfl (by rw [hq];rfl) (by rw [hq];intro h;cases h) (fun _=>by rw [hq];rfl) rfl
  | mine0 tk hq hw hS=>exact P.quiet rfl rfl rfl rfl rfl (by rw [hq];rfl) (by rw [hq];intro h;cases h) (fun _=>by rw [hq];rfl) rfl
  | cmore tk z zs hq hv hzs=>exact P.quiet rfl rfl rfl rfl rfl (by rw [hq];rfl) (by rw [hq];intro h;cases h) (fun _=>by rw [hq];rfl) rfl
  | clast tk z hq hv=>exact P.quiet rfl rfl rfl rfl rfl (by rw [hq];rfl) (by rw [hq];intro h;cases h) (fun _=>by rw [hq];rfl) rfl
  | cbad0 tk z zs hq hv hL=>exact P.quiet rfl rfl rfl rfl rfl (by rw [hq];rfl) (by rw [hq];intro h;cases h) (fun _=>by rw [hq];rfl) rfl
  | cbad1 tk z zs hq hv hL=>exact P.quiet rfl rfl rfl rfl rfl (by rw [hq];rfl) (by rw [hq];intro h;cases h) (fun _=>by rw [hq];rfl) rfl
  | dnone tk hq hL=>exact P.quiet rfl rfl rfl rfl rfl (by rw [hq];rfl) (by rw [hq];intro h;cases h) (fun _=>by rw [hq];rfl) rfl
  | dstore tk hq hL hk=>exact P.quiet rfl rfl rfl rfl rfl (by rw [hq];rfl) (by rw [hq];intro h;cases h) (fun _=>by rw [hq];rfl) rfl
  | wmore tk ck k z v hq hz hv hk=>exact P.quiet rfl rfl rfl rfl rfl (by rw [hq];rfl) (by rw [hq];intro h;cases h) (fun _=>by rw [hq];rfl) rfl
  | wlast tk ck k z v hq hz hv hk=>exact P.quiet rfl rfl rfl rfl rfl (by rw [hq];rfl) (by rw [hq];intro h;cases h) (fun _=>by rw [hq];rfl) rfl
  | rmore tk ck k st z v hq hz hv hk=>exact P.quiet rfl rfl rfl rfl rfl (by rw [hq];rfl) (by rw [hq];intro h;cases h) (fun _=>by rw [hq];rfl) rfl
  | rlast tk ck k st z v hq hz hv hk =>
    cases st with
    | true=>exact P.quiet rfl rfl rfl rfl rfl (by rw [hq];rfl) (by rw [hq];intro h;cases h) (fun _=>by rw [hq];rfl) rfl
    | false=>exact P.quiet rfl rfl rfl rfl rfl (by rw [hq];rfl) (by rw [hq];intro h;cases h) (fun _=>by rw [hq];rfl) rfl
  | stamp tk ck hq=>exact P.quiet rfl rfl rfl rfl rfl (by rw [hq];rfl) (by rw [hq];intro h;cases h) (fun _=>by rw [hq];rfl) rfl
  | pass tk hq=>exact P.bad (by rw [hq];intro h;cases h) rfl rfl
  | commit hq hcd =>
    have hn:T.ph ≠ .none:=by rw [hq];intro h;cases h
    obtain ⟨hb0',i,hi,h7⟩:=hW.bg hn
    refine ⟨fun _ h=>?_,fun h=>absurd rfl h,fun h=>(by rcases h with h | h <;> cases h),fun h=>(by cases h),fun h=>(by cases h)⟩
    exfalso
    have hfin:inT (Z15 m a b) (Z15 m a b).length=false:=by rw [Z21,Z6r (p:=Z15 m a b) (q:=Z15 0 0 0) rfl];decide
    have hlt:=getElem?_lt hi
    obtain ⟨j,hj,hi8,hf⟩:=Z3a (Z15 m a b) _ (T.begin_.toNat + 1) rfl (by omega) (by rw [Z2g hi,if_pos h7]) hfin
    have e:Z0j (Z15 m a b) T.begin_=j:=by
      unfold Z0j
      rw [hf]
      show T.begin_ + 1 + ((j - (T.begin_.toNat + 1):Nat):Int)=j
      omega
    have h:(Z0j (Z15 m a b) T.begin_ + 1).toNat % 9=1:=h
    rw [e] at h
    have:=hend j hi8
    omega
  | again i hq hcd hi hlt =>
    have hn:T.ph ≠ .none:=by rw [hq];intro h;cases h
    exact ⟨fun _ _=>P.sv hn,fun h=>absurd rfl h,fun h=>(by rcases h with h | h <;> cases h),fun h=>(by cases h),fun h=>(by cases h)⟩
  | gaveUp i hq hcd hi hlt =>
    have hn:T.ph ≠ .none:=by rw [hq];intro h;cases h
    obtain ⟨hb0',i,hi,h7⟩:=hW.bg hn
    refine ⟨fun _ h=>?_,fun h=>absurd rfl h,fun h=>(by rcases h with h | h <;> cases h),fun h=>(by cases h),fun h=>(by cases h)⟩
    exfalso
    have hfin:inT (Z15 m a b) (Z15 m a b).length=false:=by rw [Z21,Z6r (p:=Z15 m a b) (q:=Z15 0 0 0) rfl];decide
    have hlt:=getElem?_lt hi
    obtain ⟨j,hj,hi8,hf⟩:=Z3a (Z15 m a b) _ (T.begin_.toNat + 1) rfl (by omega) (by rw [Z2g hi,if_pos h7]) hfin
    have e:Z0j (Z15 m a b) T.begin_=j:=by
      unfold Z0j
      rw [hf]
      show T.begin_ + 1 + ((j - (T.begin_.toNat + 1):Nat):Int)=j
      omega
    have h:(Z0j (Z15 m a b) T.begin_ + 1).toNat % 9=1:=h
    rw [e] at h
    have:=hend j hi8
    omega
end
end Go.Proofs.YtmlfangeanmmeaaGreatDoor
