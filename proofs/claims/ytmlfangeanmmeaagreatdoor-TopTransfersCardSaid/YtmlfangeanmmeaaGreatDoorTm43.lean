/-
  What the proof of TopTransfers leans on, part 43 of 48: Pt2, Pt3. No statement of its own.
-/
import Derived.Test.YtmlfangeanmmeaaGreatDoorTm42
namespace Go.Proofs.YtmlfangeanmmeaaGreatDoor
set_option maxRecDepth 8000
open Go
set_option linter.unusedVariables false
def aPart:List InsR:=[⟨7,0,0,0,8⟩,⟨10,1,0,0,0⟩,⟨3,3,3,1,0⟩,⟨10,1,0,0,1⟩,⟨3,3,3,1,0⟩,⟨10,1,0,0,2⟩,⟨3,3,3,1,0⟩,⟨10,1,0,0,3⟩,⟨3,3,3,1,0⟩,⟨8,0,0,0,0⟩,⟨1,3,0,0,0⟩]
def aProg:List InsR:=reps 3 aPart
theorem Z54:aProg.length=33:=rfl
theorem Z3z {k:Nat} {i:InsR} (h:aProg[k]?=some i):(k % 11=0∧i=⟨7,0,0,0,8⟩)∨(∃ j,j < 4∧k % 11=2*j + 1∧i=⟨10,1,0,0,(j:Int)⟩)∨(∃ j,j < 4∧k % 11=2*j + 2∧i=⟨3,3,3,1,0⟩)∨(k % 11=9∧i=⟨8,0,0,0,0⟩)∨(k % 11=10∧i=⟨1,3,0,0,0⟩):=by
  have h1:aPart[k % 11]?=some i:=Zap (l:=aPart) (by decide) 3 k i h
  have hk:k % 11 < 11:=Nat.mod_lt _ (by decide)
  generalize k % 11=j at h1 hk ⊢
  match j,hk with
  | 0,_=>exact .inl ⟨rfl,(Option.some.inj h1).symm⟩
  | 1,_=>exact .inr (.inl ⟨0,by decide,rfl,(Option.some.inj h1).symm⟩)
  | 2,_=>exact .inr (.inr (.inl ⟨0,by decide,rfl,(Option.some.inj h1).symm⟩))
  | 3,_=>exact .inr (.inl ⟨1,by decide,rfl,(Option.some.inj h1).symm⟩)
  | 4,_=>exact .inr (.inr (.inl ⟨1,by decide,rfl,(Option.some.inj h1).symm⟩))
  | 5,_=>exact .inr (.inl ⟨2,by decide,rfl,(Option.some.inj h1).symm⟩)
  | 6,_=>exact .inr (.inr (.inl ⟨2,by decide,rfl,(Option.some.inj h1).symm⟩))
  | 7,_=>exact .inr (.inl ⟨3,by decide,rfl,(Option.some.inj h1).symm⟩)
  | 8,_=>exact .inr (.inr (.inl ⟨3,by decide,rfl,(Option.some.inj h1).symm⟩))
  | 9,_=>exact .inr (.inr (.inr (.inl ⟨rfl,(Option.some.inj h1).symm⟩)))
  | 10,_=>exact .inr (.inr (.inr (.inr ⟨rfl,(Option.some.inj h1).symm⟩)))
theorem Zcp:∀ k,k < 33→inT aProg k=decide (1≤k % 11∧k % 11≤9):=by decide
theorem Zi4 {c:Cfg} (hw:c.words=4):ProgOk c aProg where
  ins k i h:=by
    have hk:=getElem?_lt h
    rw [Z54] at hk
    rw [Zcp k hk]
    unfold Z76
    rw [hw]
    rcases Z3z h with ⟨hm,rfl⟩ | ⟨j,hj,hm,rfl⟩ | ⟨j,hj,hm,rfl⟩ | ⟨hm,rfl⟩ | ⟨hm,rfl⟩
    · rw [hm];decide
    · rw [hm]
      exact .inr (.inr (.inr (.inr (.inl ⟨rfl,decide_eq_true (by omega),by show (1:Int)≤1;decide,by show (1:Int) < 8;decide,rfl,rfl,Int.natCast_nonneg _,by show (j:Int) < 4;omega⟩))))
    · exact .inr (.inl ⟨rfl,by decide,by decide,by decide,by decide,by decide,by decide,.inl rfl⟩)
    · rw [hm];decide
    · exact .inl ⟨rfl,by decide,by decide,rfl,rfl,by decide,by decide⟩
  fin:=by decide
  len:=by decide
theorem Zfv {c:Cfg} (hr:c.reads=8) (hw:c.writes=4):CapOk c aProg where
  rd k i h ho:=by
    have hk:=getElem?_lt h
    rw [Z54] at hk
    have key:∀ k,k < 33→Z1b aProg 10 k≤4:=by decide
    have:=key k hk
    rw [hr]
    show Z1b aProg 10 k < 8
    omega
  wr k i h ho:=by
    have hk:=getElem?_lt h
    rw [Z54] at hk
    have key:∀ k,k < 33→Z1b aProg 11 k≤0:=by decide
    have:=key k hk
    rw [hw]
    show Z1b aProg 11 k < 4
    omega
def sum4 (V:Int→Int):Int:=u64 (V 0 + V 1 + V 2 + V 3)
def obO (st:Int × Int) (o:ObR):Option (Int × Int) :=
  if o.kind=1 then some (u64 (st.1 + o.val),st.2 + 1)
  else if o.kind=3 then (if o.val=1∧(st.2 ≠ 4∨st.1 ≠ 100) then none else some (0,0))
  else some st
def obsO:Int × Int→List ObR→Option (Int × Int)
  | st,[]=>some st
  | st,o :: l=>match obO st o with | none=>none | some st'=>obsO st' l
theorem Z39 {l l2:List ObR}:∀ {st st':Int × Int},obsO st l=some st'→obsO st (l++l2)=obsO st' l2:=by
  induction l with
  | nil=>intro st st' h;obtain rfl:=Option.some.inj h;rfl
  | cons o l ih =>
    intro st st' h
    show (match obO st o with | none=>none | some st'=>obsO st' (l++l2))=_
    have h:(match obO st o with | none=>none | some st'=>obsO st' l)=some st':=h
    cases ho:obO st o with
    | none=>rw [ho] at h;cases h
    | some s2=>rw [ho] at h;exact ih h
def Z80 (l:List ObR) (j:Nat) (V:Int→Int):Prop:=l.map (fun o=>(o.kind,o.val))=(List.range j).map fun (k:Nat)=>((1:Int),V (k:Int))
theorem Zd2 {l:List ObR} {j:Nat} {V:Int→Int} {pc v:Int} (h:Z80 l j V) (hv:v=V (j:Int)):Z80 (l++[⟨pc,1,v⟩]) (j + 1) V:=by
  unfold Z80 at h ⊢
  rw [List.map_append,h,List.range_succ,List.map_append,hv]
  rfl
theorem Zl8 {st:Int × Int} {o o':ObR} (h1:o.kind=o'.kind) (h2:o.val=o'.val):obO st o=obO st o':=by unfold obO;rw [h1,h2]
theorem Zej:∀ {l l':List ObR} {st:Int × Int},l.map (fun o=>(o.kind,o.val))=l'.map (fun o=>(o.kind,o.val))→obsO st l=obsO st l'
  | [],[],st,h=>rfl
  | [],_ :: _,st,h=>by cases h
  | _ :: _,[],st,h=>by cases h
  | o :: l,o' :: l',st,h=>by
    injection h with h1 h2
    injection h1 with h3 h4
    show (match obO st o with | none=>none | some st'=>obsO st' l)=(match obO st o' with | none=>none | some st'=>obsO st' l')
    rw [Zl8 h3 h4]
    cases obO st o' with
    | none=>rfl
    | some s2=>exact Zej h2
theorem Zgz {l:List ObR} {V:Int→Int} (h:Z80 l 4 V) (hV:sum4 V=100):obsO (0,0) l=some (100,4):=by
  have h1:obsO (0,0) l=obsO (0,0) [⟨0,1,V 0⟩,⟨0,1,V 1⟩,⟨0,1,V 2⟩,⟨0,1,V 3⟩]:=Zej (by unfold Z80 at h;rw [h];rfl)
  rw [h1]
  show some (u64 (u64 (u64 (u64 (0 + V 0) + V 1) + V 2) + V 3),(0:Int) + 1 + 1 + 1 + 1)=_
  have e:u64 (u64 (u64 (u64 (0 + V 0) + V 1) + V 2) + V 3)=100:=by
    rw [← hV];unfold sum4 u64;omega
  rw [e];rfl
def endP:Ph→Bool
  | .pass _ | .leave=>true
  | q=>Zbe q
structure PA (V:Int→Int) (T:TS):Prop where
  ent:(T.ph = .ent1∨T.ph = .ent2)→T.seen=[]
  lg:T.ph ≠ .none→T.L.addrs=[]
  pos:phIn T.ph=true→Z80 T.seen (T.pc.toNat % 11 / 2) V
  fin:endP T.ph=true→T.code=1→T.pc.toNat % 11=9
  obs:obsO (0,0) T.obs=some (0,0)
theorem PA.start {V:Int→Int}:PA V startT:=⟨fun h=>(by rcases h with h | h <;> cases h),fun h=>absurd rfl h,fun h=>(by cases h),fun h=>(by cases h),rfl⟩
section
variable {c:Cfg} {n B:Nat} {T T':TS} {id:Int} {C C':Cells} {s:StR} {th:Nat→TS} {H:Hist} {V V':Int→Int}
theorem PA.any (P:PA V T) (h:phIn T.ph=false):PA V' T:=⟨P.ent,P.lg,fun h2=>(by rw [h] at h2;cases h2),P.fin,P.obs⟩
theorem PM.any {m a b:Int} (P:PM m a b V T) (h:phIn T.ph=false):PM m a b V' T:=⟨P.r2,P.sv,P.ent,fun h2=>(by rw [h] at h2;cases h2),P.fin⟩
theorem PA.quiet (P:PA V T) (h1:T'.pc=T.pc) (h2:T'.L=T.L) (h3:T'.seen=T.seen) (h4:T'.obs=T.obs) (h5:phIn T.ph=true) (h6:endP T'.ph=true→T'.code=1→endP T.ph=true∧T.code=1) (h7:phIn T'.ph=true):PA V T':=by
  have hn:T.ph ≠ .none:=by intro h;rw [h] at h5;cases h5
  refine ⟨fun h=>?_,fun _=>by rw [h2];exact P.lg hn,fun _=>by rw [h1,h3];exact P.pos h5,fun h h8=>?_,by rw [h4];exact P.obs⟩
  · rcases h with h | h <;> (rw [h] at h7;cases h7)
  · have:=h6 h h8
    rw [h1];exact P.fin this.1 this.2
theorem PA.step (P:PA V T) (hW:WF c aProg B T) (hV:phIn T.ph=true→sum4 V=100) (hrd:∀ ad bf vl,T.ph = .rd2 ad bf vl→(ldA C 2 (ad % c.orecs)).got=bf→vl=V ad) (hs:TStep c aProg id C T C' T' s):PA V T':=by
  have hph:=hW.phs
  have hpc:=Zia hW.pc0
  have hin:∀ i,aProg[T.pc.toNat]?=some i→phIn T.ph=true→1≤T.pc.toNat % 11∧T.pc.toNat % 11≤9:=by
    intro i hi h
    have h1:=hW.plc
    have hk:=getElem?_lt hi
    rw [Z54] at hk
    rw [h,Zcp _ hk] at h1
    exact of_decide_eq_true h1
  have e9:∀ x:Int,(9:Int)=1→x=x + 1:=fun x h=>absurd h (by decide)
  cases hs with
  | loc0 i hi ho hq =>
    refine ⟨fun h=>?_,fun h=>absurd hq h,fun h=>?_,fun h=>?_,P.obs⟩
    · have h:T.ph = .ent1∨T.ph = .ent2:=h
      rw [hq] at h;rcases h with h | h <;> cases h
    · have h:phIn T.ph=true:=h
      rw [hq] at h;cases h
    · have h:endP T.ph=true:=h
      rw [hq] at h;cases h
  | loc1 i hi ho hq =>
    have hn:T.ph ≠ .none:=by rw [hq];intro h;cases h
    have h5:phIn T.ph=true:=by rw [hq];rfl
    have hP:=P.pos h5
    have hr:=hin i hi h5
    refine ⟨fun h=>?_,fun _=>P.lg hn,fun _=>?_,fun h=>?_,P.obs⟩
    · have h:T.ph = .ent1∨T.ph = .ent2:=h
      rw [hq] at h;rcases h with h | h <;> cases h
    · show Z80 T.seen ((T.pc + 1).toNat % 11 / 2) V
      rw [hpc]
      rcases Z3z hi with ⟨h,rfl⟩ | ⟨j,hj,h,rfl⟩ | ⟨j,hj,h,rfl⟩ | ⟨h,rfl⟩ | ⟨h,rfl⟩
      · omega
      · rcases ho with ho | ho <;> cases ho
      · rw [show (T.pc.toNat + 1) % 11 / 2=T.pc.toNat % 11 / 2 by omega];exact hP
      · rcases ho with ho | ho <;> cases ho
      · omega
    · have h:endP T.ph=true:=h
      rw [hq] at h;cases h
  | begin_ i hi ho hq=>exact ⟨fun _=>rfl,fun _=>rfl,fun h=>(by cases h),fun h=>(by cases h),P.obs⟩
  | clock hq =>
    have hn:T.ph ≠ .none:=by rw [hq];intro h;cases h
    exact ⟨fun _=>P.ent (.inl hq),fun _=>P.lg hn,fun h=>(by cases h),fun h=>(by cases h),P.obs⟩
  | active hq =>
    have hn:T.ph ≠ .none:=by rw [hq];intro h;cases h
    rw [hq] at hph
    obtain ⟨_,i,hi,h7⟩:=hW.bg hn
    rw [← hph.1] at hi
    refine ⟨fun h=>(by rcases h with h | h <;> cases h),fun _=>P.lg hn,fun _=>?_,fun h=>(by cases h),P.obs⟩
    show Z80 T.seen ((T.pc + 1).toNat % 11 / 2) V
    rw [hpc,P.ent (.inr hq)]
    have h0:T.pc.toNat % 11=0:=by
      rcases Z3z hi with ⟨h,rfl⟩ | ⟨j,hj,h,rfl⟩ | ⟨j,hj,h,rfl⟩ | ⟨h,rfl⟩ | ⟨h,rfl⟩ <;> first | exact h | cases h7
    rw [show (T.pc.toNat + 1) % 11 / 2=0 by omega]
    rfl
  | rlog i hi ho hq hg =>
    have hn:T.ph ≠ .none:=by rw [hq];intro h;cases h
    unfold Z44 at hg
    rw [P.lg hn] at hg
    simp at hg
  | r0ok i o hi ho hq hg hor h64 hv=>exact P.quiet rfl rfl rfl rfl (by rw [hq];rfl) (fun h=>by cases h) rfl
  | r0bad i o hi ho hq hg hor hbad=>exact P.quiet rfl rfl rfl rfl (by rw [hq];rfl) (fun _ h=>by cases h) rfl
  | r1 ad bf hq=>exact P.quiet rfl rfl rfl rfl (by rw [hq];rfl) (fun h=>by cases h) rfl
  | r2bad ad bf vl hq hbad=>exact P.quiet rfl rfl rfl rfl (by rw [hq];rfl) (fun _ h=>by cases h) rfl
  | r2ok ad bf vl i hi ho had hq hgot =>
    have hn:T.ph ≠ .none:=by rw [hq];intro h;cases h
    have hP:=P.pos (by rw [hq];rfl)
    have hvl:=hrd ad bf vl hq hgot
    refine ⟨fun h=>(by rcases h with h | h <;> cases h),fun _=>P.lg hn,fun _=>?_,fun h=>(by cases h),P.obs⟩
    show Z80 (T.seen++[⟨T.pc,1,vl⟩]) ((T.pc + 1).toNat % 11 / 2) V
    rw [hpc]
    rcases Z3z hi with ⟨h,rfl⟩ | ⟨j,hj,h,rfl⟩ | ⟨j,hj,h,rfl⟩ | ⟨h,rfl⟩ | ⟨h,rfl⟩
    · cases ho
    · have had:(j:Int)=ad:=had
      rw [show (T.pc.toNat + 1) % 11 / 2=j + 1 by omega]
      rw [show T.pc.toNat % 11 / 2=j by omega] at hP
      exact Zd2 hP (by rw [hvl,had])
    · cases ho
    · cases ho
    · cases ho
  | twrite i hi ho hq =>
    rcases Z3z hi with ⟨h,rfl⟩ | ⟨j,hj,h,rfl⟩ | ⟨j,hj,h,rfl⟩ | ⟨h,rfl⟩ | ⟨h,rfl⟩ <;> cases ho
  | cnone i hi ho hq hL =>
    have hn:T.ph ≠ .none:=by rw [hq];intro h;cases h
    have h9:T.pc.toNat % 11=9:=by
      rcases Z3z hi with ⟨h,rfl⟩ | ⟨j,hj,h,rfl⟩ | ⟨j,hj,h,rfl⟩ | ⟨h,rfl⟩ | ⟨h,rfl⟩ <;> first | exact h | cases ho
    exact ⟨fun h=>(by rcases h with h | h <;> cases h),fun _=>P.lg hn,fun _=>P.pos (by rw [hq];rfl),fun _ _=>h9,P.obs⟩
  | clock_ i hi ho hq hL=>exact absurd (P.lg (by rw [hq];intro h;cases h)) hL
  | lload sn o hq ho=>exact P.quiet rfl rfl rfl rfl (by rw [hq];rfl) (fun _ h=>⟨by rw [hq];rfl,h⟩) rfl
  | lmore sn o ac old2 hq ho ha hold hne=>exact P.quiet rfl rfl rfl rfl (by rw [hq];rfl) (fun _ h=>⟨by rw [hq];rfl,h⟩) rfl
  | llast sn o ac old2 hq ho ha hold hne=>exact P.quiet rfl rfl rfl rfl (by rw [hq];rfl) (fun _ h=>⟨by rw [hq];rfl,h⟩) rfl
  | ticket hq=>exact P.quiet rfl rfl rfl rfl (by rw [hq];rfl) (fun _ h=>⟨by rw [hq];rfl,h⟩) rfl
  | wait tk hq hw=>exact P
  | mine tk hq hw hS=>exact P.quiet rfl rfl rfl rfl (by rw [hq];rfl) (fun _ h=>⟨by rw [hq];rfl,h⟩) rfl
  | mine0 tk hq hw hS=>exact P.quiet rfl rfl rfl rfl (by rw [hq];rfl) (fun _ h=>⟨by rw [hq];rfl,h⟩) rfl
  | cmore tk z zs hq hv hzs=>exact P.quiet rfl rfl rfl rfl (by rw [hq];rfl) (fun _ h=>⟨by rw [hq];rfl,h⟩) rfl
  | clast tk z hq hv=>exact P.quiet rfl rfl rfl rfl (by rw [hq];rfl) (fun _ h=>⟨by rw [hq];rfl,h⟩) rfl
  | cbad0 tk z zs hq hv hL=>exact P.quiet rfl rfl rfl rfl (by rw [hq];rfl) (fun _ h=>by cases h) rfl
  | cbad1 tk z zs hq hv hL=>exact P.quiet rfl rfl rfl rfl (by rw [hq];rfl) (fun _ h=>by cases h) rfl
  | dnone tk hq hL=>exact P.quiet rfl rfl rfl rfl (by rw [hq];rfl) (fun _ h=>⟨by rw [hq];rfl,h⟩) rfl
  | dstore tk hq hL hk=>exact P.quiet rfl rfl rfl rfl (by rw [hq];rfl) (fun _ h=>⟨by rw [hq];rfl,h⟩) rfl
  | wmore tk ck k z v hq hz hv hk=>exact P.quiet rfl rfl rfl rfl (by rw [hq];rfl) (fun _ h=>⟨by rw [hq];rfl,h⟩) rfl
  | wlast tk ck k z v hq hz hv hk=>exact P.quiet rfl rfl rfl rfl (by rw [hq];rfl) (fun _ h=>⟨by rw [hq];rfl,h⟩) rfl
  | rmore tk ck k st z v hq hz hv hk=>exact P.quiet rfl rfl rfl rfl (by rw [hq];rfl) (fun _ h=>⟨by rw [hq];rfl,h⟩) rfl
  | rlast tk ck k st z v hq hz hv hk =>
    cases st with
    | true=>exact P.quiet rfl rfl rfl rfl (by rw [hq];rfl) (fun _ h=>⟨by rw [hq];rfl,h⟩) rfl
    | false=>exact P.quiet rfl rfl rfl rfl (by rw [hq];rfl) (fun _ h=>⟨by rw [hq];rfl,h⟩) rfl
  | stamp tk ck hq=>exact P.quiet rfl rfl rfl rfl (by rw [hq];rfl) (fun _ h=>⟨by rw [hq];rfl,h⟩) rfl
  | pass tk hq=>exact P.quiet rfl rfl rfl rfl (by rw [hq];rfl) (fun _ h=>⟨by rw [hq];rfl,h⟩) rfl
  | commit hq hcd =>
    have h9:=P.fin (by rw [hq];rfl) hcd
    have hP:=P.pos (by rw [hq];rfl)
    rw [h9] at hP
    refine ⟨fun h=>(by rcases h with h | h <;> cases h),fun h=>absurd rfl h,fun h=>(by cases h),fun h=>(by cases h),?_⟩
    show obsO (0,0) (T.obs++T.seen++[⟨T.begin_,3,1⟩])=_
    rw [List.append_assoc,Z39 P.obs,Z39 (Zgz hP (hV (by rw [hq];rfl)))]
    rfl
  | again i hq hcd hi hlt=>exact ⟨fun h=>(by rcases h with h | h <;> cases h),fun h=>absurd rfl h,fun h=>(by cases h),fun h=>(by cases h),P.obs⟩
  | gaveUp i hq hcd hi hlt =>
    refine ⟨fun h=>(by rcases h with h | h <;> cases h),fun h=>absurd rfl h,fun h=>(by cases h),fun h=>(by cases h),?_⟩
    show obsO (0,0) (T.obs++[⟨T.begin_,3,5⟩])=_
    rw [Z39 P.obs]
    rfl
end
def Z41:Ph→Bool
  | .wr _ _ k=>decide (k ≠ 0)
  | .rel _ _ _ st=>st
  | .stamp _ _=>true
  | _=>false
theorem Zdq {q:Ph} (h:Z41 q=true):wtr q=true:=by
  cases q with
  | wr a b k=>rfl
  | rel a b k st=>cases st <;> first | rfl | cases h
  | stamp a b=>rfl
  | _=>cases h
structure MonT where
  data:Int→Int
  writing:Bool
def upD (f:Int→Int) (i v:Int):Int→Int:=fun j=>if j=i then v else f j
def movT (m:MonT) (x:StR):MonT:=if x.phase=17 then ⟨upD m.data x.acc.index x.acc.put,true⟩ else if x.phase=19 then ⟨m.data,false⟩ else m
def monT (m:MonT) (x:StR):Option MonT :=
  if x.phase=17∧(x.acc.index < 0∨4≤x.acc.index) then none
  else if (movT m x).writing=false∧sum4 (movT m x).data ≠ 100 then none
  else some (movT m x)
def Z43:MonT→List StR→Option MonT
  | m,[]=>some m
  | m,x :: xs=>match monT m x with | none=>none | some m'=>Z43 m' xs
theorem Z58 {x:StR}:∀ {xs:List StR} {m m':MonT},Z43 m xs=some m'→Z43 m (xs++[x])=monT m' x
  | [],m,m',h=>by
    have:m=m':=Option.some.inj h
    subst this
    show (match monT m x with | none=>none | some m'=>some m')=_
    cases monT m x <;> rfl
  | y :: xs,m,m',h=>by
    show (match monT m y with | none=>none | some m'=>Z43 m' (xs++[x]))=_
    have h:(match monT m y with | none=>none | some m'=>Z43 m' xs)=some m':=h
    cases hy:monT m y with
    | none=>rw [hy] at h;cases h
    | some m2=>rw [hy] at h;exact Z58 h
def mon0T:MonT:=⟨fun j=>if j=0 then 10 else if j=1 then 20 else if j=2 then 30 else 40,false⟩
theorem Zal {f g:Int→Int} (h:∀ a,0≤a→a < 4→f a=g a):sum4 f=sum4 g:=by
  unfold sum4
  rw [h 0 (by decide) (by decide),h 1 (by decide) (by decide),h 2 (by decide) (by decide),h 3 (by decide) (by decide)]
theorem Zla {V0 V f:Int→Int} {m a b:Int} (ha:0≤a∧a < 4) (hb:0≤b∧b < 4) (e1:V a=V0 a) (e2:a=b∨V b=V0 b) (hf:∀ x,0≤x→x < 4→f x=if x=a∨x=b then mNew m a b V x else V0 x):sum4 f=sum4 V0:=by
  have h0:=hf 0 (by decide) (by decide)
  have h1:=hf 1 (by decide) (by decide)
  have h2:=hf 2 (by decide) (by decide)
  have h3:=hf 3 (by decide) (by decide)
  clear hf
  unfold sum4
  unfold mNew mSnd at h0 h1 h2 h3
  rcases (by omega:a=0∨a=1∨a=2∨a=3) with rfl | rfl | rfl | rfl <;> rcases (by omega:b=0∨b=1∨b=2∨b=3) with rfl | rfl | rfl | rfl <;> simp (decide:=true) at h0 h1 h2 h3 e2 <;> rw [h0,h1,h2,h3] <;> unfold u64 <;> omega
section
variable {c:Cfg} {p:List InsR} {n B:Nat} {T T':TS} {id:Int} {C C':Cells} {s:StR} {th:Nat→TS} {H:Hist} {V V':Int→Int}
theorem TStep.inn (hs:TStep c p id C T C' T' s) (h:phIn T'.ph=true):T'.rv=T.rv∧Z5z T.ph=true:=by
  cases hs with
  | loc0 i hi ho hq=>have h:phIn T.ph=true:=h;rw [hq] at h;cases h
  | loc1 i hi ho hq=>exact ⟨rfl,by rw [hq];rfl⟩
  | begin_ i hi ho hq=>cases h
  | clock hq=>cases h
  | active hq=>exact ⟨rfl,by rw [hq];rfl⟩
  | rlog i hi ho hq=>exact ⟨rfl,by rw [hq];rfl⟩
  | r0ok i o hi ho hq=>exact ⟨rfl,by rw [hq];rfl⟩
  | r0bad i o hi ho hq=>exact ⟨rfl,by rw [hq];rfl⟩
  | r1 ad bf hq=>exact ⟨rfl,by rw [hq];rfl⟩
  | r2bad ad bf vl hq=>exact ⟨rfl,by rw [hq];rfl⟩
  | r2ok ad bf vl i hi ho had hq=>exact ⟨rfl,by rw [hq];rfl⟩
  | twrite i hi ho hq=>exact ⟨rfl,by rw [hq];rfl⟩
  | cnone i hi ho hq=>exact ⟨rfl,by rw [hq];rfl⟩
  | clock_ i hi ho hq=>exact ⟨rfl,by rw [hq];rfl⟩
  | lload sn o hq=>exact ⟨rfl,by rw [hq];rfl⟩
  | lmore sn o a old2 hq=>exact ⟨rfl,by rw [hq];rfl⟩
  | llast sn o a old2 hq=>exact ⟨rfl,by rw [hq];rfl⟩
  | ticket hq=>exact ⟨rfl,by rw [hq];rfl⟩
  | wait tk hq=>exact ⟨rfl,by rw [hq];rfl⟩
  | mine tk hq=>exact ⟨rfl,by rw [hq];rfl⟩
  | mine0 tk hq=>exact ⟨rfl,by rw [hq];rfl⟩
  | cmore tk z zs hq=>exact ⟨rfl,by rw [hq];rfl⟩
  | clast tk z hq=>exact ⟨rfl,by rw [hq];rfl⟩
  | cbad0 tk z zs hq=>exact ⟨rfl,by rw [hq];rfl⟩
  | cbad1 tk z zs hq=>exact ⟨rfl,by rw [hq];rfl⟩
  | dnone tk hq=>exact ⟨rfl,by rw [hq];rfl⟩
  | dstore tk hq=>exact ⟨rfl,by rw [hq];rfl⟩
  | wmore tk ck k z v hq=>exact ⟨rfl,by rw [hq];rfl⟩
  | wlast tk ck k z v hq=>exact ⟨rfl,by rw [hq];rfl⟩
  | rmore tk ck k st z v hq=>exact ⟨rfl,by rw [hq];rfl⟩
  | rlast tk ck k st z v hq=>exact ⟨rfl,by rw [hq];rfl⟩
  | stamp tk ck hq=>exact ⟨rfl,by rw [hq];rfl⟩
  | pass tk hq=>exact ⟨rfl,by rw [hq];rfl⟩
  | commit hq=>cases h
  | again i hq=>cases h
  | gaveUp i hq=>cases h
theorem TStep.wcase (hs:TStep c p id C T C' T' s) (H:Hist):(∃ tk,T.ph = .dec tk∧T.L.addrs ≠ []∧wtr T'.ph=true∧C'=C∧Z0r C T.L T.ph T'.ph H=Z4b H (valC C 3 0) T.L)∨((wtr T'.ph=true→wtr T.ph=true)∧Z0r C T.L T.ph T'.ph H=H):=by
  cases hs with
  | dstore tk hq hL hk=>exact .inl ⟨tk,hq,hL,rfl,rfl,by rw [hq];rfl⟩
  | loc0 i hi ho hq=>exact .inr ⟨fun h=>h,by rw [hq];rfl⟩
  | loc1 i hi ho hq=>exact .inr ⟨fun h=>h,by rw [hq];rfl⟩
  | begin_ i hi ho hq=>exact .inr ⟨fun h=>(by cases h),by rw [hq];rfl⟩
  | clock hq=>exact .inr ⟨fun h=>(by cases h),by rw [hq];rfl⟩
  | active hq=>exact .inr ⟨fun h=>(by cases h),by rw [hq];rfl⟩
  | rlog i hi ho hq=>exact .inr ⟨fun h=>(by cases h),by rw [hq];rfl⟩
  | r0ok i o hi ho hq=>exact .inr ⟨fun h=>(by cases h),by rw [hq];rfl⟩
  | r0bad i o hi ho hq=>exact .inr ⟨fun h=>(by cases h),by rw [hq];rfl⟩
  | r1 ad bf hq=>exact .inr ⟨fun h=>(by cases h),by rw [hq];rfl⟩
  | r2bad ad bf vl hq=>exact .inr ⟨fun h=>(by cases h),by rw [hq];rfl⟩
  | r2ok ad bf vl i hi ho had hq=>exact .inr ⟨fun h=>(by cases h),by rw [hq];rfl⟩
  | twrite i hi ho hq=>exact .inr ⟨fun h=>h,by rw [hq];rfl⟩
  | cnone i hi ho hq=>exact .inr ⟨fun h=>(by cases h),by rw [hq];rfl⟩
  | clock_ i hi ho hq=>exact .inr ⟨fun h=>(by cases h),by rw [hq];rfl⟩
  | lload sn o hq=>exact .inr ⟨fun h=>(by cases h),by rw [hq];rfl⟩
  | lmore sn o a old2 hq=>exact .inr ⟨fun h=>(by cases h),by rw [hq];rfl⟩
  | llast sn o a old2 hq=>exact .inr ⟨fun h=>(by cases h),by rw [hq];rfl⟩
  | ticket hq=>exact .inr ⟨fun h=>(by cases h),by rw [hq];rfl⟩
  | wait tk hq=>exact .inr ⟨fun h=>h,by rw [hq];rfl⟩
  | mine tk hq=>exact .inr ⟨fun h=>(by cases h),by rw [hq];rfl⟩
  | mine0 tk hq=>exact .inr ⟨fun h=>(by cases h),by rw [hq];rfl⟩
  | cmore tk z zs hq=>exact .inr ⟨fun h=>(by cases h),by rw [hq];rfl⟩
  | clast tk z hq=>exact .inr ⟨fun h=>(by cases h),by rw [hq];rfl⟩
  | cbad0 tk z zs hq=>exact .inr ⟨fun h=>(by cases h),by rw [hq];rfl⟩
  | cbad1 tk z zs hq=>exact .inr ⟨fun h=>(by cases h),by rw [hq];rfl⟩
  | dnone tk hq=>exact .inr ⟨fun h=>(by cases h),by rw [hq];rfl⟩
  | wmore tk ck k z v hq=>exact .inr ⟨fun h=>by rw [hq];rfl,by rw [hq];rfl⟩
  | wlast tk ck k z v hq=>exact .inr ⟨fun h=>by rw [hq];rfl,by rw [hq];rfl⟩
  | rmore tk ck k st z v hq=>cases st <;> exact .inr ⟨fun h=>by rw [hq];exact h,by rw [hq];rfl⟩
  | rlast tk ck k st z v hq =>
    cases st with
    | true=>exact .inr ⟨fun h=>by rw [hq];rfl,by rw [hq];rfl⟩
    | false=>exact .inr ⟨fun h=>(by cases h),by rw [hq];rfl⟩
  | stamp tk ck hq=>exact .inr ⟨fun h=>(by cases h),by rw [hq];rfl⟩
  | pass tk hq=>exact .inr ⟨fun h=>(by cases h),by rw [hq];rfl⟩
  | commit hq=>exact .inr ⟨fun h=>(by cases h),by rw [hq];rfl⟩
  | again i hq=>exact .inr ⟨fun h=>(by cases h),by rw [hq];rfl⟩
  | gaveUp i hq=>exact .inr ⟨fun h=>(by cases h),by rw [hq];rfl⟩
inductive WEff (C:Cells) (T:TS) (C':Cells) (T':TS) (s:StR):Prop
  | write (tk ck:Int) (k:Nat) (z v:Int):s.phase=17→T.ph = .wr tk ck k→z ∈ T.L.addrs→C'=opC C 1 z v true→s.acc=stA2 C 1 z v→Z41 T'.ph=true→WEff C T C' T' s
  | stamp (tk ck:Int):s.phase=19→T.ph = .stamp tk ck→(∀ a,valC C' 1 a=valC C 1 a)→Z41 T'.ph=false→WEff C T C' T' s
  | other:s.phase ≠ 17→s.phase ≠ 19→(∀ a,valC C' 1 a=valC C 1 a)→Z41 T'.ph=Z41 T.ph→WEff C T C' T' s
theorem TStep.weff (hs:TStep c p id C T C' T' s):WEff C T C' T' s:=by
  have k1:∀ (k i v:Int) (d:Bool),k ≠ 1→∀ a,valC (opC C k i v d) 1 a=valC C 1 a:=fun k i v d h a=>Z1g h
  have n17:∀ x:Int,x ≠ 17→x ≠ 17:=fun _ h=>h
  cases hs with
  | wmore tk ck k z v hq hz hv hk=>exact .write tk ck k z v rfl hq (List.mem_of_getElem? hz) rfl rfl (show decide (k + 1 ≠ 0)=true from decide_eq_true (by omega))
  | wlast tk ck k z v hq hz hv hk=>exact .write tk ck k z v rfl hq (List.mem_of_getElem? hz) rfl rfl rfl
  | stamp tk ck hq=>exact .stamp tk ck rfl hq (k1 _ _ _ _ (by decide)) rfl
  | loc0 i hi ho hq=>exact .other (show (0:Int) ≠ 17 by decide) (show (0:Int) ≠ 19 by decide) (fun _=>rfl) rfl
  | loc1 i hi ho hq=>exact .other (show (0:Int) ≠ 17 by decide) (show (0:Int) ≠ 19 by decide) (fun _=>rfl) rfl
  | begin_ i hi ho hq=>exact .other (show (2:Int) ≠ 17 by decide) (show (2:Int) ≠ 19 by decide) (k1 _ _ _ _ (by decide)) (by rw [hq];rfl)
  | clock hq=>exact .other (show (3:Int) ≠ 17 by decide) (show (3:Int) ≠ 19 by decide) (fun _=>rfl) (by rw [hq];rfl)
  | active hq=>exact .other (show (4:Int) ≠ 17 by decide) (show (4:Int) ≠ 19 by decide) (k1 _ _ _ _ (by decide)) (by rw [hq];rfl)
  | rlog i hi ho hq=>exact .other (show (0:Int) ≠ 17 by decide) (show (0:Int) ≠ 19 by decide) (fun _=>rfl) (by rw [hq];rfl)
  | r0ok i o hi ho hq=>exact .other (show (5:Int) ≠ 17 by decide) (show (5:Int) ≠ 19 by decide) (fun _=>rfl) (by rw [hq];rfl)
  | r0bad i o hi ho hq=>exact .other (show (5:Int) ≠ 17 by decide) (show (5:Int) ≠ 19 by decide) (fun _=>rfl) (by rw [hq];rfl)
  | r1 ad bf hq=>exact .other (show (6:Int) ≠ 17 by decide) (show (6:Int) ≠ 19 by decide) (fun _=>rfl) (by rw [hq];rfl)
  | r2bad ad bf vl hq=>exact .other (show (7:Int) ≠ 17 by decide) (show (7:Int) ≠ 19 by decide) (fun _=>rfl) (by rw [hq];rfl)
  | r2ok ad bf vl i hi ho had hq=>exact .other (show (7:Int) ≠ 17 by decide) (show (7:Int) ≠ 19 by decide) (fun _=>rfl) (by rw [hq];rfl)
  | twrite i hi ho hq=>exact .other (show (0:Int) ≠ 17 by decide) (show (0:Int) ≠ 19 by decide) (fun _=>rfl) rfl
  | cnone i hi ho hq=>exact .other (show (0:Int) ≠ 17 by decide) (show (0:Int) ≠ 19 by decide) (fun _=>rfl) (by rw [hq];rfl)
  | clock_ i hi ho hq=>exact .other (show (0:Int) ≠ 17 by decide) (show (0:Int) ≠ 19 by decide) (fun _=>rfl) (by rw [hq];rfl)
  | lload sn o hq=>exact .other (show (11:Int) ≠ 17 by decide) (show (11:Int) ≠ 19 by decide) (fun _=>rfl) (by rw [hq];rfl)
  | lmore sn o a old2 hq=>exact .other (show (12:Int) ≠ 17 by decide) (show (12:Int) ≠ 19 by decide) (k1 _ _ _ _ (by decide)) (by rw [hq];rfl)
  | llast sn o a old2 hq=>exact .other (show (12:Int) ≠ 17 by decide) (show (12:Int) ≠ 19 by decide) (k1 _ _ _ _ (by decide)) (by rw [hq];rfl)
  | ticket hq=>exact .other (show (13:Int) ≠ 17 by decide) (show (13:Int) ≠ 19 by decide) (k1 _ _ _ _ (by decide)) (by rw [hq];rfl)
  | wait tk hq=>exact .other (show (14:Int) ≠ 17 by decide) (show (14:Int) ≠ 19 by decide) (fun _=>rfl) rfl
  | mine tk hq=>exact .other (show (14:Int) ≠ 17 by decide) (show (14:Int) ≠ 19 by decide) (fun _=>rfl) (by rw [hq];rfl)
  | mine0 tk hq=>exact .other (show (14:Int) ≠ 17 by decide) (show (14:Int) ≠ 19 by decide) (fun _=>rfl) (by rw [hq];rfl)
  | cmore tk z zs hq=>exact .other (show (15:Int) ≠ 17 by decide) (show (15:Int) ≠ 19 by decide) (fun _=>rfl) (by rw [hq];rfl)
  | clast tk z hq=>exact .other (show (15:Int) ≠ 17 by decide) (show (15:Int) ≠ 19 by decide) (fun _=>rfl) (by rw [hq];rfl)
  | cbad0 tk z zs hq=>exact .other (show (15:Int) ≠ 17 by decide) (show (15:Int) ≠ 19 by decide) (fun _=>rfl) (by rw [hq];rfl)
  | cbad1 tk z zs hq=>exact .other (show (15:Int) ≠ 17 by decide) (show (15:Int) ≠ 19 by decide) (fun _=>rfl) (by rw [hq];rfl)
  | dnone tk hq=>exact .other (show (16:Int) ≠ 17 by decide) (show (16:Int) ≠ 19 by decide) (fun _=>rfl) (by rw [hq];rfl)
  | dstore tk hq=>exact .other (show (16:Int) ≠ 17 by decide) (show (16:Int) ≠ 19 by decide) (fun _=>rfl) (by rw [hq];rfl)
  | rmore tk ck k st z v hq=>exact .other (show (18:Int) ≠ 17 by decide) (show (18:Int) ≠ 19 by decide) (k1 _ _ _ _ (by decide)) (by rw [hq];rfl)
  | rlast tk ck k st z v hq=>exact .other (show (18:Int) ≠ 17 by decide) (show (18:Int) ≠ 19 by decide) (k1 _ _ _ _ (by decide)) (by rw [hq];cases st <;> rfl)
  | pass tk hq=>exact .other (show (20:Int) ≠ 17 by decide) (show (20:Int) ≠ 19 by decide) (k1 _ _ _ _ (by decide)) (by rw [hq];rfl)
  | commit hq=>exact .other (show (24:Int) ≠ 17 by decide) (show (24:Int) ≠ 19 by decide) (k1 _ _ _ _ (by decide)) (by rw [hq];rfl)
  | again i hq=>exact .other (show (24:Int) ≠ 17 by decide) (show (24:Int) ≠ 19 by decide) (k1 _ _ _ _ (by decide)) (by rw [hq];rfl)
  | gaveUp i hq=>exact .other (show (24:Int) ≠ 17 by decide) (show (24:Int) ≠ 19 by decide) (k1 _ _ _ _ (by decide)) (by rw [hq];rfl)
end
structure TPar where
  m:Nat→Int
  a:Nat→Int
  b:Nat→Int
structure TParOk (P:TPar):Prop where
  m:∀ i,i < 2→0≤P.m i∧P.m i≤1000
  a:∀ i,i < 2→0≤P.a i∧P.a i < 4
  b:∀ i,i < 2→0≤P.b i∧P.b i < 4
def Z42 (P:TPar) (i:Nat):List InsR:=if i < 2 then Z15 (P.m i) (P.a i) (P.b i) else aProg
structure IT (c:Cfg) (P:TPar) (M:MS) (H:Hist) (m:MonT):Prop where
  gen:Gen c 3 (Z42 P) M H
  pm:∀ i,i < 2→PM (P.m i) (P.a i) (P.b i) (H (M.th i).rv) (M.th i)
  pa:PA (H (M.th 2).rv) (M.th 2)
  sum:∀ u,0≤u→u≤valC M.C 3 0→sum4 (H u)=100
  nxt:∀ i,i < 3→wtr (M.th i).ph=true→sum4 (H (valC M.C 3 0 + 1))=100
  dat:∀ a,0≤a→a < 4→m.data a=valC M.C 1 a
  wri:m.writing=true ↔ ∃ i,i < 3∧Z41 (M.th i).ph=true
  run:Z43 mon0T M.steps=some m
section
variable {c:Cfg} {P:TPar} {M:MS} {H:Hist} {m:MonT} {C':Cells} {T':TS} {s:StR} {i:Nat}
theorem Zhr {ps:Nat→List InsR} (G:Gen c 3 ps M H) (hcw:c.words=4) (hsum:∀ u,0≤u→u≤valC M.C 3 0→sum4 (H u)=100) (hw:∀ i,i < 3→Z41 (M.th i).ph=false):sum4 (valC M.C 1)=100:=by
  rw [← hsum _ G.tl.clk0 (Int.le_refl _)]
  refine Zal fun a h0 h1=>?_
  by_cases h:∃ i,i < 3∧wtr (M.th i).ph=true
  · obtain ⟨i,hi,h⟩:=h
    have h2:=G.tl.dat i hi h a h0 (by omega)
    have h3:=hw i hi
    rw [h2,if_neg]
    cases hq:(M.th i).ph with
    | wr tk ck k =>
      rw [hq] at h3
      have h4:k=0:=by
        have:=of_decide_eq_false h3
        omega
      subst h4
      show ¬ a ∈ _
      simp
    | rel tk ck k st =>
      rw [hq] at h3 h
      have h3:st=false:=h3
      subst h3;cases h
    | stamp tk ck=>rw [hq] at h3;cases h3
    | _=>rw [hq] at h;cases h
  · refine G.tl.dno (fun i hi=>?_) a h0 (by omega)
    cases hq:wtr (M.th i).ph with
    | false=>rfl
    | true=>exact absurd ⟨i,hi,hq⟩ h
theorem Zar {q:Ph} (h:phIn q=true):Z5z q=true:=by cases q <;> first | rfl | cases h
theorem IT.step (I:IT c P M H m) (E:Env c 3 (Z42 P)) (hP:TParOk P) (hcw:c.words=4) (hwr:4≤Z1s c.writes) (hi:i < 3) (hB:M.steps.length≤1000) (hs:TStep c (Z42 P i) i M.C (M.th i) C' T' s):∃ H' m',IT c P (M.next i C' T' s) H' m':=by
  have G:=I.gen
  have G':=I.gen.step E hi hB hs
  have hrd:∀ ad bf vl,(M.th i).ph = .rd2 ad bf vl→(ldA M.C 2 (ad % c.orecs)).got=bf→vl=H (M.th i).rv ad:=fun ad bf vl hq hg=>G.read E hi hq hg
  have hH:∀ u,u≤valC M.C 3 0→Z0r M.C (M.th i).L (M.th i).ph T'.ph H u=H u:=fun u h=>Zce h
  have mov:∀ j,j < 3→(∀ Q:(Int→Int)→TS→Prop,(∀ V V' T,Q V T→phIn T.ph=false→Q V' T)→Q (H (M.th j).rv) (updT M.th i T' j)→Q (Z0r M.C (M.th i).L (M.th i).ph T'.ph H (updT M.th i T' j).rv) (updT M.th i T' j)):=by
    intro j hj Q hany h
    cases hin:phIn (updT M.th i T' j).ph with
    | false=>exact hany _ _ _ h hin
    | true =>
      by_cases hji:j=i
      · subst hji
        rw [Z0b] at hin h ⊢
        obtain ⟨e,hr⟩:=hs.inn hin
        rw [e,hH _ (G.tl.rvs j hj hr).2]
        exact h
      · rw [Z0f hji] at hin h ⊢
        rw [hH _ (G.tl.rvs j hj (Zar hin)).2]
        exact h
  have hpm:∀ j,j < 2→PM (P.m j) (P.a j) (P.b j) (Z0r M.C (M.th i).L (M.th i).ph T'.ph H ((M.next i C' T' s).th j).rv) ((M.next i C' T' s).th j):=by
    intro j hj
    refine mov j (by omega) (fun V T=>PM (P.m j) (P.a j) (P.b j) V T) (fun V V' T h h2=>h.any h2) ?_
    by_cases hji:j=i
    · subst hji
      rw [Z0b]
      have e:Z42 P j=Z15 (P.m j) (P.a j) (P.b j):=if_pos hj
      rw [e] at hs
      have hW:=G.wf j hi
      rw [e] at hW
      have hm:=hP.m j hj
      exact (I.pm j hj).step hwr (hP.a j hj).1 (hP.b j hj).1 (Int.emod_eq_of_lt hm.1 (by omega)) hW hrd hs
    · rw [Z0f hji];exact I.pm j hj
  have hpa:PA (Z0r M.C (M.th i).L (M.th i).ph T'.ph H ((M.next i C' T' s).th 2).rv) ((M.next i C' T' s).th 2):=by
    refine mov 2 (by omega) PA (fun V V' T h h2=>h.any h2) ?_
    by_cases hji:2=i
    · subst hji
      rw [Z0b]
      have e:Z42 P 2=aProg:=rfl
      rw [e] at hs
      have hW:=G.wf 2 hi
      rw [e] at hW
      exact I.pa.step hW (fun h=>I.sum _ (G.tl.rvs 2 hi (Zar h)).1 (G.tl.rvs 2 hi (Zar h)).2) hrd hs
    · rw [Z0f hji];exact I.pa
  have hone:∀ j,j < 3→wtr ((M.next i C' T' s).th j).ph=true→Z1n (M.th i).ph=true→j=i:=by
    intro j hj h h2
    by_cases hji:j=i
    · exact hji
    · have h:wtr (updT M.th i T' j).ph=true:=h
      rw [Z0f hji] at h
      exact G.tk.one hj hi (Z3t h) h2
  have hsum:∀ u,0≤u→u≤valC (M.next i C' T' s).C 3 0→sum4 (Z0r M.C (M.th i).L (M.th i).ph T'.ph H u)=100:=by
    intro u h0 h1
    replace h1:u≤valC C' 3 0:=h1
    by_cases hst:∃ tk ck,(M.th i).ph = .stamp tk ck
    · obtain ⟨tk,ck,hq⟩:=hst
      obtain ⟨rfl,rfl⟩:=hs.of_stamp hq
      rw [show Z0r M.C (M.th i).L (M.th i).ph _ H=H by rw [hq];rfl]
      have hck:=G.tl.ckk i hi ck (by rw [hq];rfl)
      rw [Z0q G.shp.h3,hck] at h1
      rcases Int.lt_or_le (valC M.C 3 0) u with h2 | h2
      · rw [show u=valC M.C 3 0 + 1 by omega]
        exact I.nxt i hi (by rw [hq];rfl)
      · exact I.sum u h0 h2
    · have hc:=hs.clk_same (fun tk ck h=>hst ⟨tk,ck,h⟩)
      rw [hc] at h1
      rw [Zce h1]
      exact I.sum u h0 h1
  have hnxt : ∀ j,j < 3→wtr ((M.next i C' T' s).th j).ph=true→sum4 (Z0r M.C (M.th i).L (M.th i).ph T'.ph H (valC (M.next i C' T' s).C 3 0 + 1))=100:=by
    intro j hj hw
    show sum4 (Z0r M.C (M.th i).L (M.th i).ph T'.ph H (valC C' 3 0 + 1))=100
    by_cases hst:∃ tk ck,(M.th i).ph = .stamp tk ck
    · obtain ⟨tk,ck,hq⟩:=hst
      obtain ⟨rfl,rfl⟩:=hs.of_stamp hq
      have hji:=hone j hj hw (by rw [hq];rfl)
      subst hji
      have hw:wtr (updT M.th j _ j).ph=true:=hw
      rw [Z0b] at hw;cases hw
    · have hc:=hs.clk_same (fun tk ck h=>hst ⟨tk,ck,h⟩)
      rw [hc]
      rcases hs.wcase H with ⟨tk,hq,hL,_,_,e⟩ | ⟨hw2,e⟩
      · rw [e]
        have hdec:=G.tl.dec i hi tk hq
        by_cases hi2:i < 2
        · have hPM:=I.pm i hi2
          have h8:=hPM.fin (by rw [hq];rfl)
          obtain ⟨hm,hv,ha,hb⟩:=(hPM.pos (by rw [hq];rfl) (by rw [hq];intro h;cases h)).2.2.2.2.2.2 h8
          rw [← I.sum _ G.tl.clk0 (Int.le_refl _)]
          refine Zla (V:=H (M.th i).rv) (m:=P.m i) (a:=P.a i) (b:=P.b i) (hP.a i hi2) (hP.b i hi2) (hdec _ ha) (hb.imp id (hdec _)) fun x h0 h1=>?_
          rw [Z9k]
          by_cases hx:x=P.a i∨x=P.b i
          · rw [if_pos ((hm x).2 hx),if_pos hx]
            exact hv x ((hm x).2 hx)
          · rw [if_neg (fun h=>hx ((hm x).1 h)),if_neg hx]
        · have:i=2:=by omega
          subst this
          exact absurd (I.pa.lg (by rw [hq];intro h;cases h)) hL
      · rw [e]
        refine I.nxt j hj ?_
        by_cases hji:j=i
        · subst hji
          have hw:wtr (updT M.th j T' j).ph=true:=hw
          rw [Z0b] at hw;exact hw2 hw
        · have hw:wtr (updT M.th i T' j).ph=true:=hw
          rw [Z0f hji] at hw;exact hw
  have hcalm:(∀ j,j < 3→Z41 ((M.next i C' T' s).th j).ph=false)→sum4 (valC C' 1)=100:=Zhr G' hcw hsum
  have hdat:∀ a,0≤a→a < 4→(movT m s).data a=valC C' 1 a:=by
    intro a h0 h1
    cases hs.weff with
    | write tk ck k z v hp hq hz hC ha _ =>
      have hzr:=(G.wf i hi).adr z hz
      subst hC
      unfold movT
      rw [if_pos hp,ha]
      show (if a=(stA2 M.C 1 z v).index then (stA2 M.C 1 z v).put else m.data a)=_
      rw [show (stA2 M.C 1 z v).index=z from Z9o (G.shp.h1 hzr.1 hzr.2) 2,show (stA2 M.C 1 z v).put=v from Zjp (G.shp.h1 hzr.1 hzr.2) 2]
      by_cases haz:a=z
      · subst haz
        rw [if_pos rfl,Z0q (G.shp.h1 hzr.1 hzr.2)]
      · rw [if_neg haz,Z11 hzr.1 h0 (Ne.symm haz)]
        exact I.dat a h0 h1
    | stamp tk ck hp hq hC _ =>
      unfold movT
      rw [if_neg (by rw [hp];decide),if_pos hp,hC]
      exact I.dat a h0 h1
    | other h17 h19 hC _ =>
      unfold movT
      rw [if_neg h17,if_neg h19,hC]
      exact I.dat a h0 h1
  have hwri:(movT m s).writing=true ↔ ∃ j,j < 3∧Z41 ((M.next i C' T' s).th j).ph=true:=by
    cases hs.weff with
    | write tk ck k z v hp hq hz hC ha hw =>
      unfold movT
      rw [if_pos hp]
      exact ⟨fun _=>⟨i,hi,by show Z41 (updT M.th i T' i).ph=true;rw [Z0b];exact hw⟩,fun _=>rfl⟩
    | stamp tk ck hp hq hC hw =>
      unfold movT
      rw [if_neg (by rw [hp];decide),if_pos hp]
      refine ⟨fun h=>(by cases h),?_⟩
      rintro ⟨j,hj,h⟩
      have hji:=hone j hj (Zdq h) (by rw [hq];rfl)
      subst hji
      have h:Z41 (updT M.th j T' j).ph=true:=h
      rw [Z0b,hw] at h;cases h
    | other h17 h19 hC hw =>
      unfold movT
      rw [if_neg h17,if_neg h19,I.wri]
      have key:∀ j,Z41 ((M.next i C' T' s).th j).ph=Z41 (M.th j).ph:=fun j=>Z0g (P:=fun T=>Z41 T.ph=Z41 (M.th j).ph) (fun h=>by subst h;exact hw) (fun _=>rfl)
      exact ⟨fun ⟨j,hj,h⟩=>⟨j,hj,by rw [key];exact h⟩,fun ⟨j,hj,h⟩=>⟨j,hj,by rw [← key];exact h⟩⟩
  refine ⟨_,movT m s,G',hpm,hpa,hsum,hnxt,hdat,hwri,?_⟩
  show Z43 mon0T (M.steps++[s])=some (movT m s)
  rw [Z58 I.run]
  unfold monT
  rw [if_neg,if_neg]
  · rintro ⟨hf,hne⟩
    refine hne ((Zal hdat).trans (hcalm fun j hj=>?_))
    cases hw:Z41 ((M.next i C' T' s).th j).ph with
    | false=>rfl
    | true =>
      have:=hwri.2 ⟨j,hj,hw⟩
      rw [hf] at this;cases this
  · rintro ⟨h17,h⟩
    cases hs.weff with
    | write tk ck k z v hp hq hz hC ha _ =>
      have hzr:=(G.wf i hi).adr z hz
      rw [ha,show (stA2 M.C 1 z v).index=z from Z9o (G.shp.h1 hzr.1 hzr.2) 2] at h
      omega
    | stamp tk ck hp hq hC _=>rw [hp] at h17;cases h17
    | other h17' h19 hC _=>exact h17' h17
end
end Go.Proofs.YtmlfangeanmmeaaGreatDoor
