/-
  What the proof of TopTransfers leans on, part 33 of 48: Wf. No statement of its own.
-/
import Derived.Test.YtmlfangeanmmeaaGreatDoorTm27
namespace Go.Proofs.YtmlfangeanmmeaaGreatDoor
set_option maxRecDepth 8000
open Go
set_option linter.unusedVariables false
def Z1b (p:List InsR) (op:Int):Nat→Nat
  | 0=>0
  | k + 1=>match p[k]? with | some i=>if i.op=7 then 0 else (if i.op=op then 1 else 0) + Z1b p op k | none=>Z1b p op k
theorem Zd1 {p:List InsR} {op:Int} {k:Nat} {i:InsR} (h:p[k]?=some i):Z1b p op (k + 1)=if i.op=7 then 0 else (if i.op=op then 1 else 0) + Z1b p op k:=by
  show (match p[k]? with | some i=>if i.op=7 then 0 else (if i.op=op then 1 else 0) + Z1b p op k | none=>Z1b p op k)=_
  rw [h]
structure CapOk (c:Cfg) (p:List InsR):Prop where
  rd:∀ (k:Nat) i,p[k]?=some i→i.op=10→Z1b p 10 k < Z08 c.reads
  wr:∀ (k:Nat) i,p[k]?=some i→i.op=11→Z1b p 11 k < Z1s c.writes
structure CfgP (c:Cfg):Prop where
  ok:Z0p c=0
  words:1≤c.words∧c.words≤64
  orecs:1≤c.orecs∧c.orecs≤64
def phIn:Ph→Bool
  | .none | .ent1 | .ent2=>false
  | _=>true
def phOk (c:Cfg) (p:List InsR) (T:TS):Ph→Prop
  | .none=>True
  | .ent1 | .ent2=>T.pc=T.begin_∧T.S=[]∧T.L.addrs=[]∧T.old=[]
  | .idle=>T.old=[]
  | .rd1 ad _ | .rd2 ad _ _=>T.old=[]∧ad ∉ T.L.addrs∧∃ i,p[T.pc.toNat]?=some i∧i.op=10∧i.imm=ad
  | .lk _ _=>T.code=1∧T.old.length < (osT c T).length
  | .take | .wait _ | .dec _=>T.code=1∧T.old.length=(osT c T).length
  | .chk _ zs=>T.code=1∧T.old.length=(osT c T).length∧zs ≠ []∧∀ z ∈ zs,z ∈ T.S
  | .wr _ _ k=>T.code=1∧T.old.length=(osT c T).length∧k < T.L.addrs.length
  | .rel _ _ k st=>T.code=(if st then 1 else 9)∧T.old.length=(osT c T).length∧k < (osT c T).length
  | .stamp _ _=>T.code=1∧T.L.addrs ≠ []
  | .pass _=>T.code=1∨T.code=9
  | .leave=>T.code=1∨T.code=9
structure WF (c:Cfg) (p:List InsR) (B:Nat) (T:TS):Prop where
  pc0:0≤T.pc
  pcl:T.pc.toNat≤p.length
  plc:inT p T.pc.toNat=phIn T.ph
  inv:Inv T.L
  adr:∀ a ∈ T.L.addrs,0≤a∧a < c.words
  r0:T.regs 0=0∧T.saved 0=0
  bg:T.ph ≠ .none→0≤T.begin_∧∃ i,p[T.begin_.toNat]?=some i∧i.op=7
  cap:T.ph ≠ .none→T.L.cap=Z1s c.writes
  lenS:T.ph ≠ .none→phIn T.ph=true→T.S.length≤Z1b p 10 T.pc.toNat
  lenL:T.ph ≠ .none→phIn T.ph=true→T.L.addrs.length≤Z1b p 11 T.pc.toNat
  Srng:∀ z ∈ T.S,0≤z∧z < c.orecs
  sn:∀ a ∈ T.sn,0≤a∧a < c.words∧a % c.orecs ∈ T.S
  Scap:T.S.length≤Z08 c.reads
  snl:T.sn.length≤B
  cnt:0≤T.count∧T.count≤B∧0≤T.tries∧T.tries≤B
  seenl:T.seen.length≤B∧T.obs.length≤B∧(T.ph ≠ .none→T.obs.length + T.seen.length≤B)
  phs:phOk c p T T.ph
theorem WF.start {c:Cfg} {p:List InsR} {B:Nat}:WF c p B startT where
  pc0:=Int.le_refl 0
  pcl:=Nat.zero_le _
  plc:=rfl
  inv:=Z9y (by decide) (by decide) (by decide)
  adr:=fun a h=>by cases h
  r0:=⟨rfl,rfl⟩
  bg:=fun h=>absurd rfl h
  cap:=fun h=>absurd rfl h
  lenS:=fun h=>absurd rfl h
  lenL:=fun h=>absurd rfl h
  Srng:=fun a h=>by cases h
  sn:=fun a h=>by cases h
  Scap:=Nat.zero_le _
  snl:=Nat.zero_le _
  cnt:=⟨Int.le_refl 0,Int.natCast_nonneg _,Int.le_refl 0,Int.natCast_nonneg _⟩
  seenl:=⟨Nat.zero_le _,Nat.zero_le _,fun h=>absurd rfl h⟩
  phs:=trivial
theorem WF.mono {c:Cfg} {p:List InsR} {B B':Nat} {T:TS} (h:WF c p B T) (hB:B≤B'):WF c p B' T :=
  { h with
    snl:=by have:=h.snl;omega
    cnt:=by have:=h.cnt;omega
    seenl:=by
      refine ⟨by have:=h.seenl;omega,by have:=h.seenl;omega,fun hn=>?_⟩
      have:=h.seenl.2.2 hn
      omega }
theorem getElem?_lt {α:Type} {p:List α} {k:Nat} {i:α} (h:p[k]?=some i):k < p.length:=(List.getElem?_eq_some_iff.1 h).1
theorem Z69 {r:Nat→Int} {k:Nat} {v:Int} (h:k ≠ 0) (h0:r 0=0):upR r k v 0=0:=by unfold upR;rw [if_neg (by omega)];exact h0
theorem Z9r {c:Cfg} {b:Bool} {i:InsR} {r:Nat→Int} (hi:Z76 c b i) (h:i.op=1∨i.op=3) (h0:r 0=0):locR i r 0=0:=by
  have:1≤i.a:=by rcases hi with h | h | h | h | h | h <;> omega
  unfold locR
  split
  · exact Z69 (by omega) h0
  · split
    · exact Z69 (by omega) h0
    · exact h0
theorem Z3a (p:List InsR):∀ (m k:Nat),p.length - k=m→k≤p.length→inT p k=true→inT p p.length=false→∃ j,k≤j∧(∃ i,p[j]?=some i∧i.op=8)∧(p.drop k).findIdx? (fun i=>i.op == 8)=some (j - k)
  | 0,k,hm,hk,h1,h2=>by
    have:k=p.length:=by omega
    subst this;rw [h1] at h2;cases h2
  | m + 1,k,hm,hk,h1,h2=>by
    have hlt:k < p.length:=by omega
    have hs:=List.getElem?_eq_getElem hlt
    have hd:p.drop k=p[k] :: p.drop (k + 1):=List.drop_eq_getElem_cons hlt
    by_cases h8:p[k].op=8
    · refine ⟨k,Nat.le_refl _,⟨_,hs,h8⟩,?_⟩
      rw [hd,List.findIdx?_cons,if_pos (by simp [h8])]
      simp
    · have h3:inT p (k + 1)=true:=by
        rw [Z2g hs]
        split
        · rfl
        · exact h1
      obtain ⟨j,hj,hi,hf⟩:=Z3a p m (k + 1) (by omega) (by omega) h3 h2
      refine ⟨j,by omega,hi,?_⟩
      rw [hd,List.findIdx?_cons,if_neg (by simp [h8]),hf]
      simp only [Option.map_some,Option.some.injEq]
      omega
theorem Z3b {c:Cfg} {p:List InsR} (hp:ProgOk c p) {b:Int} (h0:0≤b) {i:InsR} (hi:p[b.toNat]?=some i) (h7:i.op=7) :
    ∃ j:Nat,Z0j p b=j∧b.toNat < j∧(∃ i,p[j]?=some i∧i.op=8)∧inT p (j + 1)=false∧j + 1≤p.length:=by
  have hlt:=getElem?_lt hi
  have h1:inT p (b.toNat + 1)=true:=by rw [Z2g hi,if_pos h7]
  obtain ⟨j,hj,⟨i2,hi2,h8⟩,hf⟩:=Z3a p _ (b.toNat + 1) rfl (by omega) h1 hp.fin
  refine ⟨j,?_,by omega,⟨i2,hi2,h8⟩,?_,?_⟩
  · unfold Z0j
    rw [hf]
    show b + 1 + ((j - (b.toNat + 1):Nat):Int)=j
    omega
  · rw [Z2g hi2,if_neg (by omega),if_pos h8]
  · have:=getElem?_lt hi2;omega
theorem Zhz {cap:Nat} {xs:List Int} {v:Int}:(addL cap xs v).length≤xs.length + 1:=by
  unfold addL
  split
  · omega
  · split <;> simp
theorem Zi0 {cap:Nat} {xs:List Int} {v:Int} (h:xs.length≤cap):(addL cap xs v).length≤cap:=by
  unfold addL
  split
  · exact h
  · split
    · simp;omega
    · exact h
theorem Zhw {cap:Nat} {xs:List Int} {v z:Int} (h:z ∈ xs):z ∈ addL cap xs v:=by
  unfold addL
  split
  · exact h
  · split
    · exact List.mem_append_left _ h
    · exact h
theorem Zhx {cap:Nat} {xs:List Int} {v:Int} (h:xs.length < cap):v ∈ addL cap xs v:=by
  unfold addL
  split
  · assumption
  · simp
theorem Zfp {cap:Nat} {xs:List Int} {v z:Int} (h:z ∈ addL cap xs v):z ∈ xs∨z=v:=by
  unfold addL at h
  split at h
  · exact .inl h
  · split at h
    · rcases List.mem_append.1 h with h | h
      · exact .inl h
      · exact .inr (List.mem_singleton.1 h)
    · exact .inl h
theorem Zfn {xs:List Int} {v:Int}:(Z3s xs v).length≤xs.length + 1:=by
  unfold Z3s
  split
  · omega
  · simp
theorem Zfm {xs:List Int} {v z:Int} (h:z ∈ Z3s xs v):z ∈ xs∨z=v:=by
  unfold Z3s at h
  split at h
  · exact .inl h
  · rcases List.mem_append.1 h with h | h
    · exact .inl h
    · exact .inr (List.mem_singleton.1 h)
theorem Zgt {L:PL} {a v:Int}:(putL L a v).cap=L.cap:=by
  unfold putL
  split
  · rfl
  · split
    · rfl
    · split <;> rfl
theorem Zgs {L:PL} {a v:Int}:(putL L a v).addrs.length≤L.addrs.length + 1:=by
  unfold putL
  split
  · omega
  · split
    · show L.addrs.length≤_;omega
    · split
      · simp
      · omega
theorem Zgr {L:PL} {a v z:Int} (h:z ∈ (putL L a v).addrs):z ∈ L.addrs∨z=a:=by
  unfold putL at h
  split at h
  · exact .inl h
  · split at h
    · exact .inl h
    · split at h
      · rcases List.mem_append.1 h with h | h
        · exact .inl h
        · exact .inr (List.mem_singleton.1 h)
      · exact .inl h
theorem Z84 {c:Cfg} {T:TS} (h:T.L.addrs=[]):osT c T=[]:=by
  cases he:osT c T with
  | nil=>rfl
  | cons a l =>
    have:a ∈ osT c T:=by rw [he];simp
    obtain ⟨z,hz,_⟩:=osT_mem.1 this
    rw [h] at hz;cases hz
theorem Zgy {b:Bool} {old:List Int} {sn:Int}:old.length≤(oldN b old sn).length∧(oldN b old sn).length≤old.length + 1:=by
  unfold oldN
  split <;> simp
section
variable {c:Cfg} {p:List InsR} {B:Nat} {T T':TS} {id:Int} {C C':Cells} {s:StR}
theorem WF.next (H:WF c p B T) (hp:ProgOk c p) {i:InsR} (hi:p[T.pc.toNat]?=some i) (h7:i.op ≠ 7) (h8:i.op ≠ 8):0≤T.pc + 1∧(T.pc + 1).toNat≤p.length∧inT p (T.pc + 1).toNat=inT p T.pc.toNat∧(∀ op,Z1b p op (T.pc + 1).toNat=(if i.op=op then 1 else 0) + Z1b p op T.pc.toNat):=by
  have h0:=H.pc0
  have hl:=getElem?_lt hi
  have e:(T.pc + 1).toNat=T.pc.toNat + 1:=by omega
  rw [e]
  refine ⟨by omega,by omega,?_,fun op=>?_⟩
  · rw [Z2g hi,if_neg h7,if_neg h8]
  · rw [Zd1 hi,if_neg h7]
theorem WF.step (H:WF c p B T) (hc:CfgP c) (hp:ProgOk c p) (hcap:CapOk c p) (hs:TStep c p id C T C' T' s):WF c p (B + 1) T':=by
  have HB:=H.mono (Nat.le_succ B)
  have hph:=H.phs
  cases hs with
  | loc0 i hi ho hph0 =>
    have hn:=H.next hp hi (by omega) (by omega)
    exact { HB with
      pc0:=hn.1,pcl:=hn.2.1,plc:=by rw [hn.2.2.1];exact H.plc
      r0:=⟨Z9r (hp.ins _ _ hi) ho H.r0.1,H.r0.2⟩
      lenS:=fun h=>absurd hph0 h
      lenL:=fun h=>absurd hph0 h
      phs:=by show phOk c p _ T.ph;rw [hph0];trivial }
  | loc1 i hi ho hph0 =>
    have hn:=H.next hp hi (by omega) (by omega)
    exact { HB with
      pc0:=hn.1,pcl:=hn.2.1,plc:=by rw [hn.2.2.1];exact H.plc
      r0:=⟨Z9r (hp.ins _ _ hi) ho H.r0.1,H.r0.2⟩
      lenS:=fun h h2=>by rw [hn.2.2.2];have:=H.lenS h h2;show T.S.length≤_;omega
      lenL:=fun h h2=>by rw [hn.2.2.2];have:=H.lenL h h2;show T.L.addrs.length≤_;omega
      phs:=by
        show phOk c p _ T.ph
        rw [hph0] at hph ⊢
        exact hph }
  | begin_ i hi ho hph0 =>
    have hpl:=H.plc
    rw [hph0] at hpl
    exact {
      pc0:=H.pc0,pcl:=H.pcl,plc:=hpl,inv:=Zh1 _
      adr:=fun a h=>by cases h
      r0:=⟨H.r0.1,H.r0.1⟩
      bg:=fun _=>⟨H.pc0,i,hi,ho⟩
      cap:=fun _=>rfl
      lenS:=fun _ _=>Nat.zero_le _
      lenL:=fun _ _=>Nat.zero_le _
      Srng:=fun a h=>by cases h
      sn:=fun a h=>by cases h
      Scap:=Nat.zero_le _
      snl:=Nat.zero_le _
      cnt:=by have:=H.cnt;show 0≤T.count + 1∧T.count + 1≤_∧0≤T.tries + 1∧T.tries + 1≤_;omega
      seenl:=by have:=H.seenl;exact ⟨Nat.zero_le _,by show T.obs.length≤_;omega,fun _=>by show T.obs.length + 0≤_;omega⟩
      phs:=⟨rfl,rfl,rfl,rfl⟩ }
  | clock hph0 =>
    rw [hph0] at hph
    have hpl:=H.plc
    rw [hph0] at hpl
    have hn:T.ph ≠ .none:=by rw [hph0];intro h;cases h
    exact { HB with plc:=hpl,bg:=fun _=>H.bg hn,cap:=fun _=>H.cap hn,lenS:=fun _ h=>(by cases h),lenL:=fun _ h=>(by cases h),seenl:=by have:=HB.seenl;exact ⟨this.1,this.2.1,fun _=>this.2.2 hn⟩,phs:=hph }
  | active hph0 =>
    rw [hph0] at hph
    have hpl:=H.plc
    rw [hph0] at hpl
    have hn:T.ph ≠ .none:=by rw [hph0];intro h;cases h
    obtain ⟨hb0,i,hi,h7⟩:=H.bg hn
    rw [← hph.1] at hi
    have hl:=getElem?_lt hi
    have h0:=H.pc0
    have e:(T.pc + 1).toNat=T.pc.toNat + 1:=by omega
    exact { HB with
      pc0:=by show 0≤T.pc + 1;omega
      pcl:=by show (T.pc + 1).toNat≤_;omega
      plc:=by show inT p (T.pc + 1).toNat=true;rw [e,Z2g hi,if_pos h7]
      bg:=fun _=>H.bg hn,cap:=fun _=>H.cap hn
      lenS:=fun _ _=>by show T.S.length≤_;rw [hph.2.1];exact Nat.zero_le _
      lenL:=fun _ _=>by show T.L.addrs.length≤_;rw [hph.2.2.1];exact Nat.zero_le _
      seenl:=by have:=HB.seenl;exact ⟨this.1,this.2.1,fun _=>this.2.2 hn⟩
      phs:=hph.2.2.2 }
  | rlog i hi ho hph0 hg =>
    have hn:=H.next hp hi (by omega) (by omega)
    have hne:T.ph ≠ .none:=by rw [hph0];intro h;cases h
    have hin:phIn T.ph=true:=by rw [hph0];rfl
    have hA:=hp.ins _ _ hi
    have ha:1≤i.a:=by rcases hA with h | h | h | h | h | h <;> omega
    exact { HB with
      pc0:=hn.1,pcl:=hn.2.1,plc:=by show inT p (T.pc + 1).toNat=true;rw [hn.2.2.1,H.plc,hph0];rfl
      r0:=⟨Z69 (by omega) H.r0.1,H.r0.2⟩
      bg:=fun _=>H.bg hne,cap:=fun _=>H.cap hne
      lenS:=fun _ _=>by show T.S.length≤Z1b p 10 (T.pc + 1).toNat;rw [hn.2.2.2];have:=H.lenS hne hin;omega
      lenL:=fun _ _=>by show T.L.addrs.length≤Z1b p 11 (T.pc + 1).toNat;rw [hn.2.2.2];have:=H.lenL hne hin;omega
      seenl:=by
        have:=H.seenl;have h3:=this.2.2 hne
        refine ⟨?_,?_,fun _=>?_⟩
        · show (T.seen++[_]).length≤_;simp;omega
        · show T.obs.length≤_;omega
        · show T.obs.length + (T.seen++[_]).length≤_;simp;omega
      phs:=by rw [hph0] at hph;exact hph }
  | r0ok i o hi ho hph0 hg hor h64 hrv =>
    rw [hph0] at hph
    have hpl:=H.plc
    rw [hph0] at hpl
    have hne:T.ph ≠ .none:=by rw [hph0];intro h;cases h
    have hin:phIn T.ph=true:=by rw [hph0];rfl
    exact { HB with plc:=hpl,bg:=fun _=>H.bg hne,cap:=fun _=>H.cap hne,lenS:=fun _ _=>H.lenS hne hin,lenL:=fun _ _=>H.lenL hne hin,seenl:=by have:=HB.seenl;exact ⟨this.1,this.2.1,fun _=>this.2.2 hne⟩,phs:=⟨hph,by unfold Z44 at hg;simpa using hg,i,hi,ho,rfl⟩ }
  | r0bad i o hi ho hph0 hg hor hbad =>
    rw [hph0] at hph
    have hpl:=H.plc
    rw [hph0] at hpl
    have hne:T.ph ≠ .none:=by rw [hph0];intro h;cases h
    have hin:phIn T.ph=true:=by rw [hph0];rfl
    exact { HB with plc:=hpl,bg:=fun _=>H.bg hne,cap:=fun _=>H.cap hne,lenS:=fun _ _=>H.lenS hne hin,lenL:=fun _ _=>H.lenL hne hin,seenl:=by have:=HB.seenl;exact ⟨this.1,this.2.1,fun _=>this.2.2 hne⟩,phs:=.inr rfl }
  | r1 ad bf hph0 =>
    rw [hph0] at hph
    have hpl:=H.plc
    rw [hph0] at hpl
    have hne:T.ph ≠ .none:=by rw [hph0];intro h;cases h
    have hin:phIn T.ph=true:=by rw [hph0];rfl
    exact { HB with plc:=hpl,bg:=fun _=>H.bg hne,cap:=fun _=>H.cap hne,lenS:=fun _ _=>H.lenS hne hin,lenL:=fun _ _=>H.lenL hne hin,seenl:=by have:=HB.seenl;exact ⟨this.1,this.2.1,fun _=>this.2.2 hne⟩,phs:=hph }
  | r2bad ad bf vl hph0 hbad =>
    have hpl:=H.plc
    rw [hph0] at hpl
    have hne:T.ph ≠ .none:=by rw [hph0];intro h;cases h
    have hin:phIn T.ph=true:=by rw [hph0];rfl
    exact { HB with plc:=hpl,bg:=fun _=>H.bg hne,cap:=fun _=>H.cap hne,lenS:=fun _ _=>H.lenS hne hin,lenL:=fun _ _=>H.lenL hne hin,seenl:=by have:=HB.seenl;exact ⟨this.1,this.2.1,fun _=>this.2.2 hne⟩,phs:=.inr rfl }
  | r2ok ad bf vl i hi ho had hph0 hgot =>
    have hn:=H.next hp hi (by omega) (by omega)
    have hne:T.ph ≠ .none:=by rw [hph0];intro h;cases h
    have hin:phIn T.ph=true:=by rw [hph0];rfl
    have hA:=hp.ins _ _ hi
    have ha:1≤i.a:=by rcases hA with h | h | h | h | h | h <;> omega
    have hw:0≤ad∧ad < c.words:=by rcases hA with h | h | h | h | h | h <;> omega
    have hlS:=H.lenS hne hin
    have hlC:=hcap.rd _ _ hi ho
    have hor:0≤ad % c.orecs∧ad % c.orecs < c.orecs:=⟨Int.emod_nonneg _ (by have:=hc.orecs;omega),Int.emod_lt_of_pos _ (by have:=hc.orecs;omega)⟩
    exact { HB with
      pc0:=hn.1,pcl:=hn.2.1,plc:=by rw [show (TS.got T i.a vl).pc.toNat=(T.pc + 1).toNat from rfl,hn.2.2.1,H.plc,hph0];rfl
      r0:=⟨Z69 (by omega) H.r0.1,H.r0.2⟩
      bg:=fun _=>H.bg hne,cap:=fun _=>H.cap hne
      lenS:=fun _ _=>by
        show (addL _ T.S _).length≤Z1b p 10 (T.pc + 1).toNat
        rw [hn.2.2.2,if_pos ho]
        have:=@Zhz (Z08 c.reads) T.S (ad % c.orecs);omega
      lenL:=fun _ _=>by show T.L.addrs.length≤Z1b p 11 (T.pc + 1).toNat;rw [hn.2.2.2];have:=H.lenL hne hin;omega
      Srng:=fun z hz=>by
        rcases Zfp hz with h | rfl
        · exact H.Srng z h
        · exact hor
      sn:=fun z hz=>by
        rcases Zfm hz with h | rfl
        · have:=H.sn z h
          exact ⟨this.1,this.2.1,Zhw this.2.2⟩
        · exact ⟨hw.1,hw.2,Zhx (by omega)⟩
      Scap:=Zi0 H.Scap
      snl:=by show (Z3s T.sn ad).length≤_;have:=@Zfn T.sn ad;have:=H.snl;omega
      seenl:=by
        have:=H.seenl;have h3:=this.2.2 hne
        refine ⟨?_,?_,fun _=>?_⟩
        · show (T.seen++[_]).length≤_;simp;omega
        · show T.obs.length≤_;omega
        · show T.obs.length + (T.seen++[_]).length≤_;simp;omega
      phs:=by rw [hph0] at hph;exact hph.1 }
  | twrite i hi ho hph0 =>
    have hn:=H.next hp hi (by omega) (by omega)
    have hne:T.ph ≠ .none:=by rw [hph0];intro h;cases h
    have hin:phIn T.ph=true:=by rw [hph0];rfl
    have hA:=hp.ins _ _ hi
    have hw:0≤i.imm∧i.imm < c.words:=by rcases hA with h | h | h | h | h | h <;> omega
    exact { HB with
      pc0:=hn.1,pcl:=hn.2.1,plc:=by rw [hn.2.2.1];exact H.plc
      inv:=H.inv.put _ _
      adr:=fun a ha=>by
        rcases Zgr ha with h | rfl
        · exact H.adr a h
        · exact hw
      cap:=fun h=>by rw [Zgt];exact H.cap h
      lenS:=fun _ _=>by show T.S.length≤Z1b p 10 (T.pc + 1).toNat;rw [hn.2.2.2];have:=H.lenS hne hin;omega
      lenL:=fun _ _=>by
        show (putL T.L _ _).addrs.length≤Z1b p 11 (T.pc + 1).toNat
        rw [hn.2.2.2,if_pos ho]
        have:=@Zgs T.L i.imm (T.regs i.b.toNat);have:=H.lenL hne hin;omega
      phs:=by show phOk c p _ T.ph;rw [hph0] at hph ⊢;exact hph }
  | cnone i hi ho hph0 hL =>
    rw [hph0] at hph
    have hpl:=H.plc
    rw [hph0] at hpl
    have hne:T.ph ≠ .none:=by rw [hph0];intro h;cases h
    have hin:phIn T.ph=true:=by rw [hph0];rfl
    exact { HB with plc:=hpl,bg:=fun _=>H.bg hne,cap:=fun _=>H.cap hne,lenS:=fun _ _=>H.lenS hne hin,lenL:=fun _ _=>H.lenL hne hin,seenl:=by have:=HB.seenl;exact ⟨this.1,this.2.1,fun _=>this.2.2 hne⟩,phs:=⟨rfl,by show T.old.length=(osT c T).length;rw [show T.old=[] from hph,Z84 hL]⟩ }
  | clock_ i hi ho hph0 hL =>
    rw [hph0] at hph
    have hpl:=H.plc
    rw [hph0] at hpl
    have hne:T.ph ≠ .none:=by rw [hph0];intro h;cases h
    have hin:phIn T.ph=true:=by rw [hph0];rfl
    exact { HB with plc:=hpl,bg:=fun _=>H.bg hne,cap:=fun _=>H.cap hne,lenS:=fun _ _=>H.lenS hne hin,lenL:=fun _ _=>H.lenL hne hin,seenl:=by have:=HB.seenl;exact ⟨this.1,this.2.1,fun _=>this.2.2 hne⟩,phs:=⟨rfl,by show T.old.length < (osT c _).length;rw [show T.old=[] from hph];exact List.length_pos_iff.2 (Zcb hL)⟩ }
  | lload sn o hph0 ho =>
    rw [hph0] at hph
    have hpl:=H.plc
    rw [hph0] at hpl
    have hne:T.ph ≠ .none:=by rw [hph0];intro h;cases h
    have hin:phIn T.ph=true:=by rw [hph0];rfl
    exact { HB with plc:=hpl,bg:=fun _=>H.bg hne,cap:=fun _=>H.cap hne,lenS:=fun _ _=>H.lenS hne hin,lenL:=fun _ _=>H.lenL hne hin,seenl:=by have:=HB.seenl;exact ⟨this.1,this.2.1,fun _=>this.2.2 hne⟩,phs:=hph }
  | lmore sn o a old2 hph0 ho ha hold hne2 =>
    rw [hph0] at hph
    have hpl:=H.plc
    rw [hph0] at hpl
    have hne:T.ph ≠ .none:=by rw [hph0];intro h;cases h
    have hin:phIn T.ph=true:=by rw [hph0];rfl
    exact { HB with plc:=hpl,bg:=fun _=>H.bg hne,cap:=fun _=>H.cap hne,lenS:=fun _ _=>H.lenS hne hin,lenL:=fun _ _=>H.lenL hne hin,seenl:=by have:=HB.seenl;exact ⟨this.1,this.2.1,fun _=>this.2.2 hne⟩,phs:=⟨hph.1,by
      show old2.length < (osT c T).length
      have:=hph.2
      have:=@Zgy a.done T.old sn
      rw [hold] at this
      omega⟩ }
  | llast sn o a old2 hph0 ho ha hold hne2 =>
    rw [hph0] at hph
    have hpl:=H.plc
    rw [hph0] at hpl
    have hne:T.ph ≠ .none:=by rw [hph0];intro h;cases h
    have hin:phIn T.ph=true:=by rw [hph0];rfl
    exact { HB with plc:=hpl,bg:=fun _=>H.bg hne,cap:=fun _=>H.cap hne,lenS:=fun _ _=>H.lenS hne hin,lenL:=fun _ _=>H.lenL hne hin,seenl:=by have:=HB.seenl;exact ⟨this.1,this.2.1,fun _=>this.2.2 hne⟩,phs:=⟨hph.1,hne2⟩ }
  | ticket hph0 =>
    rw [hph0] at hph
    have hpl:=H.plc
    rw [hph0] at hpl
    have hne:T.ph ≠ .none:=by rw [hph0];intro h;cases h
    have hin:phIn T.ph=true:=by rw [hph0];rfl
    exact { HB with plc:=hpl,bg:=fun _=>H.bg hne,cap:=fun _=>H.cap hne,lenS:=fun _ _=>H.lenS hne hin,lenL:=fun _ _=>H.lenL hne hin,seenl:=by have:=HB.seenl;exact ⟨this.1,this.2.1,fun _=>this.2.2 hne⟩,phs:=hph }
  | wait tk hph0 hw=>exact HB
  | mine tk hph0 hw hS =>
    rw [hph0] at hph
    have hpl:=H.plc
    rw [hph0] at hpl
    have hne:T.ph ≠ .none:=by rw [hph0];intro h;cases h
    have hin:phIn T.ph=true:=by rw [hph0];rfl
    exact { HB with plc:=hpl,bg:=fun _=>H.bg hne,cap:=fun _=>H.cap hne,lenS:=fun _ _=>H.lenS hne hin,lenL:=fun _ _=>H.lenL hne hin,seenl:=by have:=HB.seenl;exact ⟨this.1,this.2.1,fun _=>this.2.2 hne⟩,phs:=⟨hph.1,hph.2,hS,fun z hz=>hz⟩ }
  | mine0 tk hph0 hw hS =>
    rw [hph0] at hph
    have hpl:=H.plc
    rw [hph0] at hpl
    have hne:T.ph ≠ .none:=by rw [hph0];intro h;cases h
    have hin:phIn T.ph=true:=by rw [hph0];rfl
    exact { HB with plc:=hpl,bg:=fun _=>H.bg hne,cap:=fun _=>H.cap hne,lenS:=fun _ _=>H.lenS hne hin,lenL:=fun _ _=>H.lenL hne hin,seenl:=by have:=HB.seenl;exact ⟨this.1,this.2.1,fun _=>this.2.2 hne⟩,phs:=hph }
  | cmore tk z zs hph0 hv hzs =>
    rw [hph0] at hph
    have hpl:=H.plc
    rw [hph0] at hpl
    have hne:T.ph ≠ .none:=by rw [hph0];intro h;cases h
    have hin:phIn T.ph=true:=by rw [hph0];rfl
    exact { HB with plc:=hpl,bg:=fun _=>H.bg hne,cap:=fun _=>H.cap hne,lenS:=fun _ _=>H.lenS hne hin,lenL:=fun _ _=>H.lenL hne hin,seenl:=by have:=HB.seenl;exact ⟨this.1,this.2.1,fun _=>this.2.2 hne⟩,phs:=⟨hph.1,hph.2.1,hzs,fun y hy=>hph.2.2.2 y (List.mem_cons_of_mem _ hy)⟩ }
  | clast tk z hph0 hv =>
    rw [hph0] at hph
    have hpl:=H.plc
    rw [hph0] at hpl
    have hne:T.ph ≠ .none:=by rw [hph0];intro h;cases h
    have hin:phIn T.ph=true:=by rw [hph0];rfl
    exact { HB with plc:=hpl,bg:=fun _=>H.bg hne,cap:=fun _=>H.cap hne,lenS:=fun _ _=>H.lenS hne hin,lenL:=fun _ _=>H.lenL hne hin,seenl:=by have:=HB.seenl;exact ⟨this.1,this.2.1,fun _=>this.2.2 hne⟩,phs:=⟨hph.1,hph.2.1⟩ }
  | cbad0 tk z zs hph0 hv hL =>
    rw [hph0] at hph
    have hpl:=H.plc
    rw [hph0] at hpl
    have hne:T.ph ≠ .none:=by rw [hph0];intro h;cases h
    have hin:phIn T.ph=true:=by rw [hph0];rfl
    exact { HB with plc:=hpl,bg:=fun _=>H.bg hne,cap:=fun _=>H.cap hne,lenS:=fun _ _=>H.lenS hne hin,lenL:=fun _ _=>H.lenL hne hin,seenl:=by have:=HB.seenl;exact ⟨this.1,this.2.1,fun _=>this.2.2 hne⟩,phs:=.inr rfl }
  | cbad1 tk z zs hph0 hv hL =>
    rw [hph0] at hph
    have hpl:=H.plc
    rw [hph0] at hpl
    have hne:T.ph ≠ .none:=by rw [hph0];intro h;cases h
    have hin:phIn T.ph=true:=by rw [hph0];rfl
    exact { HB with plc:=hpl,bg:=fun _=>H.bg hne,cap:=fun _=>H.cap hne,lenS:=fun _ _=>H.lenS hne hin,lenL:=fun _ _=>H.lenL hne hin,seenl:=by have:=HB.seenl;exact ⟨this.1,this.2.1,fun _=>this.2.2 hne⟩,phs:=⟨rfl,hph.2.1,List.length_pos_iff.2 (Zcb hL)⟩ }
  | dnone tk hph0 hL =>
    rw [hph0] at hph
    have hpl:=H.plc
    rw [hph0] at hpl
    have hne:T.ph ≠ .none:=by rw [hph0];intro h;cases h
    have hin:phIn T.ph=true:=by rw [hph0];rfl
    exact { HB with plc:=hpl,bg:=fun _=>H.bg hne,cap:=fun _=>H.cap hne,lenS:=fun _ _=>H.lenS hne hin,lenL:=fun _ _=>H.lenL hne hin,seenl:=by have:=HB.seenl;exact ⟨this.1,this.2.1,fun _=>this.2.2 hne⟩,phs:=.inl hph.1 }
  | dstore tk hph0 hL hk =>
    rw [hph0] at hph
    have hpl:=H.plc
    rw [hph0] at hpl
    have hne:T.ph ≠ .none:=by rw [hph0];intro h;cases h
    have hin:phIn T.ph=true:=by rw [hph0];rfl
    exact { HB with plc:=hpl,bg:=fun _=>H.bg hne,cap:=fun _=>H.cap hne,lenS:=fun _ _=>H.lenS hne hin,lenL:=fun _ _=>H.lenL hne hin,seenl:=by have:=HB.seenl;exact ⟨this.1,this.2.1,fun _=>this.2.2 hne⟩,phs:=⟨hph.1,hph.2,List.length_pos_iff.2 hL⟩ }
  | wmore tk ck k z v hph0 hz hv hk =>
    rw [hph0] at hph
    have hpl:=H.plc
    rw [hph0] at hpl
    have hne:T.ph ≠ .none:=by rw [hph0];intro h;cases h
    have hin:phIn T.ph=true:=by rw [hph0];rfl
    exact { HB with plc:=hpl,bg:=fun _=>H.bg hne,cap:=fun _=>H.cap hne,lenS:=fun _ _=>H.lenS hne hin,lenL:=fun _ _=>H.lenL hne hin,seenl:=by have:=HB.seenl;exact ⟨this.1,this.2.1,fun _=>this.2.2 hne⟩,phs:=⟨hph.1,hph.2.1,hk⟩ }
  | wlast tk ck k z v hph0 hz hv hk =>
    rw [hph0] at hph
    have hpl:=H.plc
    rw [hph0] at hpl
    have hne:T.ph ≠ .none:=by rw [hph0];intro h;cases h
    have hin:phIn T.ph=true:=by rw [hph0];rfl
    have hL:T.L.addrs ≠ []:=by intro h;rw [h] at hz;cases hz
    exact { HB with plc:=hpl,bg:=fun _=>H.bg hne,cap:=fun _=>H.cap hne,lenS:=fun _ _=>H.lenS hne hin,lenL:=fun _ _=>H.lenL hne hin,seenl:=by have:=HB.seenl;exact ⟨this.1,this.2.1,fun _=>this.2.2 hne⟩,phs:=⟨hph.1,hph.2.1,List.length_pos_iff.2 (Zcb hL)⟩ }
  | rmore tk ck k st z v hph0 hz hv hk =>
    rw [hph0] at hph
    have hpl:=H.plc
    rw [hph0] at hpl
    have hne:T.ph ≠ .none:=by rw [hph0];intro h;cases h
    have hin:phIn T.ph=true:=by rw [hph0];rfl
    exact { HB with plc:=hpl,bg:=fun _=>H.bg hne,cap:=fun _=>H.cap hne,lenS:=fun _ _=>H.lenS hne hin,lenL:=fun _ _=>H.lenL hne hin,seenl:=by have:=HB.seenl;exact ⟨this.1,this.2.1,fun _=>this.2.2 hne⟩,phs:=⟨hph.1,hph.2.1,hk⟩ }
  | rlast tk ck k st z v hph0 hz hv hk =>
    rw [hph0] at hph
    have hpl:=H.plc
    rw [hph0] at hpl
    have hne:T.ph ≠ .none:=by rw [hph0];intro h;cases h
    have hin:phIn T.ph=true:=by rw [hph0];rfl
    have hL:T.L.addrs ≠ []:=by intro h;rw [Z84 h] at hz;cases hz
    cases st with
    | true=>exact { HB with plc:=hpl,bg:=fun _=>H.bg hne,cap:=fun _=>H.cap hne,lenS:=fun _ _=>H.lenS hne hin,lenL:=fun _ _=>H.lenL hne hin,seenl:=by have:=HB.seenl;exact ⟨this.1,this.2.1,fun _=>this.2.2 hne⟩,phs:=⟨hph.1,hL⟩ }
    | false=>exact { HB with plc:=hpl,bg:=fun _=>H.bg hne,cap:=fun _=>H.cap hne,lenS:=fun _ _=>H.lenS hne hin,lenL:=fun _ _=>H.lenL hne hin,seenl:=by have:=HB.seenl;exact ⟨this.1,this.2.1,fun _=>this.2.2 hne⟩,phs:=.inr hph.1 }
  | stamp tk ck hph0 =>
    rw [hph0] at hph
    have hpl:=H.plc
    rw [hph0] at hpl
    have hne:T.ph ≠ .none:=by rw [hph0];intro h;cases h
    have hin:phIn T.ph=true:=by rw [hph0];rfl
    exact { HB with plc:=hpl,bg:=fun _=>H.bg hne,cap:=fun _=>H.cap hne,lenS:=fun _ _=>H.lenS hne hin,lenL:=fun _ _=>H.lenL hne hin,seenl:=by have:=HB.seenl;exact ⟨this.1,this.2.1,fun _=>this.2.2 hne⟩,phs:=.inl hph.1 }
  | pass tk hph0 =>
    rw [hph0] at hph
    have hpl:=H.plc
    rw [hph0] at hpl
    have hne:T.ph ≠ .none:=by rw [hph0];intro h;cases h
    have hin:phIn T.ph=true:=by rw [hph0];rfl
    exact { HB with plc:=hpl,bg:=fun _=>H.bg hne,cap:=fun _=>H.cap hne,lenS:=fun _ _=>H.lenS hne hin,lenL:=fun _ _=>H.lenL hne hin,seenl:=by have:=HB.seenl;exact ⟨this.1,this.2.1,fun _=>this.2.2 hne⟩,phs:=hph }
  | commit hph0 hcd =>
    have hne:T.ph ≠ .none:=by rw [hph0];intro h;cases h
    obtain ⟨hb0,i,hi,h7⟩:=H.bg hne
    obtain ⟨j,hj,hbj,_,hin,hle⟩:=Z3b hp hb0 hi h7
    have e:(T.committed p).pc=(j:Int) + 1:=by show Z0j p T.begin_ + 1=_;rw [hj]
    have e2:(T.committed p).pc.toNat=j + 1:=by rw [e];omega
    exact { HB with
      pc0:=by rw [e];omega
      pcl:=by rw [e2];exact hle
      plc:=by rw [e2,hin];rfl
      bg:=fun h=>absurd rfl h,cap:=fun h=>absurd rfl h,lenS:=fun h=>absurd rfl h,lenL:=fun h=>absurd rfl h
      cnt:=by have:=HB.cnt;exact ⟨this.1,this.2.1,Int.le_refl 0,Int.natCast_nonneg _⟩
      seenl:=by
        have:=H.seenl;have h3:=this.2.2 hne
        refine ⟨by show T.seen.length≤_;omega,?_,fun h=>absurd rfl h⟩
        show (T.obs++T.seen++[_]).length≤_
        simp;omega
      phs:=trivial }
  | again i hph0 hcd hi2 hlt =>
    have hne:T.ph ≠ .none:=by rw [hph0];intro h;cases h
    obtain ⟨hb0,i,hi,h7⟩:=H.bg hne
    have hA:=hp.ins _ _ hi
    have hin:inT p T.begin_.toNat=false:=by
      rcases hA with h | h | h | h | h | h
      · omega
      · omega
      · exact h.2.1
      · omega
      · omega
      · omega
    exact { HB with
      pc0:=hb0
      pcl:=by have:=getElem?_lt hi;show T.begin_.toNat≤_;omega
      plc:=hin
      r0:=⟨H.r0.2,H.r0.2⟩
      bg:=fun h=>absurd rfl h,cap:=fun h=>absurd rfl h,lenS:=fun h=>absurd rfl h,lenL:=fun h=>absurd rfl h
      seenl:=by have:=HB.seenl;exact ⟨this.1,this.2.1,fun h=>absurd rfl h⟩
      phs:=trivial }
  | gaveUp i hph0 hcd hi2 hlt =>
    have hne:T.ph ≠ .none:=by rw [hph0];intro h;cases h
    obtain ⟨hb0,i,hi,h7⟩:=H.bg hne
    obtain ⟨j,hj,hbj,_,hin,hle⟩:=Z3b hp hb0 hi h7
    have e:(T.gaveUp p).pc=(j:Int) + 1:=by show Z0j p T.begin_ + 1=_;rw [hj]
    have e2:(T.gaveUp p).pc.toNat=j + 1:=by rw [e];omega
    exact { HB with
      pc0:=by rw [e];omega
      pcl:=by rw [e2];exact hle
      plc:=by rw [e2,hin];rfl
      r0:=⟨H.r0.2,H.r0.2⟩
      bg:=fun h=>absurd rfl h,cap:=fun h=>absurd rfl h,lenS:=fun h=>absurd rfl h,lenL:=fun h=>absurd rfl h
      cnt:=by have:=HB.cnt;exact ⟨this.1,this.2.1,Int.le_refl 0,Int.natCast_nonneg _⟩
      seenl:=by
        have:=H.seenl;have h3:=this.2.2 hne
        refine ⟨by show T.seen.length≤_;omega,?_,fun h=>absurd rfl h⟩
        show (T.obs++[_]).length≤_
        simp;omega
      phs:=trivial }
end
end Go.Proofs.YtmlfangeanmmeaaGreatDoor
