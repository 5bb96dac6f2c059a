/-
  What the proof of TopDoomed leans on, part 37 of 44: Tl3, Pd, Pd2, Pd3. No statement of its own.
-/
import Derived.Test.YtmlfangeanmmeaaGreatDoorDm34
namespace Go.Proofs.YtmlfangeanmmeaaGreatDoor
set_option maxRecDepth 8000
open Go
set_option linter.unusedVariables false
def calmQ:Ph→Bool
  | .rd1 _ _ | .rd2 _ _ _ | .chk _ _ | .dec _=>false
  | _=>true
section
variable {c:Cfg} {n B:Nat} {T T':TS} {id:Int} {C C':Cells} {s:StR} {th:Nat→TS} {o u:Int} {H:Hist}
theorem Tl.calm (X:Tl c n C th H) {i:Nat} (hi:i < n) (hc:CfgP c) (hv:∀ o,0≤o→o < c.orecs→valC C' 2 o / 64=valC C 2 o / 64∧0≤valC C' 2 o) (hd:∀ a,valC C' 1 a=valC C 1 a) (hk:valC C' 3 0=valC C 3 0)
    (hw:wtr (th i).ph=false) (hw':wtr T'.ph=false) (rvs:hasRv T'.ph=true→0≤T'.rv∧T'.rv≤valC C 3 0) (hcm:calmQ T'.ph=true):Tl c n C' (updT th i T') H:=by
  refine X.quiet hi hv hc hd hk hw hw' rvs ?_ ?_ ?_ ?_
  · intro ad bf h;rw [h] at hcm;cases hcm
  · intro ad bf vl h;rw [h] at hcm;cases hcm
  · intro tk zs h;rw [h] at hcm;cases hcm
  · intro tk h;rw [h] at hcm;cases hcm
theorem Tl.step {p:List InsR} (X:Tl c n C th H) (K:TkB n B C th) (L:LkB c n C th) (hC:Shp c n C) (hc:CfgP c) (hn:n≤16) (hWs:∀ j,j < n→∃ p B,WF c p B (th j)) {i:Nat} (hi:i < n) (hp:ProgOk c p) (hW:WF c p B (th i)) (hs:TStep c p i C (th i) C' T' s) :
    Tl c n C' (updT th i T') (nextH C (th i).L (th i).ph T'.ph H):=by
  have k1:∀ (k i v:Int) (d:Bool),k ≠ 1→∀ a,valC (opC C k i v d) 1 a=valC C 1 a:=fun k i v d h a=>valC_ne h
  have k2:∀ (k i v:Int) (d:Bool),k ≠ 2→∀ o,0≤o→o < c.orecs→valC (opC C k i v d) 2 o / 64=valC C 2 o / 64∧0≤valC (opC C k i v d) 2 o:=fun k i v d h a h0 h1=>by rw [valC_ne h];exact ⟨rfl,X.ver0 a h0 h1⟩
  have k3:∀ (k i v:Int) (d:Bool),k ≠ 3→valC (opC C k i v d) 3 0=valC C 3 0:=fun k i v d h=>valC_ne h
  have s2:∀ o,0≤o→o < c.orecs→valC C 2 o / 64=valC C 2 o / 64∧0≤valC C 2 o:=fun a h0 h1=>⟨rfl,X.ver0 a h0 h1⟩
  have s1:∀ a,valC C 1 a=valC C 1 a:=fun a=>rfl
  have hrv:∀ q,(th i).ph=q→hasRv q=true→0≤(th i).rv∧(th i).rv≤valC C 3 0:=fun q h h2=>X.rvs i hi (by rw [h];exact h2)
  have hph:=hW.phs
  cases hs with
  | loc0 j hj ho hq =>
    rw [show nextH C (th i).L (th i).ph _ H=H by rw [hq];rfl]
    exact X.calm hi hc s2 s1 rfl (by rw [hq];rfl) (by show wtr (th i).ph=false;rw [hq];rfl) (fun h=>by have h:hasRv (th i).ph=true:=h;rw [hq] at h;cases h) (by show calmQ (th i).ph=true;rw [hq];rfl)
  | loc1 j hj ho hq =>
    rw [show nextH C (th i).L (th i).ph _ H=H by rw [hq];rfl]
    exact X.calm hi hc s2 s1 rfl (by rw [hq];rfl) (by show wtr (th i).ph=false;rw [hq];rfl) (fun h=>hrv _ hq rfl) (by show calmQ (th i).ph=true;rw [hq];rfl)
  | begin_ j hj ho hq =>
    rw [show nextH C (th i).L (th i).ph _ H=H by rw [hq];rfl]
    exact X.calm hi hc (k2 _ _ _ _ (by decide)) (k1 _ _ _ _ (by decide)) (k3 _ _ _ _ (by decide)) (by rw [hq];rfl) rfl (fun h=>by cases h) rfl
  | clock hq =>
    rw [show nextH C (th i).L (th i).ph _ H=H by rw [hq];rfl]
    exact X.calm hi hc s2 s1 rfl (by rw [hq];rfl) rfl (fun h=>by show 0≤(ldA C 3 0).got∧(ldA C 3 0).got≤_;rw [ld_got hC.h3];exact ⟨X.clk0,Int.le_refl _⟩) rfl
  | active hq =>
    rw [show nextH C (th i).L (th i).ph _ H=H by rw [hq];rfl]
    exact X.calm hi hc (k2 _ _ _ _ (by decide)) (k1 _ _ _ _ (by decide)) (k3 _ _ _ _ (by decide)) (by rw [hq];rfl) rfl (fun h=>hrv _ hq rfl) rfl
  | rlog j hj ho hq hg =>
    rw [show nextH C (th i).L (th i).ph _ H=H by rw [hq];rfl]
    exact X.calm hi hc s2 s1 rfl (by rw [hq];rfl) rfl (fun h=>hrv _ hq rfl) rfl
  | r0ok j o hj ho hq hg hor h64 hv =>
    rw [show nextH C (th i).L (th i).ph _ H=H by rw [hq];rfl]
    have hA:=hp.ins _ _ hj
    have hw:0≤j.imm∧j.imm < c.words:=by rcases hA with h | h | h | h | h | h <;> omega
    refine X.quiet hi s2 hc s1 rfl (by rw [hq];rfl) rfl (fun h=>hrv _ hq rfl) ?_ ?_ ?_ ?_
    · intro ad bf h
      cases h
      exact ⟨h64,hv,hw.1,hw.2⟩
    · intro ad bf vl h;cases h
    · intro tk zs h;cases h
    · intro tk h;cases h
  | r0bad j o hj ho hq hg hor hbad =>
    rw [show nextH C (th i).L (th i).ph _ H=H by rw [hq];rfl]
    exact X.calm hi hc s2 s1 rfl (by rw [hq];rfl) rfl (fun h=>hrv _ hq rfl) rfl
  | r1 ad bf hq =>
    rw [show nextH C (th i).L (th i).ph _ H=H by rw [hq];rfl]
    have h1:=X.rd1 i hi ad bf hq
    refine X.quiet hi s2 hc s1 rfl (by rw [hq];rfl) rfl (fun h=>hrv _ hq rfl) ?_ ?_ ?_ ?_
    · intro ad bf h;cases h
    · intro ad2 bf2 vl h
      cases h
      refine ⟨h1,?_⟩
      rw [ld_got (hC.h1 h1.2.2.1 h1.2.2.2)]
      exact X.load hc hWs h1.2.2.1 h1.2.2.2 (hrv _ hq rfl).2
    · intro tk zs h;cases h
    · intro tk h;cases h
  | r2bad ad bf vl hq hbad =>
    rw [show nextH C (th i).L (th i).ph _ H=H by rw [hq];rfl]
    exact X.calm hi hc s2 s1 rfl (by rw [hq];rfl) rfl (fun h=>hrv _ hq rfl) rfl
  | r2ok ad bf vl j hj ho had hq hgot =>
    rw [show nextH C (th i).L (th i).ph _ H=H by rw [hq];rfl]
    exact X.calm hi hc s2 s1 rfl (by rw [hq];rfl) rfl (fun h=>hrv _ hq rfl) rfl
  | twrite j hj ho hq =>
    rw [show nextH C (th i).L (th i).ph _ H=H by rw [hq];rfl]
    exact X.calm hi hc s2 s1 rfl (by rw [hq];rfl) (by show wtr (th i).ph=false;rw [hq];rfl) (fun h=>hrv _ hq rfl) (by show calmQ (th i).ph=true;rw [hq];rfl)
  | cnone j hj ho hq hL =>
    rw [show nextH C (th i).L (th i).ph _ H=H by rw [hq];rfl]
    exact X.calm hi hc s2 s1 rfl (by rw [hq];rfl) rfl (fun h=>hrv _ hq rfl) rfl
  | clock_ j hj ho hq hL =>
    rw [show nextH C (th i).L (th i).ph _ H=H by rw [hq];rfl]
    exact X.calm hi hc s2 s1 rfl (by rw [hq];rfl) rfl (fun h=>hrv _ hq rfl) rfl
  | lload sn o hq ho =>
    rw [show nextH C (th i).L (th i).ph _ H=H by rw [hq];rfl]
    exact X.calm hi hc s2 s1 rfl (by rw [hq];rfl) rfl (fun h=>hrv _ hq rfl) rfl
  | lmore sn o a old2 hq ho ha hold hne =>
    rw [show nextH C (th i).L (th i).ph _ H=H by rw [hq];rfl]
    have hr:=osT_rng hc.orecs.1 (List.mem_of_getElem? ho)
    have hsn:=L.sn i hi sn hq
    refine X.calm hi hc (fun x h0 h1=>?_) (k1 _ _ _ _ (by decide)) (k3 _ _ _ _ (by decide)) (by rw [hq];rfl) rfl (fun h=>hrv _ hq rfl) rfl
    by_cases he:valC C 2 o=sn
    · rw [show (valC C 2 o == sn)=true by simp [he]]
      by_cases hx:x=o
      · subst hx;rw [valC_self (hC.h2 hr.1 hr.2),he];omega
      · rw [valC_other hr.1 h0 (Ne.symm hx)];exact s2 x h0 h1
    · rw [valC_no (by simp [he])];exact s2 x h0 h1
  | llast sn o a old2 hq ho ha hold hne =>
    rw [show nextH C (th i).L (th i).ph _ H=H by rw [hq];rfl]
    have hr:=osT_rng hc.orecs.1 (List.mem_of_getElem? ho)
    have hsn:=L.sn i hi sn hq
    refine X.calm hi hc (fun x h0 h1=>?_) (k1 _ _ _ _ (by decide)) (k3 _ _ _ _ (by decide)) (by rw [hq];rfl) rfl (fun h=>hrv _ hq rfl) rfl
    by_cases he:valC C 2 o=sn
    · rw [show (valC C 2 o == sn)=true by simp [he]]
      by_cases hx:x=o
      · subst hx;rw [valC_self (hC.h2 hr.1 hr.2),he];omega
      · rw [valC_other hr.1 h0 (Ne.symm hx)];exact s2 x h0 h1
    · rw [valC_no (by simp [he])];exact s2 x h0 h1
  | ticket hq =>
    rw [show nextH C (th i).L (th i).ph _ H=H by rw [hq];rfl]
    exact X.calm hi hc (k2 _ _ _ _ (by decide)) (k1 _ _ _ _ (by decide)) (k3 _ _ _ _ (by decide)) (by rw [hq];rfl) rfl (fun h=>hrv _ hq rfl) rfl
  | wait tk hq hw =>
    rw [show nextH C (th i).L (th i).ph _ H=H by rw [hq];rfl]
    exact X.calm hi hc s2 s1 rfl (by rw [hq];rfl) (by rw [hq];rfl) (fun h=>hrv _ hq rfl) (by rw [hq];rfl)
  | mine tk hq hw hS =>
    rw [show nextH C (th i).L (th i).ph _ H=H by rw [hq];rfl]
    refine X.quiet hi s2 hc s1 rfl (by rw [hq];rfl) rfl (fun h=>hrv _ hq rfl) ?_ ?_ ?_ ?_
    · intro ad bf h;cases h
    · intro ad bf vl h;cases h
    · intro tk2 zs h a ha
      cases h
      exact .inl (hW.sn a ha).2.2
    · intro tk h;cases h
  | mine0 tk hq hw hS =>
    rw [show nextH C (th i).L (th i).ph _ H=H by rw [hq];rfl]
    refine X.quiet hi s2 hc s1 rfl (by rw [hq];rfl) rfl (fun h=>hrv _ hq rfl) ?_ ?_ ?_ ?_
    · intro ad bf h;cases h
    · intro ad bf vl h;cases h
    · intro tk2 zs h;cases h
    · intro tk2 h a ha
      have:=(hW.sn a ha).2.2
      rw [hS] at this;cases this
  | cmore tk z zs hq hv hzs =>
    rw [show nextH C (th i).L (th i).ph _ H=H by rw [hq];rfl]
    rw [hq] at hph
    have hz:=hW.Srng z (hph.2.2.2 z (by simp))
    rw [ld_got (hC.h2 hz.1 hz.2)] at hv
    refine X.quiet hi s2 hc s1 rfl (by rw [hq];rfl) rfl (fun h=>hrv _ hq rfl) ?_ ?_ ?_ ?_
    · intro ad bf h;cases h
    · intro ad bf vl h;cases h
    · intro tk2 zs2 h a ha
      cases h
      have hr:=hW.sn a ha
      rcases X.chk i hi tk _ hq a ha with h1 | h1
      · rcases List.mem_cons.1 h1 with h2 | h2
        · exact .inr (X.his a hr.1 hr.2.1 _ (by rw [h2];exact hv) (hrv _ hq rfl).2)
        · exact .inl h2
      · exact .inr h1
    · intro tk2 h;cases h
  | clast tk z hq hv =>
    rw [show nextH C (th i).L (th i).ph _ H=H by rw [hq];rfl]
    rw [hq] at hph
    have hz:=hW.Srng z (hph.2.2.2 z (by simp))
    rw [ld_got (hC.h2 hz.1 hz.2)] at hv
    refine X.quiet hi s2 hc s1 rfl (by rw [hq];rfl) rfl (fun h=>hrv _ hq rfl) ?_ ?_ ?_ ?_
    · intro ad bf h;cases h
    · intro ad bf vl h;cases h
    · intro tk2 zs2 h;cases h
    · intro tk2 h a ha
      have hr:=hW.sn a ha
      rcases X.chk i hi tk _ hq a ha with h1 | h1
      · exact X.his a hr.1 hr.2.1 _ (by rw [List.mem_singleton.1 h1];exact hv) (hrv _ hq rfl).2
      · exact h1
  | cbad0 tk z zs hq hv hL =>
    rw [show nextH C (th i).L (th i).ph _ H=H by rw [hq];rfl]
    exact X.calm hi hc s2 s1 rfl (by rw [hq];rfl) rfl (fun h=>hrv _ hq rfl) rfl
  | cbad1 tk z zs hq hv hL =>
    rw [show nextH C (th i).L (th i).ph _ H=H by rw [hq];rfl]
    exact X.calm hi hc s2 s1 rfl (by rw [hq];rfl) rfl (fun h=>hrv _ hq rfl) rfl
  | dnone tk hq hL =>
    rw [show nextH C (th i).L (th i).ph _ H=H by rw [hq];rfl]
    exact X.calm hi hc s2 s1 rfl (by rw [hq];rfl) rfl (fun h=>hrv _ hq rfl) rfl
  | dstore tk hq hL hk =>
    rw [show nextH C (th i).L (th i).ph (Ph.wr tk (ldA C 3 0).got 0) H=over2 H (valC C 3 0) (th i).L by rw [hq];rfl]
    exact X.decide K hi hq (by rw [ld_got hC.h3])
  | wmore tk ck k z v hq hz hv hk =>
    rw [show nextH C (th i).L (th i).ph _ H=H by rw [hq];rfl]
    exact X.write K hC hi hW hq hz hv (.inl rfl) rfl
  | wlast tk ck k z v hq hz hv hk =>
    rw [show nextH C (th i).L (th i).ph _ H=H by rw [hq];rfl]
    exact X.write K hC hi hW hq hz hv (.inr ⟨rfl,hk⟩) rfl
  | rmore tk ck k st z v hq hz hv hk =>
    rw [show nextH C (th i).L (th i).ph _ H=H by rw [hq];rfl]
    cases st with
    | true =>
      have hv:v=(ck + 1)*64:=hv
      subst hv
      exact X.release K hC hc hi hW hq hz (.inl rfl) rfl
    | false =>
      have hv:(th i).old[k]?=some v:=hv
      have hr:=osT_rng hc.orecs.1 (List.mem_of_getElem? hz)
      have hh:=L.hold i hi z v ⟨k,k,by rw [hq];rfl,Nat.le_refl _,hz,hv⟩
      refine X.calm hi hc (fun x h0 h1=>?_) (k1 _ _ _ _ (by decide)) (k3 _ _ _ _ (by decide)) (by rw [hq];rfl) rfl (fun h=>hrv _ hq rfl) rfl
      by_cases hx:x=z
      · subst hx;rw [valC_self (hC.h2 hr.1 hr.2),hh.1];omega
      · rw [valC_other hr.1 h0 (Ne.symm hx)];exact s2 x h0 h1
  | rlast tk ck k st z v hq hz hv hk =>
    rw [show nextH C (th i).L (th i).ph _ H=H by rw [hq];rfl]
    cases st with
    | true =>
      have hv:v=(ck + 1)*64:=hv
      subst hv
      exact X.release K hC hc hi hW hq hz (.inr ⟨rfl,hk⟩) rfl
    | false =>
      have hv:(th i).old[k]?=some v:=hv
      have hr:=osT_rng hc.orecs.1 (List.mem_of_getElem? hz)
      have hh:=L.hold i hi z v ⟨k,k,by rw [hq];rfl,Nat.le_refl _,hz,hv⟩
      refine X.calm hi hc (fun x h0 h1=>?_) (k1 _ _ _ _ (by decide)) (k3 _ _ _ _ (by decide)) (by rw [hq];rfl) rfl (fun h=>hrv _ hq rfl) rfl
      by_cases hx:x=z
      · subst hx;rw [valC_self (hC.h2 hr.1 hr.2),hh.1];omega
      · rw [valC_other hr.1 h0 (Ne.symm hx)];exact s2 x h0 h1
  | stamp tk ck hq =>
    rw [show nextH C (th i).L (th i).ph _ H=H by rw [hq];rfl]
    exact X.stamp K hC hc hi hq rfl
  | pass tk hq =>
    rw [show nextH C (th i).L (th i).ph _ H=H by rw [hq];rfl]
    exact X.calm hi hc (k2 _ _ _ _ (by decide)) (k1 _ _ _ _ (by decide)) (k3 _ _ _ _ (by decide)) (by rw [hq];rfl) rfl (fun h=>hrv _ hq rfl) rfl
  | commit hq hcd =>
    rw [show nextH C (th i).L (th i).ph _ H=H by rw [hq];rfl]
    exact X.calm hi hc (k2 _ _ _ _ (by decide)) (k1 _ _ _ _ (by decide)) (k3 _ _ _ _ (by decide)) (by rw [hq];rfl) rfl (fun h=>by cases h) rfl
  | again j hq hcd hj hlt =>
    rw [show nextH C (th i).L (th i).ph _ H=H by rw [hq];rfl]
    exact X.calm hi hc (k2 _ _ _ _ (by decide)) (k1 _ _ _ _ (by decide)) (k3 _ _ _ _ (by decide)) (by rw [hq];rfl) rfl (fun h=>by cases h) rfl
  | gaveUp j hq hcd hj hlt =>
    rw [show nextH C (th i).L (th i).ph _ H=H by rw [hq];rfl]
    exact X.calm hi hc (k2 _ _ _ _ (by decide)) (k1 _ _ _ _ (by decide)) (k3 _ _ _ _ (by decide)) (by rw [hq];rfl) rfl (fun h=>by cases h) rfl
end
structure Env (c:Cfg) (n:Nat) (ps:Nat→List InsR):Prop where
  n16:n≤16
  cfg:CfgP c
  clk:c.clock=1000
  prog:∀ i,i < n→ProgOk c (ps i)
  cap:∀ i,i < n→CapOk c (ps i)
structure Gen (c:Cfg) (n:Nat) (ps:Nat→List InsR) (M:MS) (H:Hist):Prop where
  shp:Shp c n M.C
  wf:∀ i,i < n→WF c (ps i) M.steps.length (M.th i)
  tk:TkB n M.steps.length M.C M.th
  lk:LkB c n M.C M.th
  tl:Tl c n M.C M.th H
  clkB:valC M.C 3 0≤M.steps.length
def MS.next (M:MS) (i:Nat) (C':Cells) (T':TS) (s:StR):MS:=⟨C',updT M.th i T',M.steps++[s]⟩
section
variable {c:Cfg} {n:Nat} {ps:Nat→List InsR} {M:MS} {H:Hist} {C':Cells} {T':TS} {s:StR} {i:Nat}
theorem TStep.shp {p:List InsR} {id:Int} {C:Cells} {T:TS} (hs:TStep c p id C T C' T' s) (h:Shp c n C):Shp c n C':=by
  cases hs <;> first | exact h | exact h.opC _ _ _ _
theorem TStep.clk {p:List InsR} {id:Int} {C:Cells} {T:TS} (hs:TStep c p id C T C' T' s) (h:Shp c n C) (hck:∀ ck,ckOf T.ph=some ck→ck=valC C 3 0):valC C' 3 0≤valC C 3 0 + 1:=by
  have k3:∀ (k i v:Int) (d:Bool),k ≠ 3→valC (opC C k i v d) 3 0≤valC C 3 0 + 1:=fun k i v d h=>by rw [valC_ne h];omega
  have k0:valC C 3 0≤valC C 3 0 + 1:=by omega
  cases hs with
  | stamp tk ck hq=>rw [valC_self h.h3,hck ck (by rw [hq];rfl)];exact Int.le_refl _
  | loc0=>exact k0
  | loc1=>exact k0
  | begin_=>exact k3 _ _ _ _ (by decide)
  | clock=>exact k0
  | active=>exact k3 _ _ _ _ (by decide)
  | rlog=>exact k0
  | r0ok=>exact k0
  | r0bad=>exact k0
  | r1=>exact k0
  | r2bad=>exact k0
  | r2ok=>exact k0
  | twrite=>exact k0
  | cnone=>exact k0
  | clock_=>exact k0
  | lload=>exact k0
  | lmore=>exact k3 _ _ _ _ (by decide)
  | llast=>exact k3 _ _ _ _ (by decide)
  | ticket=>exact k3 _ _ _ _ (by decide)
  | wait=>exact k0
  | mine=>exact k0
  | mine0=>exact k0
  | cmore=>exact k0
  | clast=>exact k0
  | cbad0=>exact k0
  | cbad1=>exact k0
  | dnone=>exact k0
  | dstore=>exact k0
  | wmore=>exact k3 _ _ _ _ (by decide)
  | wlast=>exact k3 _ _ _ _ (by decide)
  | rmore=>exact k3 _ _ _ _ (by decide)
  | rlast=>exact k3 _ _ _ _ (by decide)
  | pass=>exact k3 _ _ _ _ (by decide)
  | commit=>exact k3 _ _ _ _ (by decide)
  | again=>exact k3 _ _ _ _ (by decide)
  | gaveUp=>exact k3 _ _ _ _ (by decide)
theorem Gen.step (G:Gen c n ps M H) (E:Env c n ps) (hi:i < n) (hB:M.steps.length≤1000) (hs:TStep c (ps i) i M.C (M.th i) C' T' s):Gen c n ps (M.next i C' T' s) (nextH M.C (M.th i).L (M.th i).ph T'.ph H):=by
  have hl:(M.next i C' T' s).steps.length=M.steps.length + 1:=by show (M.steps++[s]).length=_;simp
  refine ⟨hs.shp G.shp,?_,?_,?_,?_,?_⟩
  · intro j hj
    rw [hl]
    refine updT_or (P:=fun T=>WF c (ps j) (M.steps.length + 1) T) (fun h=>?_) (fun _=>(G.wf j hj).mono (Nat.le_succ _))
    subst h
    exact (G.wf j hj).step E.cfg (E.prog j hj) (E.cap j hj) hs
  · rw [hl]
    exact G.tk.step hi (hs.tk G.shp (by have:=G.tk.s0;have:=G.tk.sn;have:=G.tk.nB;omega))
  · exact G.lk.step E.n16 E.cfg G.tl.ver0 hi (hs.lk E.cfg G.shp (G.wf i hi))
  · exact G.tl.step G.tk G.lk G.shp E.cfg E.n16 (fun j hj=>⟨_,_,G.wf j hj⟩) hi (E.prog i hi) (G.wf i hi) hs
  · rw [hl]
    have:=hs.clk G.shp (fun ck h=>G.tl.ckk i hi ck h)
    have:=G.clkB
    show valC C' 3 0≤_
    omega
theorem Gen.read (G:Gen c n ps M H) (E:Env c n ps) (hi:i < n) {ad bf vl:Int} (hq:(M.th i).ph = .rd2 ad bf vl) (hg:(ldA M.C 2 (ad % c.orecs)).got=bf):vl=H (M.th i).rv ad:=by
  have hr:=orec_rng E.cfg ad
  rw [ld_got (G.shp.h2 hr.1 hr.2)] at hg
  have h1:=G.tl.rd2 i hi ad bf vl hq
  rcases h1.2 with h | h
  · exact h
  · exact absurd h (not_doomed G.lk E.n16 (by rw [hg];exact h1.1.1) (by rw [hg];exact h1.1.2.1))
end
def reps (m:Nat) (l:List InsR):List InsR:=(List.replicate m l).flatten
theorem reps_succ (m:Nat) (l:List InsR):reps (m + 1) l=l++reps m l:=by unfold reps;rw [List.replicate_succ,List.flatten_cons]
theorem reps_len (m:Nat) (l:List InsR):(reps m l).length=m*l.length:=by
  induction m with
  | zero=>simp [reps]
  | succ m ih=>rw [reps_succ,List.length_append,ih,Nat.succ_mul];omega
theorem reps_at {l:List InsR} (hl:0 < l.length):∀ (m k:Nat) i,(reps m l)[k]?=some i→l[k % l.length]?=some i
  | 0,k,i,h=>by simp [reps] at h
  | m + 1,k,i,h=>by
    rw [reps_succ] at h
    rcases Nat.lt_or_ge k l.length with hk | hk
    · rw [List.getElem?_append_left hk] at h
      rw [Nat.mod_eq_of_lt hk];exact h
    · rw [List.getElem?_append_right hk] at h
      have:=reps_at hl m _ i h
      rw [Nat.mod_eq_sub_mod hk];exact this
def dPart:List InsR:=[⟨1,2,0,0,1⟩,⟨7,0,0,0,8⟩,⟨10,1,0,0,0⟩,⟨10,3,0,0,1⟩,⟨3,1,1,2,0⟩,⟨11,0,1,0,0⟩,⟨11,0,1,0,1⟩,⟨8,0,0,0,0⟩]
def dProg:List InsR:=reps 4 dPart
theorem dPart_at {k:Nat} {i:InsR} (h:dProg[k]?=some i):(k % 8=0∧i=⟨1,2,0,0,1⟩)∨(k % 8=1∧i=⟨7,0,0,0,8⟩)∨(k % 8=2∧i=⟨10,1,0,0,0⟩)∨(k % 8=3∧i=⟨10,3,0,0,1⟩)∨(k % 8=4∧i=⟨3,1,1,2,0⟩)∨(k % 8=5∧i=⟨11,0,1,0,0⟩)∨(k % 8=6∧i=⟨11,0,1,0,1⟩)∨(k % 8=7∧i=⟨8,0,0,0,0⟩):=by
  have h1:dPart[k % 8]?=some i:=reps_at (l:=dPart) (by decide) 4 k i h
  have hk:k % 8 < 8:=Nat.mod_lt _ (by decide)
  generalize k % 8=j at h1 hk ⊢
  match j,hk with
  | 0,_=>exact .inl ⟨rfl,(Option.some.inj h1).symm⟩
  | 1,_=>exact .inr (.inl ⟨rfl,(Option.some.inj h1).symm⟩)
  | 2,_=>exact .inr (.inr (.inl ⟨rfl,(Option.some.inj h1).symm⟩))
  | 3,_=>exact .inr (.inr (.inr (.inl ⟨rfl,(Option.some.inj h1).symm⟩)))
  | 4,_=>exact .inr (.inr (.inr (.inr (.inl ⟨rfl,(Option.some.inj h1).symm⟩))))
  | 5,_=>exact .inr (.inr (.inr (.inr (.inr (.inl ⟨rfl,(Option.some.inj h1).symm⟩)))))
  | 6,_=>exact .inr (.inr (.inr (.inr (.inr (.inr (.inl ⟨rfl,(Option.some.inj h1).symm⟩))))))
  | 7,_=>exact .inr (.inr (.inr (.inr (.inr (.inr (.inr ⟨rfl,(Option.some.inj h1).symm⟩))))))
def isEnd:Ph→Bool
  | .lk _ _ | .take | .wait _ | .chk _ _ | .dec _ | .wr _ _ _ | .rel _ _ _ _ | .stamp _ _=>true
  | _=>false
def atD (T:TS):Prop :=
  (T.pc.toNat % 8=2→T.L.addrs=[]∧T.sn=[])∧(T.pc.toNat % 8=3→T.L.addrs=[]∧T.sn=[0])∧(T.pc.toNat % 8=4→T.L.addrs=[])∧(T.pc.toNat % 8=5→T.L.addrs=[]) ∧
  (T.pc.toNat % 8=6→T.L.addrs=[0]∧getV T.L 0=T.regs 1)∧(T.pc.toNat % 8=7→T.L.addrs=[0,1]∧getV T.L 0=getV T.L 1)
structure PD (T:TS):Prop where
  ent:(T.ph = .ent1∨T.ph = .ent2)→T.sn=[]
  pos:phIn T.ph=true→T.ph ≠ .leave→atD T
  fin:isEnd T.ph=true→T.pc.toNat % 8=7
theorem PD.start:PD startT:=⟨fun h=>(by rcases h with h | h <;> cases h),fun h=>(by cases h),fun h=>(by cases h)⟩
theorem putL_new2 {L:PL} {a v:Int} (h0:0≤a) (ha:a ∉ L.addrs) (hl:L.addrs.length < L.cap):(putL L a v).addrs=L.addrs++[a]∧(putL L a v).vals=L.vals++[v]:=by
  unfold putL
  rw [if_neg (by omega),if_neg ha,if_pos hl]
  exact ⟨rfl,rfl⟩
section
variable {c:Cfg} {n B:Nat} {T T':TS} {id:Int} {C C':Cells} {s:StR} {th:Nat→TS} {H:Hist}
theorem PD.quiet (P:PD T) (h1:T'.pc=T.pc) (h2:T'.L=T.L) (h3:T'.sn=T.sn) (h4:T'.regs=T.regs) (h5:phIn T.ph=true) (h5b:T.ph ≠ .leave) (h6:isEnd T'.ph=true→isEnd T.ph=true) (h7:T'.ph ≠ .ent1) (h8:T'.ph ≠ .ent2):PD T':=by
  refine ⟨fun h=>?_,fun _ _=>?_,fun h=>?_⟩
  · rcases h with h | h
    · exact absurd h h7
    · exact absurd h h8
  · have:=P.pos h5 h5b
    unfold atD at this ⊢
    rw [h1,h2,h3,h4]
    exact this
  · rw [h1];exact P.fin (h6 h)
theorem pc_mod {x:Int} (h:0≤x):(x + 1).toNat=x.toNat + 1:=by omega
theorem PD.step (P:PD T) (hw:4≤clampM c.writes) (hW:WF c dProg B T) (hs:TStep c dProg id C T C' T' s):PD T':=by
  have hph:=hW.phs
  have hpc:=pc_mod hW.pc0
  cases hs with
  | loc0 i hi ho hq =>
    refine ⟨fun h=>?_,fun h=>?_,fun h=>?_⟩
    · have h:T.ph = .ent1∨T.ph = .ent2:=h
      rw [hq] at h;rcases h with h | h <;> cases h
    · have h:phIn T.ph=true:=h
      rw [hq] at h;cases h
    · have h:isEnd T.ph=true:=h
      rw [hq] at h;cases h
  | loc1 i hi ho hq =>
    have hP:=P.pos (by rw [hq];rfl) (by rw [hq];intro h;cases h)
    have hA:=dPart_at hi
    have h4:T.pc.toNat % 8=4:=by
      rcases hA with ⟨h,rfl⟩ | ⟨h,rfl⟩ | ⟨h,rfl⟩ | ⟨h,rfl⟩ | ⟨h,rfl⟩ | ⟨h,rfl⟩ | ⟨h,rfl⟩ | ⟨h,rfl⟩
      · have:=hW.plc
        rw [hq] at this
        have h2:inT dProg T.pc.toNat=true:=this
        have h3:=getElem?_lt hi
        have key:∀ k,k < 32→k % 8=0→inT dProg k=false:=by decide
        rw [key _ h3 h] at h2;cases h2
      · rcases ho with ho | ho <;> cases ho
      · rcases ho with ho | ho <;> cases ho
      · rcases ho with ho | ho <;> cases ho
      · exact h
      · rcases ho with ho | ho <;> cases ho
      · rcases ho with ho | ho <;> cases ho
      · rcases ho with ho | ho <;> cases ho
    refine ⟨fun h=>?_,fun _ _=>?_,fun h=>?_⟩
    · have h:T.ph = .ent1∨T.ph = .ent2:=h
      rw [hq] at h;rcases h with h | h <;> cases h
    · have hL:=hP.2.2.1 h4
      unfold atD
      show ((T.pc + 1).toNat % 8=2→_)∧((T.pc + 1).toNat % 8=3→_)∧((T.pc + 1).toNat % 8=4→_)∧((T.pc + 1).toNat % 8=5→T.L.addrs=[])∧((T.pc + 1).toNat % 8=6→_)∧((T.pc + 1).toNat % 8=7→_)
      rw [hpc]
      exact ⟨fun h=>by omega,fun h=>by omega,fun h=>by omega,fun h=>hL,fun h=>by omega,fun h=>by omega⟩
    · have h:isEnd T.ph=true:=h
      rw [hq] at h;cases h
  | begin_ i hi ho hq=>exact ⟨fun _=>rfl,fun h=>(by cases h),fun h=>by cases h⟩
  | clock hq=>exact ⟨fun _=>P.ent (.inl hq),fun h=>(by cases h),fun h=>by cases h⟩
  | active hq =>
    rw [hq] at hph
    obtain ⟨_,i,hi,h7⟩:=hW.bg (by rw [hq];intro h;cases h)
    rw [← hph.1] at hi
    have h1:T.pc.toNat % 8=1:=by
      rcases dPart_at hi with ⟨h,rfl⟩ | ⟨h,rfl⟩ | ⟨h,rfl⟩ | ⟨h,rfl⟩ | ⟨h,rfl⟩ | ⟨h,rfl⟩ | ⟨h,rfl⟩ | ⟨h,rfl⟩ <;> first | exact h | cases h7
    refine ⟨fun h=>(by rcases h with h | h <;> cases h),fun _ _=>?_,fun h=>by cases h⟩
    unfold atD
    show ((T.pc + 1).toNat % 8=2→T.L.addrs=[]∧T.sn=[])∧((T.pc + 1).toNat % 8=3→_)∧((T.pc + 1).toNat % 8=4→_)∧((T.pc + 1).toNat % 8=5→_)∧((T.pc + 1).toNat % 8=6→_)∧((T.pc + 1).toNat % 8=7→_)
    rw [hpc]
    exact ⟨fun h=>⟨hph.2.2.1,P.ent (.inr hq)⟩,fun h=>by omega,fun h=>by omega,fun h=>by omega,fun h=>by omega,fun h=>by omega⟩
  | rlog i hi ho hq hg =>
    have hP:=P.pos (by rw [hq];rfl) (by rw [hq];intro h;cases h)
    exfalso
    have hL:T.L.addrs=[]:=by
      rcases dPart_at hi with ⟨h,rfl⟩ | ⟨h,rfl⟩ | ⟨h,rfl⟩ | ⟨h,rfl⟩ | ⟨h,rfl⟩ | ⟨h,rfl⟩ | ⟨h,rfl⟩ | ⟨h,rfl⟩ <;> first | exact (hP.1 h).1 | exact (hP.2.1 h).1 | cases ho
    unfold getOk at hg
    rw [hL] at hg
    simp at hg
  | r0ok i o hi ho hq hg hor h64 hv=>exact P.quiet rfl rfl rfl rfl (by rw [hq];rfl) (by rw [hq];intro h;cases h) (fun h=>by cases h) (fun h=>by cases h) (fun h=>by cases h)
  | r0bad i o hi ho hq hg hor hbad=>exact ⟨fun h=>(by rcases h with h | h <;> cases h),fun _ h=>absurd rfl h,fun h=>by cases h⟩
  | r1 ad bf hq=>exact P.quiet rfl rfl rfl rfl (by rw [hq];rfl) (by rw [hq];intro h;cases h) (fun h=>by cases h) (fun h=>by cases h) (fun h=>by cases h)
  | r2bad ad bf vl hq hbad=>exact ⟨fun h=>(by rcases h with h | h <;> cases h),fun _ h=>absurd rfl h,fun h=>by cases h⟩
  | r2ok ad bf vl i hi ho had hq hgot =>
    have hP:=P.pos (by rw [hq];rfl) (by rw [hq];intro h;cases h)
    refine ⟨fun h=>(by rcases h with h | h <;> cases h),fun _ _=>?_,fun h=>by cases h⟩
    unfold atD
    show ((T.pc + 1).toNat % 8=2→_)∧((T.pc + 1).toNat % 8=3→T.L.addrs=[]∧addSn T.sn ad=[0])∧((T.pc + 1).toNat % 8=4→T.L.addrs=[])∧((T.pc + 1).toNat % 8=5→_)∧((T.pc + 1).toNat % 8=6→_)∧((T.pc + 1).toNat % 8=7→_)
    rw [hpc]
    rcases dPart_at hi with ⟨h,rfl⟩ | ⟨h,rfl⟩ | ⟨h,rfl⟩ | ⟨h,rfl⟩ | ⟨h,rfl⟩ | ⟨h,rfl⟩ | ⟨h,rfl⟩ | ⟨h,rfl⟩
    · cases ho
    · cases ho
    · have h2:=hP.1 h
      refine ⟨fun h=>by omega,fun _=>⟨h2.1,?_⟩,fun h=>by omega,fun h=>by omega,fun h=>by omega,fun h=>by omega⟩
      rw [h2.2,← had];rfl
    · have h2:=hP.2.1 h
      exact ⟨fun h=>by omega,fun h=>by omega,fun h=>h2.1,fun h=>by omega,fun h=>by omega,fun h=>by omega⟩
    · cases ho
    · cases ho
    · cases ho
    · cases ho
  | twrite i hi ho hq =>
    have hP:=P.pos (by rw [hq];rfl) (by rw [hq];intro h;cases h)
    have hcap:=hW.cap (by rw [hq];intro h;cases h)
    refine ⟨fun h=>?_,fun _ _=>?_,fun h=>?_⟩
    · have h:T.ph = .ent1∨T.ph = .ent2:=h
      rw [hq] at h;rcases h with h | h <;> cases h
    · unfold atD
      show ((T.pc + 1).toNat % 8=2→_)∧((T.pc + 1).toNat % 8=3→_)∧((T.pc + 1).toNat % 8=4→_)∧((T.pc + 1).toNat % 8=5→_)∧((T.pc + 1).toNat % 8=6→(putL T.L i.imm (T.regs i.b.toNat)).addrs=[0]∧getV (putL T.L i.imm (T.regs i.b.toNat)) 0=T.regs 1)∧((T.pc + 1).toNat % 8=7→(putL T.L i.imm (T.regs i.b.toNat)).addrs=[0,1]∧getV (putL T.L i.imm (T.regs i.b.toNat)) 0=getV (putL T.L i.imm (T.regs i.b.toNat)) 1)
      rw [hpc]
      rcases dPart_at hi with ⟨h,rfl⟩ | ⟨h,rfl⟩ | ⟨h,rfl⟩ | ⟨h,rfl⟩ | ⟨h,rfl⟩ | ⟨h,rfl⟩ | ⟨h,rfl⟩ | ⟨h,rfl⟩
      · cases ho
      · cases ho
      · cases ho
      · cases ho
      · cases ho
      · have h2:=hP.2.2.2.1 h
        have h3:=putL_new2 (L:=T.L) (a:=0) (v:=T.regs 1) (Int.le_refl 0) (by rw [h2];simp) (by rw [h2,hcap];show 0 < clampM c.writes;omega)
        have hv:T.L.vals=[]:=by have:=hW.inv.vlen;rw [h2] at this;exact List.length_eq_zero_iff.1 this
        rw [h2,hv] at h3
        refine ⟨fun h=>by omega,fun h=>by omega,fun h=>by omega,fun h=>by omega,fun _=>⟨h3.1,?_⟩,fun h=>by omega⟩
        unfold getV
        show (if (0:Int) ∈ (putL T.L 0 (T.regs 1)).addrs then (putL T.L 0 (T.regs 1)).vals.getD ((putL T.L 0 (T.regs 1)).addrs.idxOf 0) 0 else 0)=_
        rw [h3.1,h3.2];rfl
      · have h2:=hP.2.2.2.2.1 h
        have h3:=putL_new2 (L:=T.L) (a:=1) (v:=T.regs 1) (by decide) (by rw [h2.1];decide) (by rw [h2.1,hcap];show 1 < clampM c.writes;omega)
        obtain ⟨v,hv⟩:∃ v,T.L.vals=[v]:=List.length_eq_one_iff.1 (by have:=hW.inv.vlen;rw [h2.1] at this;exact this)
        rw [h2.1,hv] at h3
        have h4:v=T.regs 1:=by
          have:=h2.2
          unfold getV at this
          rw [h2.1,hv] at this
          exact this
        refine ⟨fun h=>by omega,fun h=>by omega,fun h=>by omega,fun h=>by omega,fun h=>by omega,fun _=>⟨h3.1,?_⟩⟩
        unfold getV
        show (if (0:Int) ∈ (putL T.L 1 (T.regs 1)).addrs then (putL T.L 1 (T.regs 1)).vals.getD ((putL T.L 1 (T.regs 1)).addrs.idxOf 0) 0 else 0)=(if (1:Int) ∈ (putL T.L 1 (T.regs 1)).addrs then (putL T.L 1 (T.regs 1)).vals.getD ((putL T.L 1 (T.regs 1)).addrs.idxOf 1) 0 else 0)
        rw [h3.1,h3.2,h4];rfl
      · cases ho
    · have h:isEnd T.ph=true:=h
      rw [hq] at h;cases h
  | cnone i hi ho hq hL =>
    have hP:=P.pos (by rw [hq];rfl) (by rw [hq];intro h;cases h)
    have h1:T.pc.toNat % 8=7:=by
      rcases dPart_at hi with ⟨h,rfl⟩ | ⟨h,rfl⟩ | ⟨h,rfl⟩ | ⟨h,rfl⟩ | ⟨h,rfl⟩ | ⟨h,rfl⟩ | ⟨h,rfl⟩ | ⟨h,rfl⟩ <;> first | exact h | cases ho
    exact ⟨fun h=>(by rcases h with h | h <;> cases h),fun _ _=>hP,fun _=>h1⟩
  | clock_ i hi ho hq hL =>
    have hP:=P.pos (by rw [hq];rfl) (by rw [hq];intro h;cases h)
    have h1:T.pc.toNat % 8=7:=by
      rcases dPart_at hi with ⟨h,rfl⟩ | ⟨h,rfl⟩ | ⟨h,rfl⟩ | ⟨h,rfl⟩ | ⟨h,rfl⟩ | ⟨h,rfl⟩ | ⟨h,rfl⟩ | ⟨h,rfl⟩ <;> first | exact h | cases ho
    exact ⟨fun h=>(by rcases h with h | h <;> cases h),fun _ _=>hP,fun _=>h1⟩
  | lload sn o hq ho=>exact P.quiet rfl rfl rfl rfl (by rw [hq];rfl) (by rw [hq];intro h;cases h) (fun _=>by rw [hq];rfl) (fun h=>by cases h) (fun h=>by cases h)
  | lmore sn o a old2 hq ho ha hold hne=>exact P.quiet rfl rfl rfl rfl (by rw [hq];rfl) (by rw [hq];intro h;cases h) (fun _=>by rw [hq];rfl) (fun h=>by cases h) (fun h=>by cases h)
  | llast sn o a old2 hq ho ha hold hne=>exact P.quiet rfl rfl rfl rfl (by rw [hq];rfl) (by rw [hq];intro h;cases h) (fun _=>by rw [hq];rfl) (fun h=>by cases h) (fun h=>by cases h)
  | ticket hq=>exact P.quiet rfl rfl rfl rfl (by rw [hq];rfl) (by rw [hq];intro h;cases h) (fun _=>by rw [hq];rfl) (fun h=>by cases h) (fun h=>by cases h)
  | wait tk hq hw=>exact P
  | mine tk hq hw hS=>exact P.quiet rfl rfl rfl rfl (by rw [hq];rfl) (by rw [hq];intro h;cases h) (fun _=>by rw [hq];rfl) (fun h=>by cases h) (fun h=>by cases h)
  | mine0 tk hq hw hS=>exact P.quiet rfl rfl rfl rfl (by rw [hq];rfl) (by rw [hq];intro h;cases h) (fun _=>by rw [hq];rfl) (fun h=>by cases h) (fun h=>by cases h)
  | cmore tk z zs hq hv hzs=>exact P.quiet rfl rfl rfl rfl (by rw [hq];rfl) (by rw [hq];intro h;cases h) (fun _=>by rw [hq];rfl) (fun h=>by cases h) (fun h=>by cases h)
  | clast tk z hq hv=>exact P.quiet rfl rfl rfl rfl (by rw [hq];rfl) (by rw [hq];intro h;cases h) (fun _=>by rw [hq];rfl) (fun h=>by cases h) (fun h=>by cases h)
  | cbad0 tk z zs hq hv hL=>exact P.quiet rfl rfl rfl rfl (by rw [hq];rfl) (by rw [hq];intro h;cases h) (fun _=>by rw [hq];rfl) (fun h=>by cases h) (fun h=>by cases h)
  | cbad1 tk z zs hq hv hL=>exact P.quiet rfl rfl rfl rfl (by rw [hq];rfl) (by rw [hq];intro h;cases h) (fun _=>by rw [hq];rfl) (fun h=>by cases h) (fun h=>by cases h)
  | dnone tk hq hL=>exact P.quiet rfl rfl rfl rfl (by rw [hq];rfl) (by rw [hq];intro h;cases h) (fun _=>by rw [hq];rfl) (fun h=>by cases h) (fun h=>by cases h)
  | dstore tk hq hL hk=>exact P.quiet rfl rfl rfl rfl (by rw [hq];rfl) (by rw [hq];intro h;cases h) (fun _=>by rw [hq];rfl) (fun h=>by cases h) (fun h=>by cases h)
  | wmore tk ck k z v hq hz hv hk=>exact P.quiet rfl rfl rfl rfl (by rw [hq];rfl) (by rw [hq];intro h;cases h) (fun _=>by rw [hq];rfl) (fun h=>by cases h) (fun h=>by cases h)
  | wlast tk ck k z v hq hz hv hk=>exact P.quiet rfl rfl rfl rfl (by rw [hq];rfl) (by rw [hq];intro h;cases h) (fun _=>by rw [hq];rfl) (fun h=>by cases h) (fun h=>by cases h)
  | rmore tk ck k st z v hq hz hv hk=>exact P.quiet rfl rfl rfl rfl (by rw [hq];rfl) (by rw [hq];intro h;cases h) (fun _=>by rw [hq];rfl) (fun h=>by cases h) (fun h=>by cases h)
  | rlast tk ck k st z v hq hz hv hk =>
    cases st with
    | true=>exact P.quiet rfl rfl rfl rfl (by rw [hq];rfl) (by rw [hq];intro h;cases h) (fun _=>by rw [hq];rfl) (fun h=>by cases h) (fun h=>by cases h)
    | false=>exact P.quiet rfl rfl rfl rfl (by rw [hq];rfl) (by rw [hq];intro h;cases h) (fun _=>by rw [hq];rfl) (fun h=>by cases h) (fun h=>by cases h)
  | stamp tk ck hq=>exact P.quiet rfl rfl rfl rfl (by rw [hq];rfl) (by rw [hq];intro h;cases h) (fun _=>by rw [hq];rfl) (fun h=>by cases h) (fun h=>by cases h)
  | pass tk hq=>exact ⟨fun h=>(by rcases h with h | h <;> cases h),fun _ h=>absurd rfl h,fun h=>by cases h⟩
  | commit hq hcd=>exact ⟨fun h=>(by rcases h with h | h <;> cases h),fun h=>(by cases h),fun h=>by cases h⟩
  | again i hq hcd hi hlt=>exact ⟨fun h=>(by rcases h with h | h <;> cases h),fun h=>(by cases h),fun h=>by cases h⟩
  | gaveUp i hq hcd hi hlt=>exact ⟨fun h=>(by rcases h with h | h <;> cases h),fun h=>(by cases h),fun h=>by cases h⟩
end
structure MonD where
  first:Nat→Int
  number:Nat→Int
  loaded:Nat→Int
  orec:Nat→Int
def upI (f:Nat→Int) (i:Nat) (v:Int):Nat→Int:=fun j=>if j=i then v else f j
theorem upI_self {f:Nat→Int} {i:Nat} {v:Int}:upI f i v i=v:=if_pos rfl
theorem upI_ne {f:Nat→Int} {i j:Nat} {v:Int} (h:j ≠ i):upI f i v j=f j:=if_neg h
def mon0:MonD:=⟨fun _=>0,fun _=>0,fun _=>0,fun _=>0⟩
def monD (n:Nat) (m:MonD) (x:StR):Option MonD :=
  let t:=x.th.toNat
  if x.th < 0∨(n:Int)≤x.th then none
  else if x.phase=5 then some { m with orec:=upI m.orec t x.acc.got }
  else if x.phase=6 then (if x.acc.index=1∧m.number t ≠ x.att then none else some { m with loaded:=upI m.loaded t x.acc.got })
  else if x.phase=7 then
    (if x.acc.got ≠ m.orec t then some m
     else if m.number t ≠ x.att then some { m with number:=upI m.number t x.att,first:=upI m.first t (m.loaded t) }
     else if m.loaded t ≠ m.first t then none else some m)
  else some m
def monsD (n:Nat):MonD→List StR→Option MonD
  | m,[]=>some m
  | m,x :: xs=>match monD n m x with | none=>none | some m'=>monsD n m' xs
theorem monsD_snoc {n:Nat} {x:StR}:∀ {xs:List StR} {m m':MonD},monsD n m xs=some m'→monsD n m (xs++[x])=monD n m' x
  | [],m,m',h=>by
    have:m=m':=Option.some.inj h
    subst this
    show (match monD n m x with | none=>none | some m'=>some m')=_
    cases monD n m x <;> rfl
  | y :: xs,m,m',h=>by
    show (match monD n m y with | none=>none | some m'=>monsD n m' (xs++[x]))=_
    have h:(match monD n m y with | none=>none | some m'=>monsD n m' xs)=some m':=h
    cases hy:monD n m y with
    | none=>rw [hy] at h;cases h
    | some m2=>rw [hy] at h;exact monsD_snoc h
structure MT (T:TS) (H:Hist) (number first loaded orec:Int):Prop where
  nl:number≤T.count
  n1:T.ph ≠ .none→T.count=number→0 ∈ T.sn∧first=H T.rv 0
  n2:T.ph ≠ .none→0 ∈ T.sn→T.count=number
  r1:∀ ad bf,T.ph = .rd1 ad bf→orec=bf
  r2:∀ ad bf vl,T.ph = .rd2 ad bf vl→orec=bf∧loaded=vl
structure ID (c:Cfg) (n:Nat) (M:MS) (H:Hist) (m:MonD):Prop where
  gen:Gen c n (fun _=>dProg) M H
  pd:∀ i,i < n→PD (M.th i)
  eq:∀ u,0≤u→u≤valC M.C 3 0→H u 0=H u 1
  mt:∀ i,i < n→MT (M.th i) H (m.number i) (m.first i) (m.loaded i) (m.orec i)
  run:monsD n mon0 M.steps=some m
section
variable {c:Cfg} {n B:Nat} {T T':TS} {id:Int} {C C':Cells} {s:StR} {th:Nat→TS} {H H':Hist} {M:MS} {m:MonD} {i:Nat}
theorem nextH_le {L:PL} {q q':Ph} {u:Int} (h:u≤valC C 3 0):nextH C L q q' H u=H u:=by
  unfold nextH
  split
  · exact over2_le h
  · rfl
theorem MT.hist {nu fi lo oc:Int} (X:MT T H nu fi lo oc) (h:T.ph ≠ .none→T.count=nu→H' T.rv=H T.rv):MT T H' nu fi lo oc:=by
  refine ⟨X.nl,fun h1 h2=>?_,X.n2,X.r1,X.r2⟩
  rw [h h1 h2];exact X.n1 h1 h2
theorem MT.quiet {nu fi lo oc lo' oc':Int} (X:MT T H nu fi lo oc) (h1:T'.count=T.count) (h2:T'.sn=T.sn) (h3:T'.rv=T.rv) (h4:T'.ph ≠ .none→T.ph ≠ .none) (h5:∀ ad bf,T'.ph = .rd1 ad bf→oc'=bf) (h6:∀ ad bf vl,T'.ph = .rd2 ad bf vl→oc'=bf∧lo'=vl):MT T' H nu fi lo' oc':=by
  refine ⟨by rw [h1];exact X.nl,fun a b=>?_,fun a b=>?_,h5,h6⟩
  · rw [h2,h3];rw [h1] at b;exact X.n1 (h4 a) b
  · rw [h1];rw [h2] at b;exact X.n2 (h4 a) b
def seenPh (p:Int):Bool:=p == 5 || p == 6 || p == 7
theorem monD_other (h0:0≤s.th) (h1:s.th < n) (hp:seenPh s.phase=false):monD n m s=some m:=by
  unfold seenPh at hp
  unfold monD
  simp only [Bool.or_eq_false_iff,beq_eq_false_iff_ne,ne_eq] at hp
  rw [if_neg (by omega),if_neg hp.1.1,if_neg hp.1.2,if_neg hp.2]
inductive MEff (c:Cfg) (n:Nat) (i:Nat) (m:MonD) (T':TS) (H':Hist) (s:StR):Prop
  | mk (nu fi lo oc:Int):monD n m s=some ⟨upI m.first i fi,upI m.number i nu,upI m.loaded i lo,upI m.orec i oc⟩→MT T' H' nu fi lo oc→MEff c n i m T' H' s
theorem upI_same (f:Nat→Int) (i:Nat):upI f i (f i)=f:=by
  funext j
  unfold upI
  split
  · rename_i h;rw [h]
  · rfl
theorem MEff.other (hi:i < n) (hs:s.th=i) (hp:seenPh s.phase=false) (X:MT T' H' (m.number i) (m.first i) (m.loaded i) (m.orec i)):MEff c n i m T' H' s:=by
  refine ⟨m.number i,m.first i,m.loaded i,m.orec i,?_,X⟩
  rw [monD_other (by rw [hs];exact Int.natCast_nonneg i) (by rw [hs];omega) hp]
  simp only [upI_same]
theorem ID.eff (I:ID c n M H m) (E:Env c n (fun _=>dProg)) (hcw:c.words=2) (hi:i < n) (hs:TStep c dProg i M.C (M.th i) C' T' s):MEff c n i m T' H s:=by
  have X:=I.mt i hi
  have P:=I.pd i hi
  have G:=I.gen
  have W:=G.wf i hi
  have hph:=W.phs
  have hti:((i:Int)).toNat=i:=by omega
  have n0:¬ ((i:Int) < 0∨(n:Int)≤(i:Int)):=by omega
  cases hs with
  | loc0 j hj ho hq=>exact .other hi rfl rfl (X.quiet rfl rfl rfl (fun h=>h) (fun ad bf h=>X.r1 ad bf h) (fun ad bf vl h=>X.r2 ad bf vl h))
  | loc1 j hj ho hq=>exact .other hi rfl rfl (X.quiet rfl rfl rfl (fun h=>h) (fun ad bf h=>X.r1 ad bf h) (fun ad bf vl h=>X.r2 ad bf vl h))
  | begin_ j hj ho hq =>
    refine .other hi rfl rfl ⟨?_,fun _ h=>?_,fun _ h=>(by cases h),fun ad bf h=>(by cases h),fun ad bf vl h=>(by cases h)⟩
    · have:=X.nl;show _≤(M.th i).count + 1;omega
    · have:=X.nl;have h:(M.th i).count + 1=m.number i:=h;omega
  | clock hq =>
    have hn:(M.th i).ph ≠ .none:=by rw [hq];intro h;cases h
    have hsn:=P.ent (.inl hq)
    refine .other hi rfl rfl ⟨X.nl,fun _ h=>?_,fun _ h=>?_,fun ad bf h=>(by cases h),fun ad bf vl h=>(by cases h)⟩
    · have:=(X.n1 hn h).1
      rw [hsn] at this;cases this
    · have h:0 ∈ (M.th i).sn:=h
      rw [hsn] at h;cases h
  | active hq=>exact .other hi rfl rfl (X.quiet rfl rfl rfl (fun h=>by rw [hq];intro h;cases h) (fun ad bf h=>by cases h) (fun ad bf vl h=>by cases h))
  | rlog j hj ho hq hg=>exact .other hi rfl rfl (X.quiet rfl rfl rfl (fun h=>by rw [hq];intro h;cases h) (fun ad bf h=>by cases h) (fun ad bf vl h=>by cases h))
  | r0ok j o hj ho hq hg hor h64 hv =>
    refine ⟨m.number i,m.first i,m.loaded i,(ldA M.C 2 o).got,?_,X.quiet rfl rfl rfl (fun h=>by rw [hq];intro h;cases h) (fun ad bf h=>?_) (fun ad bf vl h=>by cases h)⟩
    · show (if _ then _ else if (5:Int)=5 then some { m with orec:=upI m.orec (i:Int).toNat (ldA M.C 2 o).got } else _)=_
      rw [if_neg n0,if_pos rfl,hti]
      simp only [upI_same]
    · cases h;rfl
  | r0bad j o hj ho hq hg hor hbad =>
    refine ⟨m.number i,m.first i,m.loaded i,(ldA M.C 2 o).got,?_,X.quiet rfl rfl rfl (fun h=>by rw [hq];intro h;cases h) (fun ad bf h=>by cases h) (fun ad bf vl h=>by cases h)⟩
    show (if _ then _ else if (5:Int)=5 then some { m with orec:=upI m.orec (i:Int).toNat (ldA M.C 2 o).got } else _)=_
    rw [if_neg n0,if_pos rfl,hti]
    simp only [upI_same]
  | r1 ad bf hq =>
    have hn:(M.th i).ph ≠ .none:=by rw [hq];intro h;cases h
    have hP:=P.pos (by rw [hq];rfl) (by rw [hq];intro h;cases h)
    rw [hq] at hph
    obtain ⟨_,_,j,hj,ho,had⟩:=hph
    have hr:=G.tl.rd1 i hi ad bf hq
    refine ⟨m.number i,m.first i,(ldA M.C 1 ad).got,m.orec i,?_,X.quiet rfl rfl rfl (fun h=>hn) (fun ad bf h=>by cases h) (fun ad2 bf2 vl h=>?_)⟩
    · show (if _ then _ else if (6:Int)=5 then _ else if (6:Int)=6 then (if (ldA M.C 1 ad).index=1∧m.number (i:Int).toNat ≠ (M.th i).count then none else some { m with loaded:=upI m.loaded (i:Int).toNat (ldA M.C 1 ad).got }) else _)=_
      rw [if_neg n0,if_neg (by decide),if_pos rfl,hti]
      rw [if_neg,show ({ m with loaded:=upI m.loaded i (ldA M.C 1 ad).got }:MonD)=⟨upI m.first i (m.first i),upI m.number i (m.number i),upI m.loaded i (ldA M.C 1 ad).got,upI m.orec i (m.orec i)⟩ by simp only [upI_same]]
      rintro ⟨h1,h2⟩
      rw [show (ldA M.C 1 ad).index=ad from opA_index (G.shp.h1 hr.2.2.1 hr.2.2.2) 1] at h1
      rcases dPart_at hj with ⟨h,rfl⟩ | ⟨h,rfl⟩ | ⟨h,rfl⟩ | ⟨h,rfl⟩ | ⟨h,rfl⟩ | ⟨h,rfl⟩ | ⟨h,rfl⟩ | ⟨h,rfl⟩
      · cases ho
      · cases ho
      · rw [← had] at h1;cases h1
      · have h3:=(hP.2.1 h).2
        exact h2 (X.n2 hn (by rw [h3];simp)).symm
      · cases ho
      · cases ho
      · cases ho
      · cases ho
    · cases h
      exact ⟨X.r1 ad bf hq,rfl⟩
  | r2bad ad bf vl hq hbad =>
    have hn:(M.th i).ph ≠ .none:=by rw [hq];intro h;cases h
    have h2:=X.r2 ad bf vl hq
    refine ⟨m.number i,m.first i,m.loaded i,m.orec i,?_,X.quiet rfl rfl rfl (fun h=>hn) (fun ad bf h=>by cases h) (fun ad bf vl h=>by cases h)⟩
    show (if _ then _ else if (7:Int)=5 then _ else if (7:Int)=6 then _ else if (7:Int)=7 then (if (ldA M.C 2 (ad % c.orecs)).got ≠ m.orec (i:Int).toNat then some m else _) else _)=_
    rw [if_neg n0,if_neg (by decide),if_neg (by decide),if_pos rfl,hti,if_pos (by rw [h2.1];exact hbad)]
    simp only [upI_same]
  | r2ok ad bf vl j hj ho had hq hgot =>
    have hn:(M.th i).ph ≠ .none:=by rw [hq];intro h;cases h
    have h2:=X.r2 ad bf vl hq
    have hP:=P.pos (by rw [hq];rfl) (by rw [hq];intro h;cases h)
    have hrd:=G.read E hi hq hgot
    have hrv:=G.tl.rvs i hi (by rw [hq];rfl)
    have hgo:¬ (ldA M.C 2 (ad % c.orecs)).got ≠ m.orec i:=by rw [h2.1,hgot];simp
    have hsteps:∀ r:Option MonD,(if m.number i ≠ (M.th i).count then some { m with number:=upI m.number i (M.th i).count,first:=upI m.first i (m.loaded i) } else if m.loaded i ≠ m.first i then none else some m)=r→monD n m ⟨i,7,(M.th i).count,ldA M.C 2 (ad % c.orecs)⟩=r:=by
      intro r hr
      show (if _ then _ else if (7:Int)=5 then _ else if (7:Int)=6 then _ else if (7:Int)=7 then (if (ldA M.C 2 (ad % c.orecs)).got ≠ m.orec (i:Int).toNat then some m else if m.number (i:Int).toNat ≠ (M.th i).count then some { m with number:=upI m.number (i:Int).toNat (M.th i).count,first:=upI m.first (i:Int).toNat (m.loaded (i:Int).toNat) } else if m.loaded (i:Int).toNat ≠ m.first (i:Int).toNat then none else some m) else _)=r
      rw [if_neg n0,if_neg (by decide),if_neg (by decide),if_pos rfl,hti,if_neg hgo]
      exact hr
    rcases dPart_at hj with ⟨h,rfl⟩ | ⟨h,rfl⟩ | ⟨h,rfl⟩ | ⟨h,rfl⟩ | ⟨h,rfl⟩ | ⟨h,rfl⟩ | ⟨h,rfl⟩ | ⟨h,rfl⟩
    · cases ho
    · cases ho
    · have h3:=(hP.1 h).2
      have had:(0:Int)=ad:=had
      subst had
      have hne:m.number i ≠ (M.th i).count:=by
        intro he
        have:=(X.n1 hn he.symm).1
        rw [h3] at this;cases this
      refine ⟨(M.th i).count,m.loaded i,m.loaded i,m.orec i,hsteps _ ?_,⟨Int.le_refl _,fun _ _=>⟨?_,?_⟩,fun _ _=>rfl,fun ad bf h=>(by cases h),fun ad bf vl h=>(by cases h)⟩⟩
      · rw [if_pos hne]
        simp only [upI_same]
      · show (0:Int) ∈ addSn (M.th i).sn 0
        rw [h3];decide
      · rw [h2.2];exact hrd
    · have h3:=(hP.2.1 h).2
      have had:(1:Int)=ad:=had
      subst had
      have h0:(0:Int) ∈ (M.th i).sn:=by rw [h3];simp
      have he:=X.n2 hn h0
      have hf:=(X.n1 hn he).2
      refine ⟨m.number i,m.first i,m.loaded i,m.orec i,hsteps _ ?_,⟨X.nl,fun _ _=>⟨?_,hf⟩,fun _ _=>he,fun ad bf h=>(by cases h),fun ad bf vl h=>(by cases h)⟩⟩
      · rw [if_neg (by rw [he];simp),if_neg (by rw [h2.2,hf,hrd,I.eq _ hrv.1 hrv.2];simp)]
        simp only [upI_same]
      · show (0:Int) ∈ addSn (M.th i).sn 1
        rw [h3];decide
    · cases ho
    · cases ho
    · cases ho
    · cases ho
  | twrite j hj ho hq=>exact .other hi rfl rfl (X.quiet rfl rfl rfl (fun h=>h) (fun ad bf h=>X.r1 ad bf h) (fun ad bf vl h=>X.r2 ad bf vl h))
  | cnone j hj ho hq hL=>exact .other hi rfl rfl (X.quiet rfl rfl rfl (fun h=>by rw [hq];intro h;cases h) (fun ad bf h=>by cases h) (fun ad bf vl h=>by cases h))
  | clock_ j hj ho hq hL=>exact .other hi rfl rfl (X.quiet rfl rfl rfl (fun h=>by rw [hq];intro h;cases h) (fun ad bf h=>by cases h) (fun ad bf vl h=>by cases h))
  | lload sn o hq ho=>exact .other hi rfl rfl (X.quiet rfl rfl rfl (fun h=>by rw [hq];intro h;cases h) (fun ad bf h=>by cases h) (fun ad bf vl h=>by cases h))
  | lmore sn o a old2 hq ho ha hold hne=>exact .other hi rfl rfl (X.quiet rfl rfl rfl (fun h=>by rw [hq];intro h;cases h) (fun ad bf h=>by cases h) (fun ad bf vl h=>by cases h))
  | llast sn o a old2 hq ho ha hold hne=>exact .other hi rfl rfl (X.quiet rfl rfl rfl (fun h=>by rw [hq];intro h;cases h) (fun ad bf h=>by cases h) (fun ad bf vl h=>by cases h))
  | ticket hq=>exact .other hi rfl rfl (X.quiet rfl rfl rfl (fun h=>by rw [hq];intro h;cases h) (fun ad bf h=>by cases h) (fun ad bf vl h=>by cases h))
  | wait tk hq hw=>exact .other hi rfl rfl X
  | mine tk hq hw hS=>exact .other hi rfl rfl (X.quiet rfl rfl rfl (fun h=>by rw [hq];intro h;cases h) (fun ad bf h=>by cases h) (fun ad bf vl h=>by cases h))
  | mine0 tk hq hw hS=>exact .other hi rfl rfl (X.quiet rfl rfl rfl (fun h=>by rw [hq];intro h;cases h) (fun ad bf h=>by cases h) (fun ad bf vl h=>by cases h))
  | cmore tk z zs hq hv hzs=>exact .other hi rfl rfl (X.quiet rfl rfl rfl (fun h=>by rw [hq];intro h;cases h) (fun ad bf h=>by cases h) (fun ad bf vl h=>by cases h))
  | clast tk z hq hv=>exact .other hi rfl rfl (X.quiet rfl rfl rfl (fun h=>by rw [hq];intro h;cases h) (fun ad bf h=>by cases h) (fun ad bf vl h=>by cases h))
  | cbad0 tk z zs hq hv hL=>exact .other hi rfl rfl (X.quiet rfl rfl rfl (fun h=>by rw [hq];intro h;cases h) (fun ad bf h=>by cases h) (fun ad bf vl h=>by cases h))
  | cbad1 tk z zs hq hv hL=>exact .other hi rfl rfl (X.quiet rfl rfl rfl (fun h=>by rw [hq];intro h;cases h) (fun ad bf h=>by cases h) (fun ad bf vl h=>by cases h))
  | dnone tk hq hL=>exact .other hi rfl rfl (X.quiet rfl rfl rfl (fun h=>by rw [hq];intro h;cases h) (fun ad bf h=>by cases h) (fun ad bf vl h=>by cases h))
  | dstore tk hq hL hk=>exact .other hi rfl rfl (X.quiet rfl rfl rfl (fun h=>by rw [hq];intro h;cases h) (fun ad bf h=>by cases h) (fun ad bf vl h=>by cases h))
  | wmore tk ck k z v hq hz hv hk=>exact .other hi rfl rfl (X.quiet rfl rfl rfl (fun h=>by rw [hq];intro h;cases h) (fun ad bf h=>by cases h) (fun ad bf vl h=>by cases h))
  | wlast tk ck k z v hq hz hv hk=>exact .other hi rfl rfl (X.quiet rfl rfl rfl (fun h=>by rw [hq];intro h;cases h) (fun ad bf h=>by cases h) (fun ad bf vl h=>by cases h))
  | rmore tk ck k st z v hq hz hv hk=>exact .other hi rfl rfl (X.quiet rfl rfl rfl (fun h=>by rw [hq];intro h;cases h) (fun ad bf h=>by cases h) (fun ad bf vl h=>by cases h))
  | rlast tk ck k st z v hq hz hv hk =>
    cases st with
    | true=>exact .other hi rfl rfl (X.quiet rfl rfl rfl (fun h=>by rw [hq];intro h;cases h) (fun ad bf h=>by cases h) (fun ad bf vl h=>by cases h))
    | false=>exact .other hi rfl rfl (X.quiet rfl rfl rfl (fun h=>by rw [hq];intro h;cases h) (fun ad bf h=>by cases h) (fun ad bf vl h=>by cases h))
  | stamp tk ck hq=>exact .other hi rfl rfl (X.quiet rfl rfl rfl (fun h=>by rw [hq];intro h;cases h) (fun ad bf h=>by cases h) (fun ad bf vl h=>by cases h))
  | pass tk hq=>exact .other hi rfl rfl (X.quiet rfl rfl rfl (fun h=>by rw [hq];intro h;cases h) (fun ad bf h=>by cases h) (fun ad bf vl h=>by cases h))
  | commit hq hcd=>exact .other hi rfl rfl (X.quiet rfl rfl rfl (fun h=>by rw [hq];intro h;cases h) (fun ad bf h=>by cases h) (fun ad bf vl h=>by cases h))
  | again j hq hcd hj hlt=>exact .other hi rfl rfl (X.quiet rfl rfl rfl (fun h=>by rw [hq];intro h;cases h) (fun ad bf h=>by cases h) (fun ad bf vl h=>by cases h))
  | gaveUp j hq hcd hj hlt=>exact .other hi rfl rfl (X.quiet rfl rfl rfl (fun h=>by rw [hq];intro h;cases h) (fun ad bf h=>by cases h) (fun ad bf vl h=>by cases h))
theorem TStep.clk_same {p:List InsR} {id:Int} {C:Cells} {T:TS} (hs:TStep c p id C T C' T' s) (h:∀ tk ck,T.ph ≠ .stamp tk ck):valC C' 3 0=valC C 3 0:=by
  have k3:∀ (k i v:Int) (d:Bool),k ≠ 3→valC (opC C k i v d) 3 0=valC C 3 0:=fun k i v d h=>valC_ne h
  cases hs with
  | stamp tk ck hq=>exact absurd hq (h tk ck)
  | loc0=>exact rfl
  | loc1=>exact rfl
  | begin_=>exact k3 _ _ _ _ (by decide)
  | clock=>exact rfl
  | active=>exact k3 _ _ _ _ (by decide)
  | rlog=>exact rfl
  | r0ok=>exact rfl
  | r0bad=>exact rfl
  | r1=>exact rfl
  | r2bad=>exact rfl
  | r2ok=>exact rfl
  | twrite=>exact rfl
  | cnone=>exact rfl
  | clock_=>exact rfl
  | lload=>exact rfl
  | lmore=>exact k3 _ _ _ _ (by decide)
  | llast=>exact k3 _ _ _ _ (by decide)
  | ticket=>exact k3 _ _ _ _ (by decide)
  | wait=>exact rfl
  | mine=>exact rfl
  | mine0=>exact rfl
  | cmore=>exact rfl
  | clast=>exact rfl
  | cbad0=>exact rfl
  | cbad1=>exact rfl
  | dnone=>exact rfl
  | dstore=>exact rfl
  | wmore=>exact k3 _ _ _ _ (by decide)
  | wlast=>exact k3 _ _ _ _ (by decide)
  | rmore=>exact k3 _ _ _ _ (by decide)
  | rlast=>exact k3 _ _ _ _ (by decide)
  | pass=>exact k3 _ _ _ _ (by decide)
  | commit=>exact k3 _ _ _ _ (by decide)
  | again=>exact k3 _ _ _ _ (by decide)
  | gaveUp=>exact k3 _ _ _ _ (by decide)
theorem TStep.of_stamp {p:List InsR} {id:Int} {C:Cells} {T:TS} {tk ck:Int} (hs:TStep c p id C T C' T' s) (h:T.ph = .stamp tk ck):C'=opC C 3 0 (ck + 1) true∧T'={ T with ph:=.pass tk }:=by
  cases hs with
  | stamp tk2 ck2 hq=>rw [h] at hq;cases hq;exact ⟨rfl,rfl⟩
  | loc0 i h1 h2 hq=>rw [h] at hq;cases hq
  | loc1 i h1 h2 hq=>rw [h] at hq;cases hq
  | begin_ i h1 h2 hq=>rw [h] at hq;cases hq
  | clock hq=>rw [h] at hq;cases hq
  | active hq=>rw [h] at hq;cases hq
  | rlog i h1 h2 hq=>rw [h] at hq;cases hq
  | r0ok i o h1 h2 hq=>rw [h] at hq;cases hq
  | r0bad i o h1 h2 hq=>rw [h] at hq;cases hq
  | r1 ad bf hq=>rw [h] at hq;cases hq
  | r2bad ad bf vl hq=>rw [h] at hq;cases hq
  | r2ok ad bf vl i h1 h2 h3 hq=>rw [h] at hq;cases hq
  | twrite i h1 h2 hq=>rw [h] at hq;cases hq
  | cnone i h1 h2 hq=>rw [h] at hq;cases hq
  | clock_ i h1 h2 hq=>rw [h] at hq;cases hq
  | lload sn o hq=>rw [h] at hq;cases hq
  | lmore sn o a old2 hq=>rw [h] at hq;cases hq
  | llast sn o a old2 hq=>rw [h] at hq;cases hq
  | ticket hq=>rw [h] at hq;cases hq
  | wait tk hq=>rw [h] at hq;cases hq
  | mine tk hq=>rw [h] at hq;cases hq
  | mine0 tk hq=>rw [h] at hq;cases hq
  | cmore tk z zs hq=>rw [h] at hq;cases hq
  | clast tk z hq=>rw [h] at hq;cases hq
  | cbad0 tk z zs hq=>rw [h] at hq;cases hq
  | cbad1 tk z zs hq=>rw [h] at hq;cases hq
  | dnone tk hq=>rw [h] at hq;cases hq
  | dstore tk hq=>rw [h] at hq;cases hq
  | wmore tk ck k z v hq=>rw [h] at hq;cases hq
  | wlast tk ck k z v hq=>rw [h] at hq;cases hq
  | rmore tk ck k st z v hq=>rw [h] at hq;cases hq
  | rlast tk ck k st z v hq=>rw [h] at hq;cases hq
  | pass tk hq=>rw [h] at hq;cases hq
  | commit hq=>rw [h] at hq;cases hq
  | again i hq=>rw [h] at hq;cases hq
  | gaveUp i hq=>rw [h] at hq;cases hq
theorem ID.step (I:ID c n M H m) (E:Env c n (fun _=>dProg)) (hcw:c.words=2) (hwr:4≤clampM c.writes) (hi:i < n) (hB:M.steps.length≤1000) (hs:TStep c dProg i M.C (M.th i) C' T' s):∃ H' m',ID c n (M.next i C' T' s) H' m':=by
  have G':=I.gen.step E hi hB hs
  have hpd:∀ j,j < n→PD ((M.next i C' T' s).th j):=fun j hj=>updT_or (P:=PD) (fun h=>by subst h;exact (I.pd j hj).step hwr (I.gen.wf j hj) hs) (fun _=>I.pd j hj)
  obtain ⟨nu,fi,lo,oc,hm,X⟩:=I.eff E hcw hi hs
  have hmt:∀ j,j < n→MT ((M.next i C' T' s).th j) H (upI m.number i nu j) (upI m.first i fi j) (upI m.loaded i lo j) (upI m.orec i oc j):=by
    intro j hj
    by_cases hji:j=i
    · subst hji
      rw [upI_self,upI_self,upI_self,upI_self]
      show MT (updT M.th j T' j) _ _ _ _ _
      rw [updT_self];exact X
    · rw [upI_ne hji,upI_ne hji,upI_ne hji,upI_ne hji]
      show MT (updT M.th i T' j) _ _ _ _ _
      rw [updT_ne hji];exact I.mt j hj
  refine ⟨_,⟨upI m.first i fi,upI m.number i nu,upI m.loaded i lo,upI m.orec i oc⟩,G',hpd,?_,?_,?_⟩
  · intro u h0 h1
    replace h1:u≤valC C' 3 0:=h1
    by_cases hst:∃ tk ck,(M.th i).ph = .stamp tk ck
    · obtain ⟨tk,ck,hq⟩:=hst
      obtain ⟨rfl,rfl⟩:=hs.of_stamp hq
      rw [show nextH M.C (M.th i).L (M.th i).ph _ H=H by rw [hq];rfl]
      have hck:=I.gen.tl.ckk i hi ck (by rw [hq];rfl)
      rw [valC_self I.gen.shp.h3,hck] at h1
      rcases Int.lt_or_le (valC M.C 3 0) u with h2 | h2
      · have hu:u=valC M.C 3 0 + 1:=by omega
        have hw:wtr (M.th i).ph=true:=by rw [hq];rfl
        have h7:=(I.pd i hi).fin (by rw [hq];rfl)
        have hp:=((I.pd i hi).pos (by rw [hq];rfl) (by rw [hq];intro h;cases h)).2.2.2.2.2 h7
        rw [hu,I.gen.tl.nxt i hi hw 0 (Int.le_refl 0) (by omega),I.gen.tl.nxt i hi hw 1 (by decide) (by omega),if_pos (by rw [hp.1];simp),if_pos (by rw [hp.1];simp)]
        exact hp.2
      · exact I.eq u h0 h2
    · have hc:=hs.clk_same (fun tk ck h=>hst ⟨tk,ck,h⟩)
      rw [hc] at h1
      rw [nextH_le h1]
      exact I.eq u h0 h1
  · intro j hj
    by_cases hst:∃ tk ck,(M.th i).ph = .stamp tk ck
    · obtain ⟨tk,ck,hq⟩:=hst
      rw [show nextH M.C (M.th i).L (M.th i).ph T'.ph H=H by rw [hq];rfl]
      exact hmt j hj
    · have hc:=hs.clk_same (fun tk ck h=>hst ⟨tk,ck,h⟩)
      refine (hmt j hj).hist (fun h1 h2=>nextH_le ?_)
      have h3:=((hmt j hj).n1 h1 h2).1
      have hrv:hasRv ((M.next i C' T' s).th j).ph=true:=by
        cases hq:((M.next i C' T' s).th j).ph with
        | none=>exact absurd hq h1
        | ent1 =>
          have:=(hpd j hj).ent (.inl hq)
          rw [this] at h3;cases h3
        | _=>rfl
      have:=(G'.tl.rvs j hj hrv).2
      have h4:valC (M.next i C' T' s).C 3 0=valC M.C 3 0:=hc
      omega
  · show monsD n mon0 (M.steps++[s])=_
    rw [monsD_snoc I.run]
    exact hm
end
theorem dProg_in:∀ k,k < 32→inT dProg k=decide (2≤k % 8):=by decide
theorem dProg_len:dProg.length=32:=rfl
theorem dProg_ok {c:Cfg} (hw:c.words=2):ProgOk c dProg where
  ins k i h:=by
    have hk:=getElem?_lt h
    rw [dProg_len] at hk
    rw [dProg_in k hk]
    unfold InsOk
    rcases dPart_at h with ⟨hm,rfl⟩ | ⟨hm,rfl⟩ | ⟨hm,rfl⟩ | ⟨hm,rfl⟩ | ⟨hm,rfl⟩ | ⟨hm,rfl⟩ | ⟨hm,rfl⟩ | ⟨hm,rfl⟩ <;> rw [hm,hw] <;> decide
  fin:=by decide
  len:=by decide
theorem dProg_cap {c:Cfg} (hr:c.reads=4) (hw:c.writes=4):CapOk c dProg where
  rd k i h ho:=by
    have hk:=getElem?_lt h
    rw [dProg_len] at hk
    have key:∀ k,k < 32→since dProg 10 k≤2:=by decide
    have:=key k hk
    rw [hr]
    show since dProg 10 k < 4
    omega
  wr k i h ho:=by
    have hk:=getElem?_lt h
    rw [dProg_len] at hk
    have key:∀ k,k < 32→since dProg 11 k≤2:=by decide
    have:=key k hk
    rw [hw]
    show since dProg 11 k < 4
    omega
theorem Gen.start {c:Cfg} {n:Nat} {ps:Nat→List InsR} {C:Cells} (hC:Shp c n C) (h2:∀ o,valC C 2 o=0) (h3:valC C 3 0=0) (h4:valC C 4 0=0) (h5:valC C 5 0=0):Gen c n ps ⟨C,fun _=>startT,[]⟩ (fun _ a=>valC C 1 a):=by
  refine ⟨hC,fun i hi=>WF.start,?_,?_,?_,?_⟩
  · refine ⟨by rw [h5];exact Int.le_refl 0,by rw [h4,h5];exact Int.le_refl 0,by rw [h4];exact Int.le_refl 0,?_,?_,?_⟩
    · intro i hi tk h;cases h
    · intro i hi tk h;cases h
    · intro i hi j hj tk h;cases h
  · refine ⟨fun i hi o u h=>absurd h (hld_no rfl),fun i hi sn h=>?_⟩
    cases h
  · have nr:∀ o,¬ rls c startT o:=by
      rintro o (⟨_,_,_,_,h,_⟩ | ⟨_,_,h,_⟩) <;> cases h
    constructor
    · rw [h3];exact Int.le_refl 0
    · intro o _ _;rw [h2];exact Int.le_refl 0
    · intro o _ _;left;rw [h2,h3];decide
    · intro i hi o h;exact absurd h (nr o)
    · intro i hi ck h;cases h
    · intro i hi h;cases h
    · intro _ a _ _;rfl
    · intro i hi h;cases h
    · intro a _ _ u _ _;rfl
    · intro i hi h;cases h
    · intro i hi ad bf h;cases h
    · intro i hi ad bf vl h;cases h
    · intro i hi tk zs h;cases h
    · intro i hi tk h;cases h
  · rw [h3];exact Int.le_refl 0
theorem ID.start {c:Cfg} {n:Nat} {C:Cells} (hC:Shp c n C) (h1:valC C 1 0=valC C 1 1) (h2:∀ o,valC C 2 o=0) (h3:valC C 3 0=0) (h4:valC C 4 0=0) (h5:valC C 5 0=0):ID c n ⟨C,fun _=>startT,[]⟩ (fun _ a=>valC C 1 a) mon0 where
  gen:=Gen.start hC h2 h3 h4 h5
  pd i hi:=PD.start
  eq u _ _:=h1
  mt i hi:=⟨Int.le_refl 0,fun h=>absurd rfl h,fun h=>absurd rfl h,fun ad bf h=>(by cases h),fun ad bf vl h=>(by cases h)⟩
  run:=rfl
end Go.Proofs.YtmlfangeanmmeaaGreatDoor
