/-
  What the proof of TopTransfers leans on, part 37 of 48: Tl3, Pd, Pd2, Pd3. No statement of its own.
-/
import Derived.Test.YtmlfangeanmmeaaGreatDoorTm34
namespace Go.Proofs.YtmlfangeanmmeaaGreatDoor
set_option maxRecDepth 8000
open Go
set_option linter.unusedVariables false
def Zhs:Ph→Bool
  | .rd1 _ _ | .rd2 _ _ _ | .chk _ _ | .dec _=>false
  | _=>true
section
variable {c:Cfg} {n B:Nat} {T T':TS} {id:Int} {C C':Cells} {s:StR} {th:Nat→TS} {o u:Int} {H:Hist}
theorem Tl.calm (X:Tl c n C th H) {i:Nat} (hi:i < n) (hc:CfgP c) (hv:∀ o,0≤o→o < c.orecs→valC C' 2 o / 64=valC C 2 o / 64∧0≤valC C' 2 o) (hd:∀ a,valC C' 1 a=valC C 1 a) (hk:valC C' 3 0=valC C 3 0)
    (hw:wtr (th i).ph=false) (hw':wtr T'.ph=false) (rvs:Z5z T'.ph=true→0≤T'.rv∧T'.rv≤valC C 3 0) (hcm:Zhs T'.ph=true):Tl c n C' (updT th i T') H:=by
  refine X.quiet hi hv hc hd hk hw hw' rvs ?_ ?_ ?_ ?_
  · intro ad bf h;rw [h] at hcm;cases hcm
  · intro ad bf vl h;rw [h] at hcm;cases hcm
  · intro tk zs h;rw [h] at hcm;cases hcm
  · intro tk h;rw [h] at hcm;cases hcm
theorem Tl.step {p:List InsR} (X:Tl c n C th H) (K:TkB n B C th) (L:LkB c n C th) (hC:Shp c n C) (hc:CfgP c) (hn:n≤16) (hWs:∀ j,j < n→∃ p B,WF c p B (th j)) {i:Nat} (hi:i < n) (hp:ProgOk c p) (hW:WF c p B (th i)) (hs:TStep c p i C (th i) C' T' s) :
    Tl c n C' (updT th i T') (Z0r C (th i).L (th i).ph T'.ph H):=by
  have k1:∀ (k i v:Int) (d:Bool),k ≠ 1→∀ a,valC (opC C k i v d) 1 a=valC C 1 a:=fun k i v d h a=>Z1g h
  have k2:∀ (k i v:Int) (d:Bool),k ≠ 2→∀ o,0≤o→o < c.orecs→valC (opC C k i v d) 2 o / 64=valC C 2 o / 64∧0≤valC (opC C k i v d) 2 o:=fun k i v d h a h0 h1=>by rw [Z1g h];exact ⟨rfl,X.ver0 a h0 h1⟩
  have k3:∀ (k i v:Int) (d:Bool),k ≠ 3→valC (opC C k i v d) 3 0=valC C 3 0:=fun k i v d h=>Z1g h
  have s2:∀ o,0≤o→o < c.orecs→valC C 2 o / 64=valC C 2 o / 64∧0≤valC C 2 o:=fun a h0 h1=>⟨rfl,X.ver0 a h0 h1⟩
  have s1:∀ a,valC C 1 a=valC C 1 a:=fun a=>rfl
  have hrv:∀ q,(th i).ph=q→Z5z q=true→0≤(th i).rv∧(th i).rv≤valC C 3 0:=fun q h h2=>X.rvs i hi (by rw [h];exact h2)
  have hph:=hW.phs
  cases hs with
  | loc0 j hj ho hq =>
    rw [show Z0r C (th i).L (th i).ph _ H=H by rw [hq];rfl]
    exact X.calm hi hc s2 s1 rfl (by rw [hq];rfl) (by show wtr (th i).ph=false;rw [hq];rfl) (fun h=>by have h:Z5z (th i).ph=true:=h;rw [hq] at h;cases h) (by show Zhs (th i).ph=true;rw [hq];rfl)
  | loc1 j hj ho hq =>
    rw [show Z0r C (th i).L (th i).ph _ H=H by rw [hq];rfl]
    exact X.calm hi hc s2 s1 rfl (by rw [hq];rfl) (by show wtr (th i).ph=false;rw [hq];rfl) (fun h=>hrv _ hq rfl) (by show Zhs (th i).ph=true;rw [hq];rfl)
  | begin_ j hj ho hq =>
    rw [show Z0r C (th i).L (th i).ph _ H=H by rw [hq];rfl]
    exact X.calm hi hc (k2 _ _ _ _ (by decide)) (k1 _ _ _ _ (by decide)) (k3 _ _ _ _ (by decide)) (by rw [hq];rfl) rfl (fun h=>by cases h) rfl
  | clock hq =>
    rw [show Z0r C (th i).L (th i).ph _ H=H by rw [hq];rfl]
    exact X.calm hi hc s2 s1 rfl (by rw [hq];rfl) rfl (fun h=>by show 0≤(ldA C 3 0).got∧(ldA C 3 0).got≤_;rw [Z3h hC.h3];exact ⟨X.clk0,Int.le_refl _⟩) rfl
  | active hq =>
    rw [show Z0r C (th i).L (th i).ph _ H=H by rw [hq];rfl]
    exact X.calm hi hc (k2 _ _ _ _ (by decide)) (k1 _ _ _ _ (by decide)) (k3 _ _ _ _ (by decide)) (by rw [hq];rfl) rfl (fun h=>hrv _ hq rfl) rfl
  | rlog j hj ho hq hg =>
    rw [show Z0r C (th i).L (th i).ph _ H=H by rw [hq];rfl]
    exact X.calm hi hc s2 s1 rfl (by rw [hq];rfl) rfl (fun h=>hrv _ hq rfl) rfl
  | r0ok j o hj ho hq hg hor h64 hv =>
    rw [show Z0r C (th i).L (th i).ph _ H=H by rw [hq];rfl]
    have hA:=hp.ins _ _ hj
    have hw:0≤j.imm∧j.imm < c.words:=by rcases hA with h | h | h | h | h | h <;> omega
    refine X.quiet hi s2 hc s1 rfl (by rw [hq];rfl) rfl (fun h=>hrv _ hq rfl) ?_ ?_ ?_ ?_
    · intro ad bf h
      cases h
      exact ⟨h64,hv,hw.1,hw.2⟩
    · intro ad bf vl h;cases h
    · intro tk zs h;cases h
    · intro tk h;cases h
  | r0bad j o hj ho hq hg hor hbad =>
    rw [show Z0r C (th i).L (th i).ph _ H=H by rw [hq];rfl]
    exact X.calm hi hc s2 s1 rfl (by rw [hq];rfl) rfl (fun h=>hrv _ hq rfl) rfl
  | r1 ad bf hq =>
    rw [show Z0r C (th i).L (th i).ph _ H=H by rw [hq];rfl]
    have h1:=X.rd1 i hi ad bf hq
    refine X.quiet hi s2 hc s1 rfl (by rw [hq];rfl) rfl (fun h=>hrv _ hq rfl) ?_ ?_ ?_ ?_
    · intro ad bf h;cases h
    · intro ad2 bf2 vl h
      cases h
      refine ⟨h1,?_⟩
      rw [Z3h (hC.h1 h1.2.2.1 h1.2.2.2)]
      exact X.load hc hWs h1.2.2.1 h1.2.2.2 (hrv _ hq rfl).2
    · intro tk zs h;cases h
    · intro tk h;cases h
  | r2bad ad bf vl hq hbad =>
    rw [show Z0r C (th i).L (th i).ph _ H=H by rw [hq];rfl]
    exact X.calm hi hc s2 s1 rfl (by rw [hq];rfl) rfl (fun h=>hrv _ hq rfl) rfl
  | r2ok ad bf vl j hj ho had hq hgot =>
    rw [show Z0r C (th i).L (th i).ph _ H=H by rw [hq];rfl]
    exact X.calm hi hc s2 s1 rfl (by rw [hq];rfl) rfl (fun h=>hrv _ hq rfl) rfl
  | twrite j hj ho hq =>
    rw [show Z0r C (th i).L (th i).ph _ H=H by rw [hq];rfl]
    exact X.calm hi hc s2 s1 rfl (by rw [hq];rfl) (by show wtr (th i).ph=false;rw [hq];rfl) (fun h=>hrv _ hq rfl) (by show Zhs (th i).ph=true;rw [hq];rfl)
  | cnone j hj ho hq hL =>
    rw [show Z0r C (th i).L (th i).ph _ H=H by rw [hq];rfl]
    exact X.calm hi hc s2 s1 rfl (by rw [hq];rfl) rfl (fun h=>hrv _ hq rfl) rfl
  | clock_ j hj ho hq hL =>
    rw [show Z0r C (th i).L (th i).ph _ H=H by rw [hq];rfl]
    exact X.calm hi hc s2 s1 rfl (by rw [hq];rfl) rfl (fun h=>hrv _ hq rfl) rfl
  | lload sn o hq ho =>
    rw [show Z0r C (th i).L (th i).ph _ H=H by rw [hq];rfl]
    exact X.calm hi hc s2 s1 rfl (by rw [hq];rfl) rfl (fun h=>hrv _ hq rfl) rfl
  | lmore sn o a old2 hq ho ha hold hne =>
    rw [show Z0r C (th i).L (th i).ph _ H=H by rw [hq];rfl]
    have hr:=Z17 hc.orecs.1 (List.mem_of_getElem? ho)
    have hsn:=L.sn i hi sn hq
    refine X.calm hi hc (fun x h0 h1=>?_) (k1 _ _ _ _ (by decide)) (k3 _ _ _ _ (by decide)) (by rw [hq];rfl) rfl (fun h=>hrv _ hq rfl) rfl
    by_cases he:valC C 2 o=sn
    · rw [show (valC C 2 o == sn)=true by simp [he]]
      by_cases hx:x=o
      · subst hx;rw [Z0q (hC.h2 hr.1 hr.2),he];omega
      · rw [Z11 hr.1 h0 (Ne.symm hx)];exact s2 x h0 h1
    · rw [Z7n (by simp [he])];exact s2 x h0 h1
  | llast sn o a old2 hq ho ha hold hne =>
    rw [show Z0r C (th i).L (th i).ph _ H=H by rw [hq];rfl]
    have hr:=Z17 hc.orecs.1 (List.mem_of_getElem? ho)
    have hsn:=L.sn i hi sn hq
    refine X.calm hi hc (fun x h0 h1=>?_) (k1 _ _ _ _ (by decide)) (k3 _ _ _ _ (by decide)) (by rw [hq];rfl) rfl (fun h=>hrv _ hq rfl) rfl
    by_cases he:valC C 2 o=sn
    · rw [show (valC C 2 o == sn)=true by simp [he]]
      by_cases hx:x=o
      · subst hx;rw [Z0q (hC.h2 hr.1 hr.2),he];omega
      · rw [Z11 hr.1 h0 (Ne.symm hx)];exact s2 x h0 h1
    · rw [Z7n (by simp [he])];exact s2 x h0 h1
  | ticket hq =>
    rw [show Z0r C (th i).L (th i).ph _ H=H by rw [hq];rfl]
    exact X.calm hi hc (k2 _ _ _ _ (by decide)) (k1 _ _ _ _ (by decide)) (k3 _ _ _ _ (by decide)) (by rw [hq];rfl) rfl (fun h=>hrv _ hq rfl) rfl
  | wait tk hq hw =>
    rw [show Z0r C (th i).L (th i).ph _ H=H by rw [hq];rfl]
    exact X.calm hi hc s2 s1 rfl (by rw [hq];rfl) (by rw [hq];rfl) (fun h=>hrv _ hq rfl) (by rw [hq];rfl)
  | mine tk hq hw hS =>
    rw [show Z0r C (th i).L (th i).ph _ H=H by rw [hq];rfl]
    refine X.quiet hi s2 hc s1 rfl (by rw [hq];rfl) rfl (fun h=>hrv _ hq rfl) ?_ ?_ ?_ ?_
    · intro ad bf h;cases h
    · intro ad bf vl h;cases h
    · intro tk2 zs h a ha
      cases h
      exact .inl (hW.sn a ha).2.2
    · intro tk h;cases h
  | mine0 tk hq hw hS =>
    rw [show Z0r C (th i).L (th i).ph _ H=H by rw [hq];rfl]
    refine X.quiet hi s2 hc s1 rfl (by rw [hq];rfl) rfl (fun h=>hrv _ hq rfl) ?_ ?_ ?_ ?_
    · intro ad bf h;cases h
    · intro ad bf vl h;cases h
    · intro tk2 zs h;cases h
    · intro tk2 h a ha
      have:=(hW.sn a ha).2.2
      rw [hS] at this;cases this
  | cmore tk z zs hq hv hzs =>
    rw [show Z0r C (th i).L (th i).ph _ H=H by rw [hq];rfl]
    rw [hq] at hph
    have hz:=hW.Srng z (hph.2.2.2 z (by simp))
    rw [Z3h (hC.h2 hz.1 hz.2)] at hv
    refine X.quiet hi s2 hc s1 rfl (by rw [hq];rfl) rfl (fun h=>hrv _ hq rfl) ?_ ?_ ?_ ?_
    · intro ad bf h;cases h
    · intro ad bf vl h;cases h
    · intro tk2 zs2 h a ha
      cases h
      have hr:=hW.sn a ha
      rcases X.chk i hi tk _ hq a ha with h1 | h1
      · rcases List.mem_cons.1 h1 with h2 | h2
        · exact .inr (X.his a hr.1 hr.2.1 _ (by rw [h2];exact hv) (hrv _ hq rfl).2)
        · exact .inl h2
      · exact .inr h1
    · intro tk2 h;cases h
  | clast tk z hq hv =>
    rw [show Z0r C (th i).L (th i).ph _ H=H by rw [hq];rfl]
    rw [hq] at hph
    have hz:=hW.Srng z (hph.2.2.2 z (by simp))
    rw [Z3h (hC.h2 hz.1 hz.2)] at hv
    refine X.quiet hi s2 hc s1 rfl (by rw [hq];rfl) rfl (fun h=>hrv _ hq rfl) ?_ ?_ ?_ ?_
    · intro ad bf h;cases h
    · intro ad bf vl h;cases h
    · intro tk2 zs2 h;cases h
    · intro tk2 h a ha
      have hr:=hW.sn a ha
      rcases X.chk i hi tk _ hq a ha with h1 | h1
      · exact X.his a hr.1 hr.2.1 _ (by rw [List.mem_singleton.1 h1];exact hv) (hrv _ hq rfl).2
      · exact h1
  | cbad0 tk z zs hq hv hL =>
    rw [show Z0r C (th i).L (th i).ph _ H=H by rw [hq];rfl]
    exact X.calm hi hc s2 s1 rfl (by rw [hq];rfl) rfl (fun h=>hrv _ hq rfl) rfl
  | cbad1 tk z zs hq hv hL =>
    rw [show Z0r C (th i).L (th i).ph _ H=H by rw [hq];rfl]
    exact X.calm hi hc s2 s1 rfl (by rw [hq];rfl) rfl (fun h=>hrv _ hq rfl) rfl
  | dnone tk hq hL =>
    rw [show Z0r C (th i).L (th i).ph _ H=H by rw [hq];rfl]
    exact X.calm hi hc s2 s1 rfl (by rw [hq];rfl) rfl (fun h=>hrv _ hq rfl) rfl
  | dstore tk hq hL hk =>
    rw [show Z0r C (th i).L (th i).ph (Ph.wr tk (ldA C 3 0).got 0) H=Z4b H (valC C 3 0) (th i).L by rw [hq];rfl]
    exact X.decide K hi hq (by rw [Z3h hC.h3])
  | wmore tk ck k z v hq hz hv hk =>
    rw [show Z0r C (th i).L (th i).ph _ H=H by rw [hq];rfl]
    exact X.write K hC hi hW hq hz hv (.inl rfl) rfl
  | wlast tk ck k z v hq hz hv hk =>
    rw [show Z0r C (th i).L (th i).ph _ H=H by rw [hq];rfl]
    exact X.write K hC hi hW hq hz hv (.inr ⟨rfl,hk⟩) rfl
  | rmore tk ck k st z v hq hz hv hk =>
    rw [show Z0r C (th i).L (th i).ph _ H=H by rw [hq];rfl]
    cases st with
    | true =>
      have hv:v=(ck + 1)*64:=hv
      subst hv
      exact X.release K hC hc hi hW hq hz (.inl rfl) rfl
    | false =>
      have hv:(th i).old[k]?=some v:=hv
      have hr:=Z17 hc.orecs.1 (List.mem_of_getElem? hz)
      have hh:=L.hold i hi z v ⟨k,k,by rw [hq];rfl,Nat.le_refl _,hz,hv⟩
      refine X.calm hi hc (fun x h0 h1=>?_) (k1 _ _ _ _ (by decide)) (k3 _ _ _ _ (by decide)) (by rw [hq];rfl) rfl (fun h=>hrv _ hq rfl) rfl
      by_cases hx:x=z
      · subst hx;rw [Z0q (hC.h2 hr.1 hr.2),hh.1];omega
      · rw [Z11 hr.1 h0 (Ne.symm hx)];exact s2 x h0 h1
  | rlast tk ck k st z v hq hz hv hk =>
    rw [show Z0r C (th i).L (th i).ph _ H=H by rw [hq];rfl]
    cases st with
    | true =>
      have hv:v=(ck + 1)*64:=hv
      subst hv
      exact X.release K hC hc hi hW hq hz (.inr ⟨rfl,hk⟩) rfl
    | false =>
      have hv:(th i).old[k]?=some v:=hv
      have hr:=Z17 hc.orecs.1 (List.mem_of_getElem? hz)
      have hh:=L.hold i hi z v ⟨k,k,by rw [hq];rfl,Nat.le_refl _,hz,hv⟩
      refine X.calm hi hc (fun x h0 h1=>?_) (k1 _ _ _ _ (by decide)) (k3 _ _ _ _ (by decide)) (by rw [hq];rfl) rfl (fun h=>hrv _ hq rfl) rfl
      by_cases hx:x=z
      · subst hx;rw [Z0q (hC.h2 hr.1 hr.2),hh.1];omega
      · rw [Z11 hr.1 h0 (Ne.symm hx)];exact s2 x h0 h1
  | stamp tk ck hq =>
    rw [show Z0r C (th i).L (th i).ph _ H=H by rw [hq];rfl]
    exact X.stamp K hC hc hi hq rfl
  | pass tk hq =>
    rw [show Z0r C (th i).L (th i).ph _ H=H by rw [hq];rfl]
    exact X.calm hi hc (k2 _ _ _ _ (by decide)) (k1 _ _ _ _ (by decide)) (k3 _ _ _ _ (by decide)) (by rw [hq];rfl) rfl (fun h=>hrv _ hq rfl) rfl
  | commit hq hcd =>
    rw [show Z0r C (th i).L (th i).ph _ H=H by rw [hq];rfl]
    exact X.calm hi hc (k2 _ _ _ _ (by decide)) (k1 _ _ _ _ (by decide)) (k3 _ _ _ _ (by decide)) (by rw [hq];rfl) rfl (fun h=>by cases h) rfl
  | again j hq hcd hj hlt =>
    rw [show Z0r C (th i).L (th i).ph _ H=H by rw [hq];rfl]
    exact X.calm hi hc (k2 _ _ _ _ (by decide)) (k1 _ _ _ _ (by decide)) (k3 _ _ _ _ (by decide)) (by rw [hq];rfl) rfl (fun h=>by cases h) rfl
  | gaveUp j hq hcd hj hlt =>
    rw [show Z0r C (th i).L (th i).ph _ H=H by rw [hq];rfl]
    exact X.calm hi hc (k2 _ _ _ _ (by decide)) (k1 _ _ _ _ (by decide)) (k3 _ _ _ _ (by decide)) (by rw [hq];rfl) rfl (fun h=>by cases h) rfl
end
structure Env (c:Cfg) (n:Nat) (ps:Nat→List InsR):Prop where
  n16:n≤16
  cfg:CfgP c
  clk:c.clock=1000
  prog:∀ i,i < n→ProgOk c (ps i)
  cap:∀ i,i < n→CapOk c (ps i)
structure Gen (c:Cfg) (n:Nat) (ps:Nat→List InsR) (M:MS) (H:Hist):Prop where
  shp:Shp c n M.C
  wf:∀ i,i < n→WF c (ps i) M.steps.length (M.th i)
  tk:TkB n M.steps.length M.C M.th
  lk:LkB c n M.C M.th
  tl:Tl c n M.C M.th H
  clkB:valC M.C 3 0≤M.steps.length
def MS.next (M:MS) (i:Nat) (C':Cells) (T':TS) (s:StR):MS:=⟨C',updT M.th i T',M.steps++[s]⟩
section
variable {c:Cfg} {n:Nat} {ps:Nat→List InsR} {M:MS} {H:Hist} {C':Cells} {T':TS} {s:StR} {i:Nat}
theorem TStep.shp {p:List InsR} {id:Int} {C:Cells} {T:TS} (hs:TStep c p id C T C' T' s) (h:Shp c n C):Shp c n C':=by
  cases hs <;> first | exact h | exact h.opC _ _ _ _
theorem TStep.clk {p:List InsR} {id:Int} {C:Cells} {T:TS} (hs:TStep c p id C T C' T' s) (h:Shp c n C) (hck:∀ ck,ckOf T.ph=some ck→ck=valC C 3 0):valC C' 3 0≤valC C 3 0 + 1:=by
  have k3:∀ (k i v:Int) (d:Bool),k ≠ 3→valC (opC C k i v d) 3 0≤valC C 3 0 + 1:=fun k i v d h=>by rw [Z1g h];omega
  have k0:valC C 3 0≤valC C 3 0 + 1:=by omega
  cases hs with
  | stamp tk ck hq=>rw [Z0q h.h3,hck ck (by rw [hq];rfl)];exact Int.le_refl _
  | loc0=>exact k0
  | loc1=>exact k0
  | begin_=>exact k3 _ _ _ _ (by decide)
  | clock=>exact k0
  | active=>exact k3 _ _ _ _ (by decide)
  | rlog=>exact k0
  | r0ok=>exact k0
  | r0bad=>exact k0
  | r1=>exact k0
  | r2bad=>exact k0
  | r2ok=>exact k0
  | twrite=>exact k0
  | cnone=>exact k0
  | clock_=>exact k0
  | lload=>exact k0
  | lmore=>exact k3 _ _ _ _ (by decide)
  | llast=>exact k3 _ _ _ _ (by decide)
  | ticket=>exact k3 _ _ _ _ (by decide)
  | wait=>exact k0
  | mine=>exact k0
  | mine0=>exact k0
  | cmore=>exact k0
  | clast=>exact k0
  | cbad0=>exact k0
  | cbad1=>exact k0
  | dnone=>exact k0
  | dstore=>exact k0
  | wmore=>exact k3 _ _ _ _ (by decide)
  | wlast=>exact k3 _ _ _ _ (by decide)
  | rmore=>exact k3 _ _ _ _ (by decide)
  | rlast=>exact k3 _ _ _ _ (by decide)
  | pass=>exact k3 _ _ _ _ (by decide)
  | commit=>exact k3 _ _ _ _ (by decide)
  | again=>exact k3 _ _ _ _ (by decide)
  | gaveUp=>exact k3 _ _ _ _ (by decide)
theorem Gen.step (G:Gen c n ps M H) (E:Env c n ps) (hi:i < n) (hB:M.steps.length≤1000) (hs:TStep c (ps i) i M.C (M.th i) C' T' s):Gen c n ps (M.next i C' T' s) (Z0r M.C (M.th i).L (M.th i).ph T'.ph H):=by
  have hl:(M.next i C' T' s).steps.length=M.steps.length + 1:=by show (M.steps++[s]).length=_;simp
  refine ⟨hs.shp G.shp,?_,?_,?_,?_,?_⟩
  · intro j hj
    rw [hl]
    refine Z0g (P:=fun T=>WF c (ps j) (M.steps.length + 1) T) (fun h=>?_) (fun _=>(G.wf j hj).mono (Nat.le_succ _))
    subst h
    exact (G.wf j hj).step E.cfg (E.prog j hj) (E.cap j hj) hs
  · rw [hl]
    exact G.tk.step hi (hs.tk G.shp (by have:=G.tk.s0;have:=G.tk.sn;have:=G.tk.nB;omega))
  · exact G.lk.step E.n16 E.cfg G.tl.ver0 hi (hs.lk E.cfg G.shp (G.wf i hi))
  · exact G.tl.step G.tk G.lk G.shp E.cfg E.n16 (fun j hj=>⟨_,_,G.wf j hj⟩) hi (E.prog i hi) (G.wf i hi) hs
  · rw [hl]
    have:=hs.clk G.shp (fun ck h=>G.tl.ckk i hi ck h)
    have:=G.clkB
    show valC C' 3 0≤_
    omega
theorem Gen.read (G:Gen c n ps M H) (E:Env c n ps) (hi:i < n) {ad bf vl:Int} (hq:(M.th i).ph = .rd2 ad bf vl) (hg:(ldA M.C 2 (ad % c.orecs)).got=bf):vl=H (M.th i).rv ad:=by
  have hr:=Z38 E.cfg ad
  rw [Z3h (G.shp.h2 hr.1 hr.2)] at hg
  have h1:=G.tl.rd2 i hi ad bf vl hq
  rcases h1.2 with h | h
  · exact h
  · exact absurd h (Zd4 G.lk E.n16 (by rw [hg];exact h1.1.1) (by rw [hg];exact h1.1.2.1))
end
def reps (m:Nat) (l:List InsR):List InsR:=(List.replicate m l).flatten
theorem Z4n (m:Nat) (l:List InsR):reps (m + 1) l=l++reps m l:=by unfold reps;rw [List.replicate_succ,List.flatten_cons]
theorem Zgn (m:Nat) (l:List InsR):(reps m l).length=m*l.length:=by
  induction m with
  | zero=>simp [reps]
  | succ m ih=>rw [Z4n,List.length_append,ih,Nat.succ_mul];omega
theorem Zap {l:List InsR} (hl:0 < l.length):∀ (m k:Nat) i,(reps m l)[k]?=some i→l[k % l.length]?=some i
  | 0,k,i,h=>by simp [reps] at h
  | m + 1,k,i,h=>by
    rw [Z4n] at h
    rcases Nat.lt_or_ge k l.length with hk | hk
    · rw [List.getElem?_append_left hk] at h
      rw [Nat.mod_eq_of_lt hk];exact h
    · rw [List.getElem?_append_right hk] at h
      have:=Zap hl m _ i h
      rw [Nat.mod_eq_sub_mod hk];exact this
def Zbe:Ph→Bool
  | .lk _ _ | .take | .wait _ | .chk _ _ | .dec _ | .wr _ _ _ | .rel _ _ _ _ | .stamp _ _=>true
  | _=>false
theorem Z6i {L:PL} {a v:Int} (h0:0≤a) (ha:a ∉ L.addrs) (hl:L.addrs.length < L.cap):(putL L a v).addrs=L.addrs++[a]∧(putL L a v).vals=L.vals++[v]:=by
  unfold putL
  rw [if_neg (by omega),if_neg ha,if_pos hl]
  exact ⟨rfl,rfl⟩
section
variable {c:Cfg} {n B:Nat} {T T':TS} {id:Int} {C C':Cells} {s:StR} {th:Nat→TS} {H:Hist}
theorem Zia {x:Int} (h:0≤x):(x + 1).toNat=x.toNat + 1:=by omega
end
structure MonD where
  first:Nat→Int
  number:Nat→Int
  loaded:Nat→Int
  orec:Nat→Int
def upI (f:Nat→Int) (i:Nat) (v:Int):Nat→Int:=fun j=>if j=i then v else f j
theorem Zg3 {f:Nat→Int} {i:Nat} {v:Int}:upI f i v i=v:=if_pos rfl
theorem Zkm {f:Nat→Int} {i j:Nat} {v:Int} (h:j ≠ i):upI f i v j=f j:=if_neg h
section
variable {c:Cfg} {n B:Nat} {T T':TS} {id:Int} {C C':Cells} {s:StR} {th:Nat→TS} {H H':Hist} {M:MS} {m:MonD} {i:Nat}
theorem Zce {L:PL} {q q':Ph} {u:Int} (h:u≤valC C 3 0):Z0r C L q q' H u=H u:=by
  unfold Z0r
  split
  · exact Zca h
  · rfl
theorem TStep.clk_same {p:List InsR} {id:Int} {C:Cells} {T:TS} (hs:TStep c p id C T C' T' s) (h:∀ tk ck,T.ph ≠ .stamp tk ck):valC C' 3 0=valC C 3 0:=by
  have k3:∀ (k i v:Int) (d:Bool),k ≠ 3→valC (opC C k i v d) 3 0=valC C 3 0:=fun k i v d h=>Z1g h
  cases hs with
  | stamp tk ck hq=>exact absurd hq (h tk ck)
  | loc0=>exact rfl
  | loc1=>exact rfl
  | begin_=>exact k3 _ _ _ _ (by decide)
  | clock=>exact rfl
  | active=>exact k3 _ _ _ _ (by decide)
  | rlog=>exact rfl
  | r0ok=>exact rfl
  | r0bad=>exact rfl
  | r1=>exact rfl
  | r2bad=>exact rfl
  | r2ok=>exact rfl
  | twrite=>exact rfl
  | cnone=>exact rfl
  | clock_=>exact rfl
  | lload=>exact rfl
  | lmore=>exact k3 _ _ _ _ (by decide)
  | llast=>exact k3 _ _ _ _ (by decide)
  | ticket=>exact k3 _ _ _ _ (by decide)
  | wait=>exact rfl
  | mine=>exact rfl
  | mine0=>exact rfl
  | cmore=>exact rfl
  | clast=>exact rfl
  | cbad0=>exact rfl
  | cbad1=>exact rfl
  | dnone=>exact rfl
  | dstore=>exact rfl
  | wmore=>exact k3 _ _ _ _ (by decide)
  | wlast=>exact k3 _ _ _ _ (by decide)
  | rmore=>exact k3 _ _ _ _ (by decide)
  | rlast=>exact k3 _ _ _ _ (by decide)
  | pass=>exact k3 _ _ _ _ (by decide)
  | commit=>exact k3 _ _ _ _ (by decide)
  | again=>exact k3 _ _ _ _ (by decide)
  | gaveUp=>exact k3 _ _ _ _ (by decide)
theorem TStep.of_stamp {p:List InsR} {id:Int} {C:Cells} {T:TS} {tk ck:Int} (hs:TStep c p id C T C' T' s) (h:T.ph = .stamp tk ck):C'=opC C 3 0 (ck + 1) true∧T'={ T with ph:=.pass tk }:=by
  cases hs with
  | stamp tk2 ck2 hq=>rw [h] at hq;cases hq;exact ⟨rfl,rfl⟩
  | loc0 i h1 h2 hq=>rw [h] at hq;cases hq
  | loc1 i h1 h2 hq=>rw [h] at hq;cases hq
  | begin_ i h1 h2 hq=>rw [h] at hq;cases hq
  | clock hq=>rw [h] at hq;cases hq
  | active hq=>rw [h] at hq;cases hq
  | rlog i h1 h2 hq=>rw [h] at hq;cases hq
  | r0ok i o h1 h2 hq=>rw [h] at hq;cases hq
  | r0bad i o h1 h2 hq=>rw [h] at hq;cases hq
  | r1 ad bf hq=>rw [h] at hq;cases hq
  | r2bad ad bf vl hq=>rw [h] at hq;cases hq
  | r2ok ad bf vl i h1 h2 h3 hq=>rw [h] at hq;cases hq
  | twrite i h1 h2 hq=>rw [h] at hq;cases hq
  | cnone i h1 h2 hq=>rw [h] at hq;cases hq
  | clock_ i h1 h2 hq=>rw [h] at hq;cases hq
  | lload sn o hq=>rw [h] at hq;cases hq
  | lmore sn o a old2 hq=>rw [h] at hq;cases hq
  | llast sn o a old2 hq=>rw [h] at hq;cases hq
  | ticket hq=>rw [h] at hq;cases hq
  | wait tk hq=>rw [h] at hq;cases hq
  | mine tk hq=>rw [h] at hq;cases hq
  | mine0 tk hq=>rw [h] at hq;cases hq
  | cmore tk z zs hq=>rw [h] at hq;cases hq
  | clast tk z hq=>rw [h] at hq;cases hq
  | cbad0 tk z zs hq=>rw [h] at hq;cases hq
  | cbad1 tk z zs hq=>rw [h] at hq;cases hq
  | dnone tk hq=>rw [h] at hq;cases hq
  | dstore tk hq=>rw [h] at hq;cases hq
  | wmore tk ck k z v hq=>rw [h] at hq;cases hq
  | wlast tk ck k z v hq=>rw [h] at hq;cases hq
  | rmore tk ck k st z v hq=>rw [h] at hq;cases hq
  | rlast tk ck k st z v hq=>rw [h] at hq;cases hq
  | pass tk hq=>rw [h] at hq;cases hq
  | commit hq=>rw [h] at hq;cases hq
  | again i hq=>rw [h] at hq;cases hq
  | gaveUp i hq=>rw [h] at hq;cases hq
end
theorem Gen.start {c:Cfg} {n:Nat} {ps:Nat→List InsR} {C:Cells} (hC:Shp c n C) (h2:∀ o,valC C 2 o=0) (h3:valC C 3 0=0) (h4:valC C 4 0=0) (h5:valC C 5 0=0):Gen c n ps ⟨C,fun _=>startT,[]⟩ (fun _ a=>valC C 1 a):=by
  refine ⟨hC,fun i hi=>WF.start,?_,?_,?_,?_⟩
  · refine ⟨by rw [h5];exact Int.le_refl 0,by rw [h4,h5];exact Int.le_refl 0,by rw [h4];exact Int.le_refl 0,?_,?_,?_⟩
    · intro i hi tk h;cases h
    · intro i hi tk h;cases h
    · intro i hi j hj tk h;cases h
  · refine ⟨fun i hi o u h=>absurd h (Z1c rfl),fun i hi sn h=>?_⟩
    cases h
  · have nr:∀ o,¬ rls c startT o:=by
      rintro o (⟨_,_,_,_,h,_⟩ | ⟨_,_,h,_⟩) <;> cases h
    constructor
    · rw [h3];exact Int.le_refl 0
    · intro o _ _;rw [h2];exact Int.le_refl 0
    · intro o _ _;left;rw [h2,h3];decide
    · intro i hi o h;exact absurd h (nr o)
    · intro i hi ck h;cases h
    · intro i hi h;cases h
    · intro _ a _ _;rfl
    · intro i hi h;cases h
    · intro a _ _ u _ _;rfl
    · intro i hi h;cases h
    · intro i hi ad bf h;cases h
    · intro i hi ad bf vl h;cases h
    · intro i hi tk zs h;cases h
    · intro i hi tk h;cases h
  · rw [h3];exact Int.le_refl 0
end Go.Proofs.YtmlfangeanmmeaaGreatDoor
