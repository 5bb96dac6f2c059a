/-
  What the proof of TopTransfers leans on, part 38 of 48: Vd, Ve, Vf, Vg, Vh, Wa, Wb2, Wc. No statement of its own.
-/
import Derived.Test.YtmlfangeanmmeaaGreatDoorTm33
import Derived.Test.YtmlfangeanmmeaaGreatDoorTm36
import Derived.Test.YtmlfangeanmmeaaGreatDoorTm37
namespace Go.Proofs.YtmlfangeanmmeaaGreatDoor
set_option maxRecDepth 8000
open Go.RowKit
set_option linter.unusedVariables false
section
variable {w0 w:World} {R:Asr} {t g m:Nat} {c:Cfg} {p:List InsR} {n id:Int} {T T':TS} {C C':Cells} {a:Acc} {ph att v:Int} {i:InsR} {b:Bool}
def TS.local_ (T:TS) (i:InsR):TS:={ T with regs:=locR i T.regs,pc:=T.pc + 1 }
theorem Zlg {q:TQ} {A:Value} (h:Hold w0 w (thA t c (thR p n id T q A)*R)) (hI:Z76 c b i) (h1:i.op=1∨i.op=3) (h0:0≤T.pc∧T.pc≤1000000) :
    Calls Tryz.prog 70 #[ptrV t,i.val] w fun e w'=>e = .returned (.tuple #[])∧Hold w0 w' (thA t c (thR p n id (T.local_ i) q A)*R):=by
  rcases h1 with h1 | h1
  · have ⟨ha,hb⟩:1≤i.a∧i.a < 8:=by rcases hI with h | h | h | h | h | h <;> omega
    have e:(thR p n id (T.local_ i) q A)={ thR p n id T q A with regs:=upR T.regs i.a.toNat (u64 i.imm),pc:=T.pc + 1,done:=T.pc + 1 == (p.length:Int) }:=by
      unfold TS.local_ locR
      rw [if_pos h1]
      rfl
    rw [e]
    exact Z78 h h1 (by omega) (by omega) rfl h0
  · obtain ⟨ha,hb,hc,hd,he,hf,hm⟩:1≤i.a∧i.a < 8∧0≤i.b∧i.b < 8∧0≤i.c∧i.c < 8∧(i.imm=0∨i.imm=1):=by rcases hI with h | h | h | h | h | h <;> omega
    rcases hm with hm | hm
    · have e:(thR p n id (T.local_ i) q A)={ thR p n id T q A with regs:=upR T.regs i.a.toNat (u64 (T.regs i.b.toNat + T.regs i.c.toNat)),pc:=T.pc + 1,done:=T.pc + 1 == (p.length:Int) }:=by
        unfold TS.local_ locR
        rw [if_neg (by omega),if_pos h1,if_pos hm]
        rfl
      rw [e]
      exact Z93 h h1 hm (by omega) (by omega) (by omega) (by omega) (by omega) (by omega) rfl rfl rfl h0
    · have e:(thR p n id (T.local_ i) q A)={ thR p n id T q A with regs:=upR T.regs i.a.toNat (u64 (T.regs i.b.toNat - T.regs i.c.toNat)),pc:=T.pc + 1,done:=T.pc + 1 == (p.length:Int) }:=by
        unfold TS.local_ locR
        rw [if_neg (by omega),if_pos h1,if_neg (by omega)]
        rfl
      rw [e]
      exact Z91 h h1 hm (by omega) (by omega) (by omega) (by omega) (by omega) (by omega) rfl rfl rfl h0
theorem Zfg (h:Hold w0 w (atS g c id T*R)) (hq:T.ph = .idle):Hold w0 w (atS g c id (T.local_ i)*R):=by
  unfold atS at h ⊢
  rw [hq] at h
  rw [show (T.local_ i).ph = .idle from hq]
  exact h
theorem Zdz (h:Hold w0 w (thS t c p n id T*(memA m C*R))) (h0:0≤T.pc∧T.pc≤1000000) (hi:p[T.pc.toNat]?=some i) (hq:T.ph = .idle) (hI:Z76 c b i) (h1:i.op=1∨i.op=3) :
    Z49 w0 t m c p n id R C (T.local_ i) 0 T.count acc0 w:=by
  have hn:T.ph ≠ .none:=by rw [hq];intro h;cases h
  obtain ⟨q,h⟩:=Z7s h hn
  refine (Z4k (X:=fun _:Unit=>thR p n id (T.local_ i) q (ptrV q.g)) (Q:=fun _=>Z0a (.slice q.A p.length q.cp) p*(obsA q.sv T.seen*(obsA q.ov T.obs*(atS q.g c id T*(memA m C*R))))) h rfl (Z4p h0.1) hi (Z3w h0.1 hi) rfl ⟨rfl,rfl⟩ ?_ ?_ (fun _=>rfl)).mono fun e w' he=>he.mono fun E q' w' h=>⟨(),?_⟩
  · exact fun F w' h=>(Zez (h.pk6 [5,0,1,2,3,4]) hq).mono fun e w' h=>⟨h.1,h.2⟩
  · intro F w' h
    refine (Z94 (X:=thR p n id (T.local_ i) q (ptrV q.g)) (R:=F*(Z0a (.slice q.A p.length q.cp) p*(obsA q.sv T.seen*(obsA q.ov T.obs*(atS q.g c id T*(memA m C*R)))))) (h.pk2 [1,0]) h1 rfl ?_).mono fun e w' he=>he.mono fun E _ w' h=>⟨(),h.pk3 [0,2,1]⟩
    intro F' w' h
    exact (Zlg (h.pk2 [1,0]) hI h1 h0).mono fun e w' he=>⟨he.1,he.2.pk2 [1,0]⟩
  · have h2:=Zfg (i:=i) (h.pk6 [5,0,1,2,3,4]) hq
    have h3:Hold w0 w' (thS t c p n id (T.local_ i)*(E*(memA m C*R))):=Ze1 q hn (h2.pk6 [2,3,4,5,0,1])
    exact h3.pk2 [1,0]
theorem Ze0 (h:Hold w0 w (thS t c p n id T*(memA m C*R))) (h0:0≤T.pc∧T.pc≤1000000) (hi:p[T.pc.toNat]?=some i) (hq:T.ph = .none) (hI:Z76 c b i) (h1:i.op=1∨i.op=3) :
    Z49 w0 t m c p n id R C (T.local_ i) 0 0 acc0 w:=by
  obtain ⟨q,h⟩:=Z4m h hq
  refine (Z2z (X:=fun _:Unit=>thR p n id (T.local_ i) q (.pointer none)) (Q:=fun _=>Z0a (.slice q.A p.length q.cp) p*(obsA q.sv T.seen*(obsA q.ov T.obs*(memA m C*R)))) h rfl (Z4p h0.1) hi (Z3w h0.1 hi) rfl rfl ?_ (fun _=>rfl)).mono fun e w' he=>he.mono fun E q' w' h=>⟨(),?_⟩
  · intro F w' h
    refine (Z95 (X:=thR p n id (T.local_ i) q (.pointer none)) (R:=F*(Z0a (.slice q.A p.length q.cp) p*(obsA q.sv T.seen*(obsA q.ov T.obs*(memA m C*R))))) (h.pk2 [1,0]) h1 rfl ?_).mono fun e w' he=>he.mono fun E _ w' h=>⟨(),h.pk3 [0,2,1]⟩
    intro F' w' h
    exact (Zlg (h.pk2 [1,0]) hI h1 h0).mono fun e w' he=>⟨he.1,he.2.pk2 [1,0]⟩
  · have h3:Hold w0 w' (thS t c p n id (T.local_ i)*(E*(memA m C*R))):=Z3u q hq (h.pk5 [1,2,3,4,0])
    exact h3.pk2 [1,0]
theorem Zdn {w0 w:World} {N F' Th At En St Lg F Cd Ob M:Asr} (h:Hold w0 w (N*(F'*(Th*(At*(En*(St*(Lg*(F*(Cd*(Ob*M))))))))))):Hold w0 w (Th*((F'*F)*(Cd*(N*(Ob*((At*(En*(St*Lg)))*M)))))):=by
  have h1:Hold w0 w ((St*Lg)*(N*(F'*(Th*(At*(En*(F*(Cd*(Ob*M))))))))):=(h.pk10 [5,6,0,1,2,3,4,7,8,9]).join
  have h2:Hold w0 w ((En*(St*Lg))*(N*(F'*(Th*(At*(F*(Cd*(Ob*M)))))))):=(h1.pk6 [5,0,1,2,3,4]).join
  have h3:Hold w0 w ((At*(En*(St*Lg)))*(N*(F'*(Th*(F*(Cd*(Ob*M))))))):=(h2.pk5 [4,0,1,2,3]).join
  have h4:Hold w0 w ((F'*F)*((At*(En*(St*Lg)))*(N*(Th*(Cd*(Ob*M)))))):=(h3.pk5 [2,4,0,1,3]).join
  exact h4.pk6 [3,0,4,2,5,1]
theorem Zg7 (h:Hold w0 w (thS t c p n id T*(memA m C*R))) (h0:0≤T.pc∧T.pc≤1000000) (hi:p[T.pc.toNat]?=some i) (hq:T.ph = .none) (h1:i.op=7) (hC:COk C) (hid:0≤id∧id≤100) (htr:0≤T.tries∧T.tries≤1000000) (hct:0≤T.count∧T.count≤1000000) :
    Z49 w0 t m c p n id R (opC C 6 id 1 true) (T.begun c) 2 (T.count + 1) (stA2 C 6 id 1) w:=by
  obtain ⟨q,h⟩:=Z4m h hq
  have hb':Z3d (T.begun c).ph=true:=rfl
  refine (Z2z (X:=fun q':TQ=>thR p n id (T.begun c) q' (attV q'.g (T.begun c).ph)) (Q:=fun q'=>Z0a (.slice q'.A p.length q'.cp) p*(obsA q'.sv (T.begun c).seen*(obsA q'.ov (T.begun c).obs*(attA q'.g c id (T.begun c) (T.begun c).ph*(memA m (opC C 6 id 1 true)*R))))) h rfl (Z4p h0.1) hi (Z3w h0.1 hi) rfl rfl ?_ (fun _=>rfl)).mono fun e w' he=>he.mono fun E q' w' h=>⟨(),Zaj h⟩
  intro F w' h
  refine (Z7q (Q2:=fun q':TQ=>thA t c (thR p n id (T.begun c) q' (attV q'.g (T.begun c).ph))*(F*(Z0a (.slice q'.A p.length q'.cp) p*(obsA q'.sv (T.begun c).seen*(obsA q'.ov (T.begun c).obs*(attA q'.g c id (T.begun c) (T.begun c).ph*(memA m (opC C 6 id 1 true)*R))))))) (h.pk2 [1,0]) h1 htr hct ?_).mono fun e w' he=>he.mono fun E q' w' h=>⟨q',h.pk3 [0,2,1]⟩
  intro F' g gs gl ge w' h
  have h2:=(((h.nilRowS 55 3).pk10 [9,0,1,2,3,4,5,6,7,8]).drop)
  have h3:=Zdn h2
  refine (Z3y (T:=T.begun c) (T':=T.begun c) (C:=C) (C':=opC C 6 id 1 true) (p:=p) (n:=n) (id:=id) (ph:=2) (a:=stA2 C 6 id 1) (F:=F'*F) (q:={ q with g:=g,sv:=.slice none 0 0 }) h3 hb' ⟨fun _ _=>rfl,rfl,rfl⟩ (by decide) (by decide) ?_).mono fun e w' he=>he.mono fun E q' w' h=>⟨q',?_⟩
  · intro R w h
    have h1:=h.imp (Imp.assoc _ _ _)
    have h2:=(h1.pk2 [1,0]).imp (Imp.assoc _ _ _)
    have h3:=(h2.pk2 [1,0]).imp (Imp.assoc _ _ _)
    exact Zi3 (th:=0) (h3.pk5 [3,2,0,1,4]) hC hid
  · exact ((h.pk3 [2,0,1]).imp (Imp.assoc _ _ _)).pk4 [2,0,3,1]
end
section
variable {w0 w:World} {R:Asr} {t g m:Nat} {c:Cfg} {p:List InsR} {n id:Int} {T T':TS} {C C':Cells} {a:Acc} {ph att v:Int} {i:InsR} {b:Bool}
theorem Zfu {F:Asr} {q:TQ} {tk:Int} (h:Hold w0 w (thA t c (thR p n id T q (ptrV q.g))*(F*(Z0a (.slice q.A p.length q.cp) p*(obsA q.sv T.seen*(obsA q.ov T.obs*(atS q.g c id T*(memA m C*R)))))))) (hq:T.ph = .dec tk) (hC:COk C) (hL:T.L.addrs ≠ []) (hg:0≤(ldA C 3 0).got∧(ldA C 3 0).got≤1099511627776) (hg1:(ldA C 3 0).got≤1000) (hcl:(ldA C 3 0).got < c.clock) (hcl2:c.clock≤1099511627776) (H:Inv T.L) (hadr:∀ z ∈ T.L.addrs,0≤z∧z < c.words) (hcw:c.words≤64) (hns:T.sn.length≤1000) :
    AdGoal w0 t m c p n id R F C { T with ph:=.wr tk (ldA C 3 0).got 0 } 16 T.count (ldA C 3 0) w:=by
  refine AdGoal.of (by intro h;cases h) ?_
  replace h:=h.pk6 [5,0,1,2,3,4]
  replace h:Hold w0 w (atS q.g c id T*(thA t c (thR p n id T q (ptrV q.g))*(F*(Z0a (.slice q.A p.length q.cp) p*(obsA q.sv T.seen*(obsA q.ov T.obs*(memA m C*R))))))):=h
  unfold atS at h
  rw [hq] at h
  obtain ⟨z,⟨⟨e1,e2,e3,e4,e5,e6,e7,e8,e9⟩,hat,hcd,htu,hlo⟩,h⟩:=h.Zm8
  replace h:Hold w0 w (tuA z.gt true tk true*(lokA c id T z*(atA q.g c z.x*(enA z.ge id 3 T.rv*(stA z.x.set (Z08 c.reads) T.S*(lgA z.x.log T.L*(queA 3 (.slice z.Bs T.sn.length z.Bc) (iL T.sn)*(thA t c (thR p n id T q (ptrV q.g))*(F*(Z0a (.slice q.A p.length q.cp) p*(obsA q.sv T.seen*(obsA q.ov T.obs*(memA m C*R))))))))))))):=h
  unfold lokC at hlo
  rw [if_neg hL] at hlo
  unfold lokA at h
  rw [if_neg hL] at h
  replace h:=h.imp (Imp.under _ (Imp.assoc _ _ _))
  replace h:=(h.pk8 [3,6,7,0,2]).pk11 [5,0,1,2,10,3,4,6,7,8,9]
  refine (Z4l (c:=c) (L:=T.L) (sn:=T.sn) (ns:=T.sn.length) (cs:=z.Bc) (As:=z.Bs) (gl:=fun _:Nat=>z.x.log) (Y:=fun gk:Nat=>{ z.x with clock:=(ldA C 3 0).got,decided:=true,at_:=9,write:=ptrV gk })
    (Q0:=fun gk=>wrA gk T.L.addrs T.L.vals*(memA m C*(tuA z.gt true tk true*(queA 3 (.slice z.Co (osT c T).length z.Cc) (iL (osT c T))*(F*(Z0a (.slice q.A p.length q.cp) p*(obsA q.sv T.seen*(obsA q.ov T.obs*R)))))))) rfl h rfl ?_ ?_ (fun gk=>⟨rfl,e7,rfl,hcd⟩) hadr hcw H hns).mono fun e w' he=>he.mono fun E gk w' h=>⟨q,?_⟩
  · intro F' w' h
    refine Z48 (h.pk6 [2,3,5,4,0,1]) hat (fun w' gr h=>?_)
    refine (Z4h (h.pk4 [1,2,3,0]) rfl hC rfl hg hcd H (List.length_pos_iff.2 hL) hcl hcl2).mono fun e w' he=>he.mono fun gk w' h=>⟨gk,h.pk8 [4,6,7,0,2,5,1,3]⟩
  · intro F' gk w' h
    exact (Z5n (h.pk3 [2,0,1])).mono fun e w' h=>⟨h.1,h.2⟩
  · have h2:=h.pk9 [7,5,8,2,3,0,1,6]
    have h3:Hold w0 w' (atS q.g c id { T with ph:=.wr tk (ldA C 3 0).got 0 }*(E*(thA t c (thR p n id T q (ptrV q.g))*(memA m C*(F*(Z0a (.slice q.A p.length q.cp) p*(obsA q.sv T.seen*(obsA q.ov T.obs*R)))))))):=by
      unfold atS
      exact Hold.Zm9 { z with x:={ z.x with clock:=(ldA C 3 0).got,decided:=true,at_:=9,write:=ptrV gk },gw:=gk } ⟨⟨e1,e2,e3,e4,e5,e6,e7,hg.1,hg1⟩,rfl,hcd,htu,hlo.2,rfl,rfl,rfl⟩ h2
    exact h3.pk8 [1,2,4,5,6,7,0,3]
theorem Zi1 {F:Asr} {q:TQ} {tk:Int} (h:Hold w0 w (thA t c (thR p n id T q (ptrV q.g))*(F*(Z0a (.slice q.A p.length q.cp) p*(obsA q.sv T.seen*(obsA q.ov T.obs*(atS q.g c id T*(memA m C*R)))))))) (hq:T.ph = .dec tk) (hC:COk C) (hL:T.L.addrs=[]) (hg:0≤(ldA C 3 0).got∧(ldA C 3 0).got≤1099511627776) (hg1:(ldA C 3 0).got≤1000) (H:Inv T.L) (hTc:T.code=1) (hadr:∀ z ∈ T.L.addrs,0≤z∧z < c.words) (hcw:c.words≤64) (hns:T.sn.length≤1000) :
    AdGoal w0 t m c p n id R F C { T with ph:=.pass tk } 16 T.count (ldA C 3 0) w:=by
  refine AdGoal.of (by intro h;cases h) ?_
  replace h:=h.pk6 [5,0,1,2,3,4]
  replace h:Hold w0 w (atS q.g c id T*(thA t c (thR p n id T q (ptrV q.g))*(F*(Z0a (.slice q.A p.length q.cp) p*(obsA q.sv T.seen*(obsA q.ov T.obs*(memA m C*R))))))):=h
  unfold atS at h
  rw [hq] at h
  obtain ⟨z,⟨⟨e1,e2,e3,e4,e5,e6,e7,e8,e9⟩,hat,hcd,htu,hlo⟩,h⟩:=h.Zm8
  replace h:Hold w0 w (tuA z.gt true tk true*(lokA c id T z*(atA q.g c z.x*(enA z.ge id 3 T.rv*(stA z.x.set (Z08 c.reads) T.S*(lgA z.x.log T.L*(queA 3 (.slice z.Bs T.sn.length z.Bc) (iL T.sn)*(thA t c (thR p n id T q (ptrV q.g))*(F*(Z0a (.slice q.A p.length q.cp) p*(obsA q.sv T.seen*(obsA q.ov T.obs*(memA m C*R))))))))))))):=h
  unfold lokC at hlo
  rw [if_pos hL] at hlo
  replace h:=(h.pk7 [2,5,6,0]).pk10 [4,0,1,2,9,3,5,6,7,8]
  refine (Z4l (c:=c) (L:=T.L) (sn:=T.sn) (ns:=T.sn.length) (cs:=z.Bc) (As:=z.Bs) (gl:=fun _:Unit=>z.x.log) (Y:=fun _:Unit=>{ z.x with clock:=(ldA C 3 0).got,decided:=true,at_:=12 })
    (Q0:=fun _=>memA m C*(tuA z.gt true tk true*(F*(Z0a (.slice q.A p.length q.cp) p*(obsA q.sv T.seen*(obsA q.ov T.obs*R)))))) rfl h rfl ?_ ?_ (fun gk=>⟨rfl,e7,rfl,hcd⟩) hadr hcw H hns).mono fun e w' he=>he.mono fun E gk w' h=>⟨q,?_⟩
  · intro F' w' h
    refine Z48 (h.pk6 [2,3,5,4,0,1]) hat (fun w' gr h=>?_)
    refine (Z4y (h.pk4 [1,2,3,0]) rfl hC rfl hg hcd H hL hlo).mono fun e w' he=>he.mono fun gk w' h=>⟨gk,h.pk7 [3,5,6,0,1,4,2]⟩
  · intro F' gk w' h
    exact (Z5n (h.pk3 [2,0,1])).mono fun e w' h=>⟨h.1,h.2⟩
  · have h2:=h.pk7 [6,2,0,1,5]
    have h3:Hold w0 w' (atS q.g c id { T with ph:=.pass tk }*(E*(thA t c (thR p n id T q (ptrV q.g))*(memA m C*(F*(Z0a (.slice q.A p.length q.cp) p*(obsA q.sv T.seen*(obsA q.ov T.obs*R)))))))):=by
      unfold atS
      exact Hold.Zm9 { z with x:={ z.x with clock:=(ldA C 3 0).got,decided:=true,at_:=12 } } ⟨⟨e1,e2,e3,e4,e5,e6,e7,hg.1,hg1⟩,rfl,hcd.trans hTc.symm,htu⟩ h2
    exact h3.pk8 [1,2,4,5,6,7,0,3]
def EndP (w0:World) (t:Nat) (c:Cfg) (p:List InsR) (n id:Int) (q:TQ) (T':TS) (R:Asr) (e:Ending) (w:World):Prop :=
  ∃ ov',e = .returned (.tuple #[])∧Hold w0 w (thA t c (thR p n id T' { q with ov:=ov' } (.pointer none))*(Z0a (.slice q.A p.length q.cp) p*(obsA q.sv T'.seen*(obsA ov' T'.obs*R))))
theorem Zft {F:Asr} {q:TQ} (h:Hold w0 w (thA t c (thR p n id T q (ptrV q.g))*(F*(Z0a (.slice q.A p.length q.cp) p*(obsA q.sv T.seen*(obsA q.ov T.obs*(atS q.g c id T*(memA m C*R)))))))) (hq:T.ph = .leave) (hC:COk C) (hid:0≤id∧id≤100) (h0:0≤T.pc) (hi:p[T.pc.toNat]?=some i) (hq':T'.ph = .none)
    (he:∀ y R w',Hold w0 w' (thA t c (thR p n id T q (ptrV q.g))*(atA q.g c y*(Z0a (.slice q.A p.length q.cp) p*(obsA q.sv T.seen*(obsA q.ov T.obs*R)))))→y.code=T.code→y.frees = .slice none 0 0→Calls Tryz.prog 104 #[ptrV t] w' (EndP w0 t c p n id q T' R)) :
    AdGoal w0 t m c p n id R F (opC C 6 id 0 true) T' 24 T.count (stA2 C 6 id 0) w:=by
  unfold AdGoal
  rw [hq']
  refine (Z56 (ι:={ y:AtR // y.at_=0∧y.state=2∧y.code=T.code∧y.frees = .slice none 0 0 }) (Q:=fun y=>Z0a (.slice q.A p.length q.cp) p*(F*(obsA q.sv T.seen*(obsA q.ov T.obs*(atA q.g c y.1*(memA m (opC C 6 id 0 true)*R))))))
    (Q2:=fun ov':Value=>thA t c (thR p n id T' { q with ov:=ov' } (.pointer none))*(F*(Z0a (.slice q.A p.length q.cp) p*(obsA q.sv T'.seen*(obsA ov' T'.obs*(memA m (opC C 6 id 0 true)*R)))))) rfl h rfl (by decide) (by decide) rfl (Z4p h0) hi ?_ ?_ ?_).mono fun e w' he=>he.mono fun E ov' w' h=>⟨{ q with ov:=ov' },?_⟩
  · intro F' w' h
    exact (Zjg (h.pk8 [6,7,0,1,2,3,4,5]) hq hC hid).mono fun e w' he=>he.mono fun y w' h=>⟨y,h.pk8 [2,3,5,4,6,7,0,1]⟩
  · intro F' y w' h
    refine (Z5n (h.pk7 [6,0,1,2,3,4,5])).mono fun e w' h=>⟨?_,h.2⟩
    have:=h.1
    rw [y.2.1] at this
    exact this
  · intro F' y w' h
    refine (Zcz (P:=fun e w''=>∃ j2,e = .returned (.tuple #[])∧Hold w0 w'' (F'*(thA t c (thR p n id T' { q with ov:=j2 } (.pointer none))*(F*(Z0a (.slice q.A p.length q.cp) p*(obsA q.sv T'.seen*(obsA j2 T'.obs*(memA m (opC C 6 id 0 true)*R)))))))) (h.pk7 [1,6,0,2,3,4,5]) rfl y.2.2.1 rfl ?_).mono fun e w' h=>h
    · intro w' h
      refine (he y.1 (F'*(F*(memA m (opC C 6 id 0 true)*R))) w' (h.pk8 [0,1,3,5,6,2,4,7]) y.2.2.2.1 y.2.2.2.2).mono fun e w' h=>?_
      obtain ⟨ov',h1,h2⟩:=h
      exact ⟨h1,ov',h1,h2.pk6 [4,0,5,1,2,3]⟩
  · exact (h.imp (Imp.Zmd _)).pk7 [1,2,3,4,5,6,0]
end
def Zly:Ph→Prop
  | .lk _ sn=>0≤sn∧sn≤1000000
  | .wr tk ck _=>0≤tk∧tk≤1000000∧0≤ck∧ck < 1000
  | .rel tk ck _ st=>0≤tk∧tk≤1000000∧(st=true→0≤ck∧ck < 1000)
  | .stamp tk ck=>0≤tk∧tk≤1000000∧0≤ck∧ck < 1000
  | .pass tk=>0≤tk∧tk≤1000000
  | .rd1 ad _ | .rd2 ad _ _=>0≤ad
  | _=>True
structure Side (c:Cfg) (p:List InsR) (n:Nat) (id:Int) (B:Nat) (C:Cells) (T:TS):Prop where
  cfg:CfgP c
  cap:CapOk c p
  prog:ProgOk c p
  wf:WF c p B T
  hB:B≤900
  shp:Shp c n C
  id0:0≤id∧id≤15
  clk:0≤valC C 3 0∧valC C 3 0≤900
  clc:valC C 3 0 < c.clock∧c.clock≤1099511627776
  orc:∀ o,0≤o→o < c.orecs→0≤valC C 2 o∧valC C 2 o≤1000000
  rv:phIn T.ph=true∨T.ph = .ent2→0≤T.rv∧T.rv≤900
  ph:Zly T.ph
def Stp (w0:World) (c:Cfg) (p:List InsR) (n id:Int) (C:Cells) (T:TS):Prop :=
  ∃ C' T' s,TStep c p id C T C' T' s∧s.th=id∧∀ t m R w,Hold w0 w (thS t c p n id T*(memA m C*R))→Z49 w0 t m c p n id R C' T' s.phase s.att s.acc w
section
variable {w0 w:World} {R:Asr} {t g m n B:Nat} {c:Cfg} {p:List InsR} {id:Int} {T T':TS} {C C':Cells} {a:Acc} {ph att v:Int} {i:InsR} {b:Bool}
theorem Side.osPos (S:Side c p n id B C T) (hL:T.L.addrs ≠ []):0 < (osT c T).length:=List.length_pos_iff.2 (Zcb hL)
theorem Zc9 {N:Int}:∀ (l:List Int) (lo:Int),lo≤N→l.Pairwise (· < ·)→(∀ z ∈ l,lo≤z∧z < N)→(l.length:Int)≤N - lo
  | [],lo,h,_,_=>by show (0:Int)≤_;omega
  | x :: l,lo,h,hp,hz=>by
    have h1:=hz x (by simp)
    have h2:=Zc9 l (x + 1) (by omega) (List.pairwise_cons.1 hp).2 fun z h=>⟨by have:=(List.pairwise_cons.1 hp).1 z h;omega,(hz z (by simp [h])).2⟩
    rw [List.length_cons]
    omega
theorem Side.osLen (S:Side c p n id B C T):(osT c T).length≤64:=by
  have h1:=Zc9 (N:=c.orecs) (osT c T) 0 (by have:=S.cfg.orecs;omega) (Z7v _) fun z h=>Z17 S.cfg.orecs.1 h
  have:=S.cfg.orecs
  omega
theorem Side.osRng (S:Side c p n id B C T) {k:Nat} {o:Int} (h:(osT c T)[k]?=some o):0≤o∧o < c.orecs:=Z17 S.cfg.orecs.1 (List.mem_of_getElem? h)
theorem Side.pcLt (S:Side c p n id B C T) (h:T.pc ≠ p.length):∃ i,p[T.pc.toNat]?=some i:=by
  have h1:=S.wf.pc0
  have h2:=S.wf.pcl
  exact ⟨p[T.pc.toNat]'(by omega),List.getElem?_eq_getElem (by omega)⟩
theorem Side.pcB (S:Side c p n id B C T):0≤T.pc∧T.pc≤1000000:=by
  have h1:=S.wf.pc0
  have h2:=S.wf.pcl
  have h3:=S.prog.len
  omega
theorem Side.oLd (S:Side c p n id B C T) {o:Int} (h:0≤o∧o < c.orecs):(ldA C 2 o).got=valC C 2 o∧(ldA C 2 o).kind=1∧0≤(ldA C 2 o).got∧(ldA C 2 o).got≤1000000∧(ldA C 2 o).got < 18446744073709551616∧-9223372036854775808≤o∧o≤9223372036854775807:=by
  have h1:=S.orc o h.1 h.2
  have h2:=S.cfg.orecs
  have hh:=S.shp.h2 h.1 h.2
  refine ⟨Z3h hh,Zcc hh 1,?_,?_,?_,by omega,by omega⟩ <;> rw [Z3h hh] <;> omega
theorem Ziw {ld:Bool} {sn:Int} (S:Side c p n id B C T) (hi:p[T.pc.toNat]?=some i) (hq:T.ph = .lk ld sn):Stp w0 c p n id C T:=by
  have hb:Z3d T.ph=true:=by rw [hq];rfl
  have hw:=S.wf.phs
  rw [hq] at hw
  have hsd:=S.ph
  rw [hq] at hsd
  replace hsd:0≤sn∧sn≤1000000:=hsd
  replace hw:T.code=1∧T.old.length < (osT c T).length:=hw
  obtain ⟨o,ho⟩:∃ o,(osT c T)[T.old.length]?=some o:=⟨_,List.getElem?_eq_getElem hw.2⟩
  have hor:=S.osRng ho
  have hol:=S.oLd hor
  have hl:=S.osLen
  have hid:=S.id0
  have hx:=S.shp.h2 hor.1 hor.2
  have hn:T.ph ≠ .none:=Z3c hb
  have hL:T.L.addrs ≠ []:=by
    intro h0
    rw [Z84 h0] at ho
    cases ho
  cases ld with
  | false =>
    refine ⟨_,_,_,.lload sn o hq ho,rfl,fun t m R w h=>?_⟩
    exact Z1a h S.pcB.1 hi hb rfl ⟨fun _ _=>rfl,rfl,rfl⟩ (by simp) (by simp) fun g R w h=>Zje h hq S.shp.ok ho hol.2.2.2.2.2 ⟨hol.2.2.1,hol.2.2.2.2.1⟩ hol.2.1
  | true =>
    have hk:(opA C 3 2 o (sn + id + 1) (valC C 2 o == sn)).kind=3:=Zcc hx 3
    by_cases hd:(oldN (opA C 3 2 o (sn + id + 1) (valC C 2 o == sn)).done T.old sn).length=(osT c T).length
    · refine ⟨_,_,_,.llast sn o _ _ hq ho rfl rfl hd,rfl,fun t m R w h=>?_⟩
      exact Z1a h S.pcB.1 hi hb rfl ⟨fun _ _=>rfl,rfl,rfl⟩ (by simp) (by simp) fun g R w h=>Zjf h hq S.shp.ok ho hol.2.2.2.2.2 ⟨hsd.1,by omega⟩ hid rfl (by omega) rfl hk hd hL
    · refine ⟨_,_,_,.lmore sn o _ _ hq ho rfl rfl hd,rfl,fun t m R w h=>?_⟩
      exact Z1a h S.pcB.1 hi hb rfl ⟨fun _ _=>rfl,rfl,rfl⟩ (by simp) (by simp) fun g R w h=>Zjd h hq S.shp.ok ho hol.2.2.2.2.2 ⟨hsd.1,by omega⟩ hid rfl (by omega) rfl hk hd
theorem Zit (S:Side c p n id B C T) (hi:p[T.pc.toNat]?=some i) (hq:T.ph = .take):Stp w0 c p n id C T :=
  ⟨_,_,_,.ticket hq,rfl,fun t m R w h=>Z1a h S.pcB.1 hi (by rw [hq];rfl) rfl ⟨fun _ _=>rfl,rfl,rfl⟩ (by simp) (by simp) fun g R w h=>Zgg h hq S.shp.ok⟩
theorem Zis {tk:Int} (S:Side c p n id B C T) (hi:p[T.pc.toNat]?=some i) (hq:T.ph = .wait tk):Stp w0 c p n id C T:=by
  have hb:Z3d T.ph=true:=by rw [hq];rfl
  have hrv:=S.rv (.inl (by rw [hq];rfl))
  have hs:T.S.length≤1000:=by have:=S.wf.Scap;unfold Z08 at this;omega
  by_cases he:valC C 5 0=tk
  · by_cases hS:T.S=[]
    · exact ⟨_,_,_,.mine0 tk hq he hS,rfl,fun t m R w h=>Z1a h S.pcB.1 hi hb rfl ⟨fun _ _=>rfl,rfl,rfl⟩ (by simp) (by simp) fun g R w h=>Zjc h hq S.shp.ok he ⟨hrv.1,by omega⟩ hs hS⟩
    · exact ⟨_,_,_,.mine tk hq he hS,rfl,fun t m R w h=>Z1a h S.pcB.1 hi hb rfl ⟨fun _ _=>rfl,rfl,rfl⟩ (by simp) (by simp) fun g R w h=>Zl2 h hq S.shp.ok he ⟨hrv.1,by omega⟩ hs hS⟩
  · exact ⟨_,_,_,.wait tk hq he,rfl,fun t m R w h=>Z1a h S.pcB.1 hi hb hb ⟨fun _ _=>rfl,rfl,rfl⟩ (by simp) (by simp) fun g R w h=>Zkz h hq S.shp.ok he⟩
theorem Zkx {tk:Int} {zs:List Int} (S:Side c p n id B C T) (hi:p[T.pc.toNat]?=some i) (hq:T.ph = .chk tk zs):Stp w0 c p n id C T:=by
  have hb:Z3d T.ph=true:=by rw [hq];rfl
  have hw:=S.wf.phs
  rw [hq] at hw
  have hl:=S.osLen
  obtain ⟨z,zs,rfl⟩:∃ z zs',zs=z :: zs':=by
    cases zs with
    | nil=>exact absurd rfl hw.2.2.1
    | cons z zs=>exact ⟨z,zs,rfl⟩
  have hz:=S.oLd (S.wf.Srng z (hw.2.2.2 z (by simp)))
  have hg:0≤(ldA C 2 z).got∧(ldA C 2 z).got < 18446744073709551616:=⟨hz.2.2.1,hz.2.2.2.2.1⟩
  by_cases hv:(ldA C 2 z).got / 64≤T.rv
  · by_cases hzs:zs=[]
    · subst hzs
      exact ⟨_,_,_,.clast tk z hq hv,rfl,fun t m R w h=>Z1a h S.pcB.1 hi hb rfl ⟨fun _ _=>rfl,rfl,rfl⟩ (by simp) (by simp) fun g R w h=>Zjj h hq S.shp.ok hz.2.2.2.2.2 hg hv⟩
    · exact ⟨_,_,_,.cmore tk z zs hq hv hzs,rfl,fun t m R w h=>Z1a h S.pcB.1 hi hb rfl ⟨fun _ _=>rfl,rfl,rfl⟩ (by simp) (by simp) fun g R w h=>Zjh h hq S.shp.ok hz.2.2.2.2.2 hg hv hzs⟩
  · have hv':T.rv < (ldA C 2 z).got / 64:=by omega
    by_cases hL:T.L.addrs=[]
    · exact ⟨_,_,_,.cbad0 tk z zs hq hv' hL,rfl,fun t m R w h=>Z1a h S.pcB.1 hi hb rfl ⟨fun _ _=>rfl,rfl,rfl⟩ (by simp) (by simp) fun g R w h=>Zjl h hq S.shp.ok hz.2.2.2.2.2 hg hv' hL⟩
    · exact ⟨_,_,_,.cbad1 tk z zs hq hv' hL,rfl,fun t m R w h=>Z1a h S.pcB.1 hi hb rfl ⟨fun _ _=>rfl,rfl,rfl⟩ (by simp) (by simp) fun g R w h=>Zjk h hq S.shp.ok hz.2.2.2.2.2 hg hv' hL (S.osPos hL) (by omega) hw.2.1⟩
end
section
variable {w0 w:World} {R:Asr} {t g m n B:Nat} {c:Cfg} {p:List InsR} {id:Int} {T T':TS} {C C':Cells} {a:Acc} {ph att v:Int} {i:InsR} {b:Bool}
theorem Side.words (S:Side c p n id B C T) {z:Int} (h:z ∈ T.L.addrs):-9223372036854775808≤z∧z≤9223372036854775807:=by
  have:=S.wf.adr z h
  have:=S.cfg.words
  omega
theorem Zlx {tk ck:Int} {k:Nat} (S:Side c p n id B C T) (hi:p[T.pc.toNat]?=some i) (hq:T.ph = .wr tk ck k):Stp w0 c p n id C T:=by
  have hb:Z3d T.ph=true:=by rw [hq];rfl
  have hw:=S.wf.phs
  rw [hq] at hw
  replace hw:T.code=1∧T.old.length=(osT c T).length∧k < T.L.addrs.length:=hw
  have hsd:=S.ph
  rw [hq] at hsd
  replace hsd:0≤tk∧tk≤1000000∧0≤ck∧ck < 1000:=hsd
  have hl:=S.osLen
  have hv:=S.wf.inv.vlen
  have hz0:T.L.addrs[k]?=some (T.L.addrs[k]):=List.getElem?_eq_getElem hw.2.2
  have hv0:T.L.vals[k]?=some (T.L.vals[k]'(by omega)):=List.getElem?_eq_getElem (by omega)
  have hzr:=S.words (List.getElem_mem hw.2.2)
  have hL:T.L.addrs ≠ []:=by intro h0;rw [h0] at hw;exact absurd hw.2.2 (Nat.not_lt_zero _)
  by_cases hk:k + 1=T.L.addrs.length
  · exact ⟨_,_,_,.wlast tk ck k _ _ hq hz0 hv0 hk,rfl,fun t m R w h=>Z1a h S.pcB.1 hi hb rfl ⟨fun _ _=>rfl,rfl,rfl⟩ (by simp) (by simp) fun g R w h=>Zj6 h hq S.shp.ok hzr hz0 hv0 hk hsd.2.2 hw.1 (S.osPos hL) (by omega)⟩
  · exact ⟨_,_,_,.wmore tk ck k _ _ hq hz0 hv0 (by omega),rfl,fun t m R w h=>Z1a h S.pcB.1 hi hb rfl ⟨fun _ _=>rfl,rfl,rfl⟩ (by simp) (by simp) fun g R w h=>Zj5 h hq S.shp.ok hzr hz0 hv0 (by omega)⟩
theorem Zks {tk ck:Int} {k:Nat} {st:Bool} (S:Side c p n id B C T) (hi:p[T.pc.toNat]?=some i) (hq:T.ph = .rel tk ck k st):Stp w0 c p n id C T:=by
  have hb:Z3d T.ph=true:=by rw [hq];rfl
  have hw:=S.wf.phs
  rw [hq] at hw
  replace hw:T.code=(if st then 1 else 9)∧T.old.length=(osT c T).length∧k < (osT c T).length:=hw
  have hsd:=S.ph
  rw [hq] at hsd
  replace hsd:0≤tk∧tk≤1000000∧(st=true→0≤ck∧ck < 1000):=hsd
  have hl:=S.osLen
  have hz0:(osT c T)[k]?=some ((osT c T)[k]):=List.getElem?_eq_getElem hw.2.2
  have hv0:T.old[k]?=some (T.old[k]'(by omega)):=List.getElem?_eq_getElem (by omega)
  have hzr:=(S.oLd (S.osRng hz0)).2.2.2.2.2
  have hL:T.L.addrs ≠ []:=by intro h0;rw [Z84 h0] at hw;exact absurd hw.2.2 (Nat.not_lt_zero _)
  cases st with
  | true =>
    have hck:=hsd.2.2 rfl
    by_cases hk:k + 1=(osT c T).length
    · exact ⟨_,_,_,.rlast tk ck k true _ _ hq hz0 rfl hk,rfl,fun t m R w h=>Z1a h S.pcB.1 hi hb rfl ⟨fun _ _=>rfl,rfl,rfl⟩ (by simp) (by simp) fun g R w h=>Zgj h hq S.shp.ok hzr hz0 rfl hk ⟨hck.1,by omega⟩ hw.1 hL⟩
    · exact ⟨_,_,_,.rmore tk ck k true _ _ hq hz0 rfl (by omega),rfl,fun t m R w h=>Z1a h S.pcB.1 hi hb rfl ⟨fun _ _=>rfl,rfl,rfl⟩ (by simp) (by simp) fun g R w h=>Zgh h hq S.shp.ok hzr hz0 rfl (by omega)⟩
  | false =>
    by_cases hk:k + 1=(osT c T).length
    · exact ⟨_,_,_,.rlast tk ck k false _ _ hq hz0 hv0 hk,rfl,fun t m R w h=>Z1a h S.pcB.1 hi hb rfl ⟨fun _ _=>rfl,rfl,rfl⟩ (by simp) (by simp) fun g R w h=>Zgk h hq S.shp.ok hzr hz0 hv0 hk hw.1⟩
    · exact ⟨_,_,_,.rmore tk ck k false _ _ hq hz0 hv0 (by omega),rfl,fun t m R w h=>Z1a h S.pcB.1 hi hb rfl ⟨fun _ _=>rfl,rfl,rfl⟩ (by simp) (by simp) fun g R w h=>Zgi h hq S.shp.ok hzr hz0 hv0 (by omega)⟩
theorem Zga {tk ck:Int} (S:Side c p n id B C T) (hi:p[T.pc.toNat]?=some i) (hq:T.ph = .stamp tk ck):Stp w0 c p n id C T:=by
  have hsd:=S.ph
  rw [hq] at hsd
  replace hsd:0≤tk∧tk≤1000000∧0≤ck∧ck < 1000:=hsd
  exact ⟨_,_,_,.stamp tk ck hq,rfl,fun t m R w h=>Z1a h S.pcB.1 hi (by rw [hq];rfl) rfl ⟨fun _ _=>rfl,rfl,rfl⟩ (by simp) (by simp) fun g R w h=>Zj7 h hq S.shp.ok ⟨hsd.2.2.1,by omega⟩⟩
theorem Ziu {tk:Int} (S:Side c p n id B C T) (hi:p[T.pc.toNat]?=some i) (hq:T.ph = .pass tk):Stp w0 c p n id C T:=by
  have hsd:=S.ph
  rw [hq] at hsd
  exact ⟨_,_,_,.pass tk hq,rfl,fun t m R w h=>Z1a h S.pcB.1 hi (by rw [hq];rfl) rfl ⟨fun _ _=>rfl,rfl,rfl⟩ (by simp) (by simp) fun g R w h=>Zl1 h hq S.shp.ok hsd⟩
theorem Zkw {tk:Int} (S:Side c p n id B C T) (hi:p[T.pc.toNat]?=some i) (hq:T.ph = .dec tk):Stp w0 c p n id C T:=by
  have hb:Z3d T.ph=true:=by rw [hq];rfl
  have hw:=S.wf.phs
  rw [hq] at hw
  have hg:(ldA C 3 0).got=valC C 3 0:=Z3h S.shp.h3
  have hck:=S.clk
  have hcc:=S.clc
  have hsn:T.sn.length≤1000:=by have:=S.wf.snl;have:=S.hB;omega
  have hcw:=S.cfg.words
  by_cases hL:T.L.addrs=[]
  · exact ⟨_,_,_,.dnone tk hq hL,rfl,fun t m R w h=>Z30 h S.pcB.1 hi hb fun F q w' h=>Zi1 h hq S.shp.ok hL (by rw [hg];omega) (by rw [hg];omega) S.wf.inv hw.1 S.wf.adr hcw.2 hsn⟩
  · exact ⟨_,_,_,.dstore tk hq hL (by rw [hg];exact hcc.1),rfl,fun t m R w h=>Z30 h S.pcB.1 hi hb fun F q w' h=>Zfu h hq S.shp.ok hL (by rw [hg];omega) (by rw [hg];omega) (by rw [hg];exact hcc.1) hcc.2 S.wf.inv S.wf.adr hcw.2 hsn⟩
theorem Zgb (S:Side c p n id B C T) (hF:FormsAt w0) (hi:p[T.pc.toNat]?=some i) (hq:T.ph = .leave):Stp w0 c p n id C T:=by
  have hb:Z3d T.ph=true:=by rw [hq];rfl
  have hn:=Z3c hb
  have hw:=S.wf.phs
  rw [hq] at hw
  replace hw:T.code=1∨T.code=9:=hw
  obtain ⟨hb0,j,hj,h7⟩:=S.wf.bg hn
  have hbe:T.begin_=(T.begin_.toNat:Int):=by omega
  have hid:0≤id∧id≤100:=by have:=S.id0;omega
  have hl:T.seen.length≤1000∧T.obs.length≤1000:=by have:=S.wf.seenl;have:=S.hB;omega
  rcases hw with h1 | h9
  · refine ⟨_,_,_,.commit hq h1,rfl,fun t m R w h=>Z30 h S.pcB.1 hi hb fun F q w' h=>Zft h hq S.shp.ok hid S.pcB.1 hi rfl fun y R w' h hy hyf=>?_⟩
    refine (Z7r h rfl (hy.trans h1) hyf rfl rfl rfl hbe hj h7 S.prog hF hl).mono fun e w' h=>?_
    obtain ⟨ov',e1,h2⟩:=h
    rw [← hbe] at h2
    exact ⟨ov',e1,h2⟩
  · by_cases htr:T.tries < j.imm
    · refine ⟨_,_,_,.again j hq h9 hj htr,rfl,fun t m R w h=>Z30 h S.pcB.1 hi hb fun F q w' h=>Zft h hq S.shp.ok hid S.pcB.1 hi rfl fun y R w' h hy hyf=>?_⟩
      refine (Z96 h rfl (hy.trans h9) hyf rfl rfl rfl hbe hj h7 S.prog hF htr hl).mono fun e w' h=>?_
      obtain ⟨e1,h2⟩:=h
      rw [← hbe] at h2
      exact ⟨q.ov,e1,h2⟩
    · refine ⟨_,_,_,.gaveUp j hq h9 hj (by omega),rfl,fun t m R w h=>Z30 h S.pcB.1 hi hb fun F q w' h=>Zft h hq S.shp.ok hid S.pcB.1 hi rfl fun y R w' h hy hyf=>?_⟩
      refine (Zag h rfl (hy.trans h9) hyf rfl rfl rfl hbe hj h7 S.prog hF (by show j.imm≤T.tries;omega) hl).mono fun e w' h=>?_
      obtain ⟨ov',e1,h2⟩:=h
      rw [← hbe] at h2
      exact ⟨ov',e1,h2⟩
end
section
variable {w0 w:World} {R:Asr} {t g m n B:Nat} {c:Cfg} {p:List InsR} {id:Int} {T T':TS} {C C':Cells} {a:Acc} {ph att v:Int} {i:InsR} {b:Bool}
theorem Z9l (S:Side c p n id B C T) (a:Int):0≤a % c.orecs∧a % c.orecs < c.orecs:=⟨Int.emod_nonneg _ (by have:=S.cfg.orecs;omega),Int.emod_lt_of_pos _ (by have:=S.cfg.orecs;omega)⟩
theorem Ziz (S:Side c p n id B C T) (hi:p[T.pc.toNat]?=some i) (hq:T.ph = .ent1):Stp w0 c p n id C T:=by
  have hid:0≤id∧id≤100:=by have:=S.id0;omega
  have hck:=S.clk
  exact ⟨_,_,_,.clock hq,rfl,fun t m R w h=>Zkq h S.pcB.1 hi (by rw [hq];rfl) rfl ⟨fun _ _=>rfl,rfl,rfl⟩ fun g R w h=>Zji h hq S.shp.ok hid (by rw [Z3h S.shp.h3];omega)⟩
theorem Ziy (S:Side c p n id B C T) (hi:p[T.pc.toNat]?=some i) (hq:T.ph = .ent2):Stp w0 c p n id C T:=by
  have hb:Z3d T.ph=true:=by rw [hq];rfl
  have hid:0≤id∧id≤100:=by have:=S.id0;omega
  have hrv:=S.rv (.inr hq)
  have hw:=S.wf.phs
  rw [hq] at hw
  obtain ⟨hb0,j,hj,h7⟩:=S.wf.bg (Z3c hb)
  rw [← hw.1,hi] at hj
  obtain rfl:i=j:=by injection hj
  exact ⟨_,_,_,.active hq,rfl,fun t m R w h=>Z30 h S.pcB.1 hi hb fun F q w' h=>Zfs h S.pcB hi (by omega) (by omega) rfl (by simp) (by simp) ⟨fun _ _=>rfl,rfl,rfl⟩ fun R w h=>Zgl h hq S.shp.ok hid ⟨hrv.1,by omega⟩⟩
theorem Zku {ad bf:Int} (S:Side c p n id B C T) (hi:p[T.pc.toNat]?=some i) (hq:T.ph = .rd1 ad bf):Stp w0 c p n id C T:=by
  have hw:=S.wf.phs
  rw [hq] at hw
  obtain ⟨_,_,j,hj,h10,hjm⟩:=hw
  have hI:0≤j.imm∧j.imm < c.words:=by rcases S.prog.ins _ _ hj with h | h | h | h | h | h <;> omega
  have hcw:=S.cfg.words
  exact ⟨_,_,_,.r1 ad bf hq,rfl,fun t m R w h=>Z1a h S.pcB.1 hi (by rw [hq];rfl) rfl ⟨fun _ _=>rfl,rfl,rfl⟩ (by simp) (by simp) fun g R w h=>s_r1 h hq S.shp.ok (by omega)⟩
theorem Zkt {ad bf vl:Int} (S:Side c p n id B C T) (hi:p[T.pc.toNat]?=some i) (hq:T.ph = .rd2 ad bf vl):Stp w0 c p n id C T:=by
  have hb:Z3d T.ph=true:=by rw [hq];rfl
  have hn:=Z3c hb
  have hw:=S.wf.phs
  rw [hq] at hw
  obtain ⟨_,_,j,hj,h10,hjm⟩:=hw
  rw [hi] at hj
  obtain rfl:i=j:=by injection hj
  have hI:0≤i.imm∧i.imm < c.words∧1≤i.a∧i.a < 8:=by rcases S.prog.ins _ _ hi with h | h | h | h | h | h <;> omega
  have hcw:=S.cfg.words
  have hcap:=S.cap.rd _ _ hi h10
  have hlS:=S.wf.lenS hn (by rw [hq];rfl)
  have hor:=(S.oLd (Z9l S ad)).2.2.2.2.2
  by_cases hg:(ldA C 2 (ad % c.orecs)).got=bf
  · have hadd:Z53 (Z08 c.reads) T.S (ad % c.orecs)=true:=by unfold Z53;rw [decide_eq_true (show T.S.length < Z08 c.reads by omega)];simp
    have hsn:T.sn.length≤1000:=by have:=S.wf.snl;have:=S.hB;omega
    have hsl:T.seen.length≤1000:=by have:=S.wf.seenl;have:=S.hB;omega
    refine ⟨_,_,_,.r2ok ad bf vl i hi h10 hjm hq hg,rfl,fun t m R w h=>Z30 h S.pcB.1 hi hb fun F q w' h=>Zfr (r:=i.a.toNat) (v:=vl) h S.pcB hi h10 (by omega) (by omega) hsl rfl (by simp) (by simp) ⟨fun _ _=>rfl,rfl,rfl⟩ fun R w h=>?_⟩
    by_cases hm:ad ∈ T.sn
    · have e:Z3s T.sn ad=T.sn:=by unfold Z3s;rw [if_pos hm]
      rw [e]
      exact Zj8 h hq S.shp.ok hor hg (by omega) (by omega) S.cfg.ok hadd S.wf.Scap hsn hm
    · have e:Z3s T.sn ad=T.sn++[ad]:=by unfold Z3s;rw [if_neg hm]
      rw [e]
      exact Zj9 h hq S.shp.ok hor hg (by omega) (by omega) S.cfg.ok hadd S.wf.Scap hsn hm
  · exact ⟨_,_,_,.r2bad ad bf vl hq hg,rfl,fun t m R w h=>Z1a h S.pcB.1 hi hb rfl ⟨fun _ _=>rfl,rfl,rfl⟩ (by simp) (by simp) fun g R w h=>Zja h hq S.shp.ok hor hg⟩
theorem Zix (S:Side c p n id B C T) (hi:p[T.pc.toNat]?=some i) (hq:T.ph = .idle):Stp w0 c p n id C T:=by
  have hn:T.ph ≠ .none:=by rw [hq];intro h;cases h
  have hin:inT p T.pc.toNat=true:=by rw [S.wf.plc,hq];rfl
  have hw:=S.wf.phs
  rw [hq] at hw
  replace hw:T.old=[]:=hw
  have hI:=S.prog.ins _ _ hi
  have hI2:=hI
  rw [hin] at hI2
  have hr0:=S.wf.r0.1
  have hcw:=S.cfg.words
  have hrv:=S.rv (.inl (by rw [hq];rfl))
  rcases hI2 with h1 | h1 | h1 | h1 | h1 | h1
  · exact ⟨_,_,_,.loc1 i hi (.inl h1.1) hq,rfl,fun t m R w h=>Zdz h S.pcB hi hq hI (.inl h1.1)⟩
  · exact ⟨_,_,_,.loc1 i hi (.inr h1.1) hq,rfl,fun t m R w h=>Zdz h S.pcB hi hq hI (.inr h1.1)⟩
  · exact absurd h1.2.1 (by simp)
  ·
    have hreq:∀ (t:Nat) q R w',Hold w0 w' (thA t c (thR p n id T q (ptrV q.g))*(atS q.g c id T*R))→Calls Tryz.prog 67 #[ptrV t,i.val] w' (Z73 w0 (fun _:Unit=>thA t c (thR p n id T q (ptrV q.g))*(atEn q.g c id T*R))):=fun t q R w' h =>
      Zcx (Q:=fun _:Unit=>atEn q.g c id T*R) h rfl h1.1 fun F w' h=>(Zm0 (h.pk3 [2,0,1]) hq).mono fun e w' h=>⟨(),h.1,h.2.pk3 [1,2,0]⟩
    by_cases hL:T.L.addrs=[]
    · exact ⟨_,_,_,.cnone i hi h1.1 hq hL,rfl,fun t m R w h=>Zcy (X:=fun g=>atEn g c id T) h S.pcB.1 hi hq (.inr (.inr h1.1)) (hreq _) fun F q w' h=>Z3y h rfl ⟨fun _ _=>rfl,rfl,rfl⟩ (by simp) (by simp) fun R w h=>Ze9 h hL⟩
    · exact ⟨_,_,_,.clock_ i hi h1.1 hq hL,rfl,fun t m R w h=>Zcy (X:=fun g=>atEn g c id T) h S.pcB.1 hi hq (.inr (.inr h1.1)) (hreq _) fun F q w' h=>Z3y h rfl ⟨fun _ _=>rfl,rfl,rfl⟩ (by simp) (by simp) fun R w h=>Zea h hL S.wf.inv S.cfg.ok S.wf.adr hw⟩
  ·
    have hsl:T.seen.length≤1000:=by have:=S.wf.seenl;have:=S.hB;omega
    by_cases hg:Z44 T.L i.imm=true
    · exact ⟨_,_,_,.rlog i hi h1.1 hq hg,rfl,fun t m R w h=>Zcy (X:=fun g=>atLg g c id T (getV T.L i.imm)) h S.pcB.1 hi hq (.inl h1.1)
        (fun q R w' h=>Z6g (Q:=fun _:Unit=>atLg q.g c id T (getV T.L i.imm)*R) h rfl h1.1 (by omega) (by omega) hr0 fun F w' h=>(Zl5 (h.pk3 [2,0,1]) hq S.wf.inv hg S.cfg.ok (by omega) (by omega)).mono fun e w' h=>⟨(),h.1,h.2.pk3 [1,2,0]⟩)
        fun F q w' h=>Zfr (r:=i.a.toNat) (v:=getV T.L i.imm) h S.pcB hi h1.1 (by omega) (by omega) hsl rfl (by simp) (by simp) ⟨fun _ _=>rfl,rfl,rfl⟩ fun R w h=>Zlz h⟩
    · have hg':Z44 T.L i.imm=false:=by simpa using hg
      have hor:=S.oLd (Z9l S i.imm)
      have hreq:∀ (t:Nat) q R w',Hold w0 w' (thA t c (thR p n id T q (ptrV q.g))*(atS q.g c id T*R))→Calls Tryz.prog 67 #[ptrV t,i.val] w' (Z73 w0 (fun _:Unit=>thA t c (thR p n id T q (ptrV q.g))*(atR0 q.g c id T i.imm*R))):=fun t q R w' h =>
        Z6g (Q:=fun _:Unit=>atR0 q.g c id T i.imm*R) h rfl h1.1 (by omega) (by omega) hr0 fun F w' h=>(Zl4 (h.pk3 [2,0,1]) hq S.wf.inv hg' ⟨hrv.1,by omega⟩ S.cfg.ok (by omega) (by omega)).mono fun e w' h=>⟨(),h.1,h.2.pk3 [1,2,0]⟩
      by_cases hb:(ldA C 2 (i.imm % c.orecs)).got % 64=0∧(ldA C 2 (i.imm % c.orecs)).got / 64≤T.rv
      · exact ⟨_,_,_,.r0ok i _ hi h1.1 hq hg' rfl hb.1 hb.2,rfl,fun t m R w h=>Zcy (X:=fun g=>atR0 g c id T i.imm) h S.pcB.1 hi hq (.inl h1.1) (hreq _) fun F q w' h=>Z3y h rfl ⟨fun _ _=>rfl,rfl,rfl⟩ (by simp) (by simp) fun R w h=>Zl0 h S.shp.ok hor.2.2.2.2.2 ⟨hor.2.2.1,hor.2.2.2.2.1⟩ hb⟩
      · have hb':(ldA C 2 (i.imm % c.orecs)).got % 64 ≠ 0∨T.rv < (ldA C 2 (i.imm % c.orecs)).got / 64:=by omega
        exact ⟨_,_,_,.r0bad i _ hi h1.1 hq hg' rfl hb',rfl,fun t m R w h=>Zcy (X:=fun g=>atR0 g c id T i.imm) h S.pcB.1 hi hq (.inl h1.1) (hreq _) fun F q w' h=>Z3y h rfl ⟨fun _ _=>rfl,rfl,rfl⟩ (by simp) (by simp) fun R w h=>Zjb h S.shp.ok hor.2.2.2.2.2 ⟨hor.2.2.1,hor.2.2.2.2.1⟩ hb'⟩
  ·
    have hcap:=S.cap.wr _ _ hi h1.1
    have hlL:=S.wf.lenL hn (by rw [hq];rfl)
    have hLc:=S.wf.cap hn
    have hok:Z4a T.L i.imm=true:=by
      unfold Z4a
      rw [decide_eq_true (show 0≤i.imm by omega),decide_eq_true (show T.L.addrs.length < T.L.cap by omega)]
      simp
    exact ⟨_,_,_,.twrite i hi h1.1 hq,rfl,fun t m R w h=>Zcy (X:=fun g=>atWr g c id T i.imm (T.regs i.b.toNat)) h S.pcB.1 hi hq (.inr (.inl h1.1))
        (fun q R w' h=>Z90 (r:=i.b.toNat) (v:=T.regs i.b.toNat) (Q:=fun _:Unit=>atWr q.g c id T i.imm (T.regs i.b.toNat)*R) h rfl h1.1 (by omega) (by omega) (by omega) rfl (by omega) hr0 fun F w' h=>(Zjm (h.pk3 [2,0,1]) hq).mono fun e w' h=>⟨(),h.1,h.2.pk3 [1,2,0]⟩)
        fun F q w' h=>Zfs h S.pcB hi (by omega) (by omega) hq (by simp) (by simp) ⟨fun _ _=>rfl,rfl,rfl⟩ fun R w h=>Zj4 h hq S.wf.inv hok ⟨hcw.2,by omega⟩ (by omega) (by omega)⟩
theorem Ziv (S:Side c p n id B C T) (hi:p[T.pc.toNat]?=some i) (hq:T.ph = .none):Stp w0 c p n id C T:=by
  have hin:inT p T.pc.toNat=false:=by rw [S.wf.plc,hq];rfl
  have hI:=S.prog.ins _ _ hi
  have hI2:=hI
  rw [hin] at hI2
  have hid:0≤id∧id≤100:=by have:=S.id0;omega
  have hcnt:=S.wf.cnt
  have hB:=S.hB
  rcases hI2 with h1 | h1 | h1 | h1 | h1 | h1
  · exact ⟨_,_,_,.loc0 i hi (.inl h1.1) hq,rfl,fun t m R w h=>Ze0 h S.pcB hi hq hI (.inl h1.1)⟩
  · exact ⟨_,_,_,.loc0 i hi (.inr h1.1) hq,rfl,fun t m R w h=>Ze0 h S.pcB hi hq hI (.inr h1.1)⟩
  · exact ⟨_,_,_,.begin_ i hi h1.1 hq,rfl,fun t m R w h=>Zg7 h S.pcB hi hq h1.1 S.shp.ok hid (by omega) (by omega)⟩
  · exact absurd h1.2.1 (by simp)
  · exact absurd h1.2.1 (by simp)
  · exact absurd h1.2.1 (by simp)
theorem Ziq (S:Side c p n id B C T) (hF:FormsAt w0) (hd:T.pc ≠ p.length):Stp w0 c p n id C T:=by
  obtain ⟨i,hi⟩:=S.pcLt hd
  cases hq:T.ph with
  | none=>exact Ziv S hi hq
  | ent1=>exact Ziz S hi hq
  | ent2=>exact Ziy S hi hq
  | idle=>exact Zix S hi hq
  | rd1 ad bf=>exact Zku S hi hq
  | rd2 ad bf vl=>exact Zkt S hi hq
  | lk ld sn=>exact Ziw S hi hq
  | take=>exact Zit S hi hq
  | wait tk=>exact Zis S hi hq
  | chk tk zs=>exact Zkx S hi hq
  | dec tk=>exact Zkw S hi hq
  | wr tk ck k=>exact Zlx S hi hq
  | rel tk ck k st=>exact Zks S hi hq
  | stamp tk ck=>exact Zga S hi hq
  | pass tk=>exact Ziu S hi hq
  | leave=>exact Zgb S hF hi hq
end
theorem Z9u:(Tryz.prog.info? 52).map (fun i=>(i.zero,i.size,i.bytes))=some (some (.agg #[.int .i64 0,.int .i64 0,.int .i64 0,.int .i64 0,.int .i64 0,.int .i64 0,.int .u64 0,.int .u64 0,.bool false]),9,72):=by kernel_rfl
theorem Z7i:(Tryz.prog.info? 87).map (fun i=>(i.zero,i.size,i.bytes))=some (some (.agg #[.int .i64 0,.int .i64 0,.int .i64 0,.int .i64 0,.slice none 0 0,.slice none 0 0]),6,80):=by kernel_rfl
theorem Z2p (x:Asr):∀ l:List Asr,Imp (sepR l Asr.emp*x) (sepR (l++[x]) Asr.emp)
  | []=>Imp.comm _ _
  | a :: l=>(Imp.assoc _ _ _).trans (Imp.under _ (Z2p x l))
theorem Zhj {w0 w:World} {R:Asr} {v:Value} {es:List EvR} {e:EvR} (h:Hold w0 w (rowT 87 6 v (es.length + 1) (es.flatMap EvR.cells++e.cells)*(sepR (es.map EvR.objs) Asr.emp*(e.objs*R)))):Hold w0 w (evA v (es++[e])*R):=by
  unfold evA
  rw [List.length_append,List.flatMap_append,List.map_append]
  have h2:=(h.pk3 [1,2,0]).join
  have h3:=(h2.imp (Imp.on _ (Z2p e.objs (es.map EvR.objs)))).pk2 [1,0]
  have e1:[e].flatMap EvR.cells=e.cells:=by simp
  rw [e1]
  exact h3.join
section
variable {w0 w:World} {R:Asr} {gm m t ns nt ct:Nat} {id ph att:Int} {a:Acc} {At:Option Addr} {thv stv evv:Value} {ss ths:List Value} {es:List EvR} {k:Nat}
def Zlv {ι:Type} (w0:World) (gm m:Nat) (thv:Value) (ths:List Value) (ns:Nat) (ss:List Value) (ne:Nat) (Q:ι→Asr) (id ph att:Int) (a:Acc) (e:Ending) (w':World):Prop :=
  ∃ i stv evv es,e = .returned (.bool true)∧es.length≤ne + 1∧Hold w0 w' (blkA 78 gm #[ptrV m,thv,stv,evv]*(queA 81 thv ths*(rowT 52 9 stv (ns + 1) (ss++(stC id ph att a).toList)*(evA evv es*Q i))))
set_option maxHeartbeats 4000000 in
theorem Zk0 {ι:Type} {Q:ι→Asr} (h:Hold w0 w (blkA 78 gm #[ptrV m,thv,stv,evv]*(queA 81 thv ths*(rowT 52 9 stv ns ss*(evA evv es*R))))) (hk:ths[k]?=some (ptrV t)) (hk2:k < 1000) (hns:ns≤1000) (hne:es.length≤1000)
    (hs:∀ F w',Hold w0 w' (F*R)→Calls Tryz.prog 19 #[ptrV t,ptrV m] w' (StPost w0 (fun i=>F*Q i) id ph att a)) :
    Calls Tryz.prog 12 #[ptrV gm,.int .i64 (k:Int)] w (Zlv w0 gm m thv ths ns ss es.length Q id ph att a):=by
  have hkl:k < ths.length:=(List.getElem?_eq_some_iff.1 hk).1
  obtain ⟨At,ct,rfl⟩:=h.drop.Zmc
  obtain ⟨ad,rfl,hct⟩:∃ ad,At=some ad∧ths.length≤ct:=by
    obtain ⟨fp,h1⟩:=h.drop.get
    obtain ⟨_,h3,_,b,h4,_⟩:=queReads h1
    obtain ⟨ad2,hA,_⟩:=h4.cellAt (k:=k) (by omega)
    exact ⟨ad2,hA,h3⟩
  obtain ⟨As,cs,hst⟩:=(h.pk4 [2]).Zmb
  have HST:=hid hst
  clear hst
  obtain ⟨n,hn⟩:∃ n,n=ths.length:=⟨_,rfl⟩
  rw [← hn] at hkl h hct ⊢
  have e1:decide ((k:Int) < 0)=false:=decide_eq_false (by omega)
  have e2:decide ((n:Int)≤(k:Int))=false:=decide_eq_false (by omega)
  have e2':decide (n≤k)=false:=decide_eq_false (by omega)
  have k0:(0:Int)≤(k:Int):=by omega
  have k1:(k:Int) < (n:Int):=by omega
  have HS:=hid hs
  have HK:=hid hk
  have q1:=h.blk.some_ (i:=1) rfl
  have h1:Hold w0 w (Asr.emp*((blkA 78 gm #[ptrV m,.slice (some ad) n ct,stv,evv]*(queA 81 (.slice (some ad) n ct) ths*(rowT 52 9 stv ns ss*evA evv es)))*R)) :=
    ((((h.pk4 [2,3,0,1]).join.pk3 [2,0,1]).join.pk2 [1,0]).join.imp (Imp.Zmd _))
  have H:=hid h1
  clear h h1 hs hk hn hkl
  have hS2:∀ w' X Y,Hold w0 w' (X*((blkA 78 gm #[ptrV m,.slice (some ad) n ct,stv,evv]*(queA 81 (.slice (some ad) n ct) ths*(rowT 52 9 stv ns ss*evA evv es)))*Y))→w'.cell? ⟨gm,0,none⟩=some (ptrV m)∧w'.cell? ⟨gm,1,none⟩=some (.slice (some ad) n ct)∧w'.cell? (ad.add k)=some (ptrV t):=by
    intro w' X Y h
    have h1:=h.drop.part
    exact ⟨h1.blk.some_ (i:=0) rfl,h1.blk.some_ (i:=1) rfl,h1.drop.part.queAt HK.out⟩
  have HS2:=hid hS2
  clear hS2
  go_enter Tryz.func12,Tryz.ntmps12
  go_upto_region 3 with fail
  go_cut [5,6,7] (fun s5 s6 s7 wx=>∃ gs j l,s5 = .pointer (some ⟨gs,0,none⟩)∧s7 = .bool true∧l.length≤1∧Hold w0 wx (blkA 52 gs (stC id ph att a)*((blkA 78 gm #[ptrV m,.slice (some ad) n ct,stv,evv]*(queA 81 (.slice (some ad) n ct) ths*(rowT 52 9 stv ns ss*evA evv es)))*(evA s6 l*Q j))))
  case first =>
    have h:=H.out.drew
    clear q1 H
    refine Z01 [] (by kernel_rfl) ?_
    generalize hW:w.drew=Wc at h ⊢
    clear hW
    refine Z05 (fun w'=>w'.cell? ⟨gm,0,none⟩=some (ptrV m)∧w'.cell? ⟨gm,1,none⟩=some (.slice (some ad) n ct)∧w'.cell? (ad.add k)=some (ptrV t)) (fun _ _=>trivial) _ _ _ _ ?_
    refine' wbk [true,true,true,true,true,true,true,true,true,true,true] 76 (HS2.out _ _ _ h) (fun wq hq=>?_) ?_;rotate_left
    · simp only [Z00]
      obtain ⟨q1,q2,q3⟩:=hq
      repeat (go_big_quiet_step (fail))
      exact wpQuiet_nil rfl
    refine Z0n [false,false,false,false,false,false,false,false,false,false,false,true] [false,false,false,false,false,false,false,false,false,false,false,false,false,false,false,false,true] (fuel:=8) (by rfl) (by rfl) (by rfl) (by rfl) (by kernel_rfl) (fun QB hQB hQX=>?_) (fun QB hQB hQX=>?_)
    · simp only [Z00]
      go_wp2_with fail
      refine (HS.out _ _ h.join).mono ?_
      rintro e Wc ⟨j,v,l,rfl,hl,h⟩
      replace h:=((h.pk2 [1,0]).part)
      go_wp2_with fail
      refine hQB.out _ _ (HS2.out _ _ _ h) ?_
      clear hQB hQX QB
      refine' wbk [false,false,false,false,false,false,false,false,false,false,false,false,true,true,true,true] 76 (HS2.out _ _ _ h) (fun wq hq=>?_) ?_;rotate_left
      · simp only [Z00]
        repeat (go_big_quiet_step (fail))
        exact wpQuiet_nil rfl
      refine wbr [false,false,false,false,false,false,false,false,false,false,false,false,false,false,false,false,true] (fuel:=3) (fun QB hQB hQX=>?_)
      simp only [Z00]
      have H:=hid ((h.newBlk (t:=52) (cs:=#[.int .i64 0,.int .i64 0,.int .i64 0,.int .i64 0,.int .i64 0,.int .i64 0,.int .u64 0,.int .u64 0,.bool false])).join)
      clear h
      go_wp2_with fail
      refine hQB.out _ _ (HS2.out _ _ _ H.out) ?_
      clear hQB hQX QB
      have h:=H.out
      generalize hW:Wc.alloc _=W2 at h ⊢
      generalize Wc.heap.size=gs at h ⊢
      clear hW H
      obtain ⟨Wc,rfl⟩:∃ W',W'=W2:=⟨_,rfl⟩
      refine wbr [false,false,false,false,false,false,false,false,false,false,false,false,false,false,false,false,false,true] (fuel:=2) (fun QB hQB hQX=>?_)
      simp only [Z00]
      go_wp2_with (refine Z03 rfl 52 _ _ rfl gs _ _ (stC id ph att a) rfl rfl _ Tryz.sizeOf52 h.part rfl rfl rfl ?_;intro w5 h6)
      refine hQB.out _ _ (HS2.out _ _ _ h6.join) ?_
      clear hQB hQX QB
      refine' wbk [false,false,false,false,false,false,false,false,false,false,false,false,false,false,false,false,false,false,true,true] 76 (HS2.out _ _ _ h6.join) (fun wq hq=>?_) ?_;rotate_left
      · simp only [Z00]
        repeat (go_big_quiet_step (fail))
        exact wpQuiet_nil rfl
      refine Z02 (by kernel_rfl) ?_ _
      go_wp2_with fail
      go_meet
      exact ⟨gs,j,l,rfl,rfl,hl,h6.imp (Imp.under _ (Imp.drop _ _))⟩
    · simp only [Z00]
      have H:=hid ((h.newBlk (t:=52) (cs:=#[.int .i64 0,.int .i64 0,.int .i64 0,.int .i64 0,.int .i64 0,.int .i64 0,.int .u64 0,.int .u64 0,.bool false])).join)
      clear h
      go_wp2_with fail
      refine hQB.out _ _ (HS2.out _ _ _ H.out) ?_
      clear hQB hQX QB
      have h:=H.out
      generalize hW:Wc.alloc _=W2 at h ⊢
      generalize Wc.heap.size=gs at h ⊢
      clear hW H
      obtain ⟨Wc,rfl⟩:∃ W',W'=W2:=⟨_,rfl⟩
      refine wbr [false,false,false,false,false,false,false,false,false,false,false,true] (fuel:=7) (fun QB hQB hQX=>?_)
      simp only [Z00]
      go_wp2_with fail
      refine (HS.out _ _ h.join).mono ?_
      rintro e Wc ⟨j,v,l,rfl,hl,h⟩
      replace h:=((h.pk2 [1,0]).part)
      go_wp2_with fail
      refine hQB.out _ _ (HS2.out _ _ _ h) ?_
      clear hQB hQX QB
      refine' wbk [false,false,false,false,false,false,false,false,false,false,false,false,true,true,true,true] 76 (HS2.out _ _ _ h) (fun wq hq=>?_) ?_;rotate_left
      · simp only [Z00]
        repeat (go_big_quiet_step (fail))
        exact wpQuiet_nil rfl
      refine wbr [false,false,false,false,false,false,false,false,false,false,false,false,false,false,false,false,false,true] (fuel:=2) (fun QB hQB hQX=>?_)
      simp only [Z00]
      go_wp2_with (refine Z03 rfl 52 _ _ rfl gs _ _ (stC id ph att a) rfl rfl _ Tryz.sizeOf52 h.part rfl rfl rfl ?_;intro w5 h6)
      refine hQB.out _ _ (HS2.out _ _ _ h6.join) ?_
      clear hQB hQX QB
      refine' wbk [false,false,false,false,false,false,false,false,false,false,false,false,false,false,false,false,false,false,true,true] 76 (HS2.out _ _ _ h6.join) (fun wq hq=>?_) ?_;rotate_left
      · simp only [Z00]
        repeat (go_big_quiet_step (fail))
        exact wpQuiet_nil rfl
      refine Z02 (by kernel_rfl) ?_ _
      go_wp2_with fail
      go_meet
      exact ⟨gs,j,l,rfl,rfl,hl,h6.imp (Imp.under _ (Imp.drop _ _))⟩
  case rest =>
  clear H q1 HS2
  rename World=>w3
  obtain ⟨gs,j,l,rfl,rfl,hl,h⟩:=hcut
  obtain ⟨v,hv⟩:∃ v,v=u6:=⟨_,rfl⟩
  rw [← hv] at h ⊢
  clear hv
  replace h:Hold w0 w3 (evA v l*(blkA 52 gs (stC id ph att a)*(blkA 78 gm #[ptrV m,.slice (some ad) n ct,stv,evv]*(queA 81 (.slice (some ad) n ct) ths*(rowT 52 9 stv ns ss*(evA evv es*Q j)))))):=(((h.imp (Imp.under _ (Imp.assoc _ _ _))).imp (Imp.under _ (Imp.under _ (Imp.assoc _ _ _)))).imp (Imp.under _ (Imp.under _ (Imp.under _ (Imp.assoc _ _ _))))).pk6 [5,0,1,2,3,4]
  obtain ⟨A,c,rfl⟩:=h.part.Zmb
  obtain ⟨nl,hnl⟩:∃ nl,nl=l.length:=⟨_,rfl⟩
  rw [← hnl] at h ⊢
  have HL:=hid (And.intro hl hnl)
  have H:=hid h
  clear h hl hnl
  go_wp2_with fail
  go_loopw [45] (fun i wr=>(∃ evv' es',i = .int .i64 (nl:Int)∧es'.length≤es.length + 1∧Hold w0 wr (blkA 52 gs (stC id ph att a)*(blkA 78 gm #[ptrV m,.slice (some ad) n ct,stv,evv']*(queA 81 (.slice (some ad) n ct) ths*(rowT 52 9 stv ns ss*(evA evv' es'*Q j))))))∨(∃ e gv,l=[e]∧A=some ⟨gv,0,none⟩∧i = .int .i64 0∧Hold w0 wr (rowT 87 6 (.slice A nl c) nl e.cells*(e.objs*(blkA 52 gs (stC id ph att a)*(blkA 78 gm #[ptrV m,.slice (some ad) n ct,stv,evv]*(queA 81 (.slice (some ad) n ct) ths*(rowT 52 9 stv ns ss*(evA evv es*Q j))))))))) (fun i _=>nl - (intOf i).toNat)
  case atStart =>
    obtain ⟨hl,hnl⟩:=HL.out
    have h:=H.out
    cases l with
    | nil =>
      obtain rfl:nl=0:=hnl
      exact .inl ⟨evv,es,rfl,by omega,h.part.drop.drop⟩
    | cons e l =>
      obtain rfl:l=[]:=List.length_eq_zero_iff.1 (by rw [List.length_cons] at hl;omega)
      obtain rfl:nl=1:=hnl
      replace h:Hold w0 w3 (rowT 87 6 (.slice A 1 c) 1 (e.cells++[])*((e.objs*Asr.emp)*(blkA 52 gs (stC id ph att a)*(blkA 78 gm #[ptrV m,.slice (some ad) n ct,stv,evv]*(queA 81 (.slice (some ad) n ct) ths*(rowT 52 9 stv ns ss*(evA evv es*Q j))))))):=h.part
      rw [List.append_nil] at h
      obtain ⟨gv,hA,-,-⟩:=h.rowSBlk (by decide) (by decide)
      exact .inr ⟨e,gv,rfl,hA,rfl,h.imp (Imp.under _ ((Imp.assoc _ _ _).trans (Imp.under _ (Imp.drop _ _))))⟩
  case round =>
    clear H
    rcases hrel with ⟨evv',es',rfl,hes,h⟩ | ⟨e,gv,hle,rfl,rfl,h⟩
    · clear HL
      have e6:decide ((nl:Int) < (nl:Int))=false:=decide_eq_false (by omega)
      have e6':decide (nl < nl)=false:=decide_eq_false (by omega)
      have H:=hid h
      clear h
      go_upto_region 12 with fail
      have h:=H.out
      clear H
      obtain ⟨iS,hiS,zo0,zo1,zo2⟩:∃ i,Tryz.prog.info? 52=some i∧i.zero=some (.agg #[.int .i64 0,.int .i64 0,.int .i64 0,.int .i64 0,.int .i64 0,.int .i64 0,.int .u64 0,.int .u64 0,.bool false])∧i.size=9∧i.bytes=72:=by
        have hi:=Z9u
        revert hi
        cases Tryz.prog.info? 52 with
        | none=>intro hi;cases hi
        | some i =>
          intro hi
          simp only [Option.map_some,Option.some.injEq,Prod.mk.injEq] at hi
          exact ⟨i,rfl,hi.1,hi.2.1,hi.2.2⟩
      have hS4:∀ w' R',Hold w0 w' (blkA 52 gs (stC id ph att a)*(blkA 78 gm #[ptrV m,.slice (some ad) n ct,stv,evv']*R'))→w'.cell? ⟨gm,2,none⟩=some stv∧w'.cell? ⟨gs,0,none⟩=some (.int .i64 id)∧w'.cell? ⟨gs,1,none⟩=some (.int .i64 ph)∧w'.cell? ⟨gs,2,none⟩=some (.int .i64 att)∧w'.cell? ⟨gs,3,none⟩=some (.int .i64 a.kind)∧w'.cell? ⟨gs,4,none⟩=some (.int .i64 a.cell)∧w'.cell? ⟨gs,5,none⟩=some (.int .i64 a.index)∧w'.cell? ⟨gs,6,none⟩=some (.int .u64 a.got)∧w'.cell? ⟨gs,7,none⟩=some (.int .u64 a.put)∧w'.cell? ⟨gs,8,none⟩=some (.bool a.done):=fun w' R' h =>
        ⟨h.drop.blk.some_ (i:=2) rfl,h.blk.some_ (i:=0) rfl,h.blk.some_ (i:=1) rfl,h.blk.some_ (i:=2) rfl,h.blk.some_ (i:=3) rfl,h.blk.some_ (i:=4) rfl,h.blk.some_ (i:=5) rfl,h.blk.some_ (i:=6) rfl,h.blk.some_ (i:=7) rfl,h.blk.some_ (i:=8) rfl⟩
      have HS4:=hid hS4
      clear hS4
      replace h:=h.drew
      refine Z01 [10] (by kernel_rfl) ?_
      generalize hW:wr.drew=W3 at h ⊢
      clear hW
      refine Z05 (fun w'=>w'.cell? ⟨gm,2,none⟩=some stv∧w'.cell? ⟨gs,0,none⟩=some (.int .i64 id)∧w'.cell? ⟨gs,1,none⟩=some (.int .i64 ph)∧w'.cell? ⟨gs,2,none⟩=some (.int .i64 att)∧w'.cell? ⟨gs,3,none⟩=some (.int .i64 a.kind)∧w'.cell? ⟨gs,4,none⟩=some (.int .i64 a.cell)∧w'.cell? ⟨gs,5,none⟩=some (.int .i64 a.index)∧w'.cell? ⟨gs,6,none⟩=some (.int .u64 a.got)∧w'.cell? ⟨gs,7,none⟩=some (.int .u64 a.put)∧w'.cell? ⟨gs,8,none⟩=some (.bool a.done)) (fun _ _=>trivial) _ _ _ _ ?_
      refine' wbk [true,true,true,true,true,true] 76 (HS4.out _ _ h) (fun wq hq=>?_) ?_;rotate_left
      · simp only [Z00]
        obtain ⟨q0,q1,q2,q3,q4,q5,q6,q7,q8,q9⟩:=hq
        repeat (go_big_quiet_step (fail))
        exact wpQuiet_nil rfl
      refine wbr [false,false,false,false,false,false,true] (fuel:=4) (fun QB hQB hQX=>?_)
      simp only [Z00]
      go_wp2_with fail
      refine hQB.out _ _ (HS4.out _ _ (h.alloc _)) ?_
      clear hQB hQX QB
      refine wbr [false,false,false,false,false,false,false,true] (fuel:=3) (fun QB hQB hQX=>?_)
      simp only [Z00]
      go_wp2_with (at_builtin;refine Z1o rfl _ _ 38 rfl 52 iS (.agg #[.int .i64 0,.int .i64 0,.int .i64 0,.int .i64 0,.int .i64 0,.int .i64 0,.int .u64 0,.int .u64 0,.bool false]) 9 72 Tryz.underlying38 hiS zo0 zo1 zo2 rfl (by decide) stv ns ss [.int .i64 id,.int .i64 ph,.int .i64 att,.int .i64 a.kind,.int .i64 a.cell,.int .i64 a.index,.int .u64 a.got,.int .u64 a.put,.bool a.done] _ rfl (h.pk4 [3,0,1,2]) _ rfl rfl rfl rfl (by omega) (by decide) ?_)
      intro A9 c9 y9 h9
      have h8:=h9.pk4 [1,2,3,0]
      clear h9 h
      go_wp2_with fail
      refine hQB.out _ _ (HS4.out _ _ h8) ?_
      clear hQB hQX QB
      refine' wbt [false,false,false,false,false,false,false,false,true,true] 76 (HS4.out _ _ h8) (fun wq _=>?_) ?_;rotate_left
      · simp only [Z00]
        repeat (go_big_quiet_step (fail))
        exact wpQuiet_nil rfl
      refine wbb [false,false,false,false,false,false,false,false,false,false,true] (fuel:=0) (fun QB hQB hQX=>?_)
      simp only [Z00]
      have p1:=(HS4.out _ _ h8).1
      have z1:=h8.drop.blk.frozen 2
      have H9:=hid (h8.drop.Zm7 2 (.slice A9 (ns + 1) c9))
      clear h8
      go_wp2_with fail
      refine hQB.out _ _ ?_
      clear hQB hQX QB p1 z1 HS4
      refine Z07 (by kernel_rfl) ?_
      refine Z02 (by kernel_rfl) ?_ _
      go_wp2_with fail
      go_ret
      exact ⟨j,.slice A9 (ns + 1) c9,evv',es',rfl,hes,H9.out.pk4 [0,1,2,3]⟩
    · have hn1:nl=1:=by have:=HL.out.2;rw [hle] at this;exact this
      have HN1:=hid hn1
      have e5:decide ((0:Int) < (nl:Int))=true:=decide_eq_true (by omega)
      have e5':decide (0 < nl)=true:=decide_eq_true (by omega)
      have k5:(0:Int) < (nl:Int):=by omega
      obtain ⟨gv2,hA,hcv,hc1⟩:=h.rowSBlk (by decide) (by omega)
      obtain rfl:gv=gv2:=by injection hA with hA;injection hA
      obtain ⟨eat,eth,ekd,ewd,erd,ewr,ers,ews,ehb⟩:=e
      replace h:Hold w0 wr (rowT 87 6 (.slice (some ⟨gv,0,none⟩) nl c) nl [.int .i64 eat,.int .i64 eth,.int .i64 ekd,.int .i64 ewd,erd,ewr]*(queA 3 erd (ers.map (Value.int .i64))*(queA 3 ewr (ews.map (Value.int .i64))*(blkA 52 gs (stC id ph att a)*(blkA 78 gm #[ptrV m,.slice (some ad) n ct,stv,evv]*(queA 81 (.slice (some ad) n ct) ths*(rowT 52 9 stv ns ss*(evA evv es*Q j)))))))):=h.imp (Imp.under _ (Imp.assoc _ _ _))
      obtain ⟨A1,n1,c1,rfl⟩:∃ A n c,erd = .slice A n c:=by obtain ⟨A,c,h⟩:=h.drop.Zmc;exact ⟨A,_,c,h⟩
      obtain ⟨A2,n2,c2,rfl⟩:∃ A n c,ewr = .slice A n c:=by obtain ⟨A,c,h⟩:=h.drop.drop.Zmc;exact ⟨A,_,c,h⟩
      have HCV:=hid hcv
      have H:=hid h
      clear h hcv hle HL hn1
      go_upto_region 9 with (refine Z2i rfl 87 _ rfl ⟨gv,0,none⟩ #[.int .i64 eat,.int .i64 eth,.int .i64 ekd,.int .i64 ewd,.slice A1 n1 c1,.slice A2 n2 c2] rfl Tryz.isAgg87 6 Tryz.sizeOf87 ?_ rfl ?_)
      · exact HCV.out
      have h:=((H.out.drop.newBlk (t:=87) (cs:=#[.int .i64 eat,.int .i64 eth,.int .i64 ekd,.int .i64 ewd,.slice A1 n1 c1,.slice A2 n2 c2])).pk8 [0,4,7,1,2,3,5,6])
      generalize hW:World.alloc _ _=W at h ⊢
      generalize wr.heap.size=gn at h ⊢
      clear hW H HCV
      have p2:W.cell? ⟨gm,2,none⟩=some (.slice As ns cs):=by have:=h.drop.blk.some_ (i:=2) (u:=stv) rfl;rw [HST.out] at this;exact this
      have qn:=h.blk.some_ (i:=0) rfl
      have zn:=h.blk.frozen 0
      have H:=hid (h.Zm7 0 (.int .i64 (ns:Int)))
      clear h
      go_upto_region 10 with fail
      have h:=H.out
      generalize hW:World.setCell _ _ _=W2 at h ⊢
      clear hW H p2 qn zn
      replace h:Hold w0 W2 (blkA 87 gn #[.int .i64 (ns:Int),.int .i64 eth,.int .i64 ekd,.int .i64 ewd,.slice A1 n1 c1,.slice A2 n2 c2]*(blkA 78 gm #[ptrV m,.slice (some ad) n ct,stv,evv]*(rowT 87 6 evv es.length (es.flatMap EvR.cells)*(sepR (es.map EvR.objs) Asr.emp*(queA 3 (.slice A1 n1 c1) (ers.map (Value.int .i64))*(queA 3 (.slice A2 n2 c2) (ews.map (Value.int .i64))*(blkA 52 gs (stC id ph att a)*(queA 81 (.slice (some ad) n ct) ths*(rowT 52 9 stv ns ss*Q j))))))))):=h.imp (Imp.under _ (Imp.under _ (Imp.assoc _ _ _)))
      obtain ⟨iE,hiE,zo0,zo1,zo2⟩:∃ i,Tryz.prog.info? 87=some i∧i.zero=some (.agg #[.int .i64 0,.int .i64 0,.int .i64 0,.int .i64 0,.slice none 0 0,.slice none 0 0])∧i.size=6∧i.bytes=80:=by
        have hi:=Z7i
        revert hi
        cases Tryz.prog.info? 87 with
        | none=>intro hi;cases hi
        | some i =>
          intro hi
          simp only [Option.map_some,Option.some.injEq,Prod.mk.injEq] at hi
          exact ⟨i,rfl,hi.1,hi.2.1,hi.2.2⟩
      have hS4:∀ w' R',Hold w0 w' (blkA 87 gn #[.int .i64 (ns:Int),.int .i64 eth,.int .i64 ekd,.int .i64 ewd,.slice A1 n1 c1,.slice A2 n2 c2]*(blkA 78 gm #[ptrV m,.slice (some ad) n ct,stv,evv]*R'))→w'.cell? ⟨gm,3,none⟩=some evv∧w'.cell? ⟨gn,0,none⟩=some (.int .i64 (ns:Int))∧w'.cell? ⟨gn,1,none⟩=some (.int .i64 eth)∧w'.cell? ⟨gn,2,none⟩=some (.int .i64 ekd)∧w'.cell? ⟨gn,3,none⟩=some (.int .i64 ewd)∧w'.cell? ⟨gn,4,none⟩=some (.slice A1 n1 c1)∧w'.cell? ⟨gn,5,none⟩=some (.slice A2 n2 c2):=fun w' R' h =>
        ⟨h.drop.blk.some_ (i:=3) rfl,h.blk.some_ (i:=0) rfl,h.blk.some_ (i:=1) rfl,h.blk.some_ (i:=2) rfl,h.blk.some_ (i:=3) rfl,h.blk.some_ (i:=4) rfl,h.blk.some_ (i:=5) rfl⟩
      have HS4:=hid hS4
      clear hS4
      replace h:=h.drew
      refine Z01 [10] (by kernel_rfl) ?_
      generalize hW:W2.drew=W3 at h ⊢
      clear hW
      refine Z05 (fun w'=>w'.cell? ⟨gm,3,none⟩=some evv∧w'.cell? ⟨gn,0,none⟩=some (.int .i64 (ns:Int))∧w'.cell? ⟨gn,1,none⟩=some (.int .i64 eth)∧w'.cell? ⟨gn,2,none⟩=some (.int .i64 ekd)∧w'.cell? ⟨gn,3,none⟩=some (.int .i64 ewd)∧w'.cell? ⟨gn,4,none⟩=some (.slice A1 n1 c1)∧w'.cell? ⟨gn,5,none⟩=some (.slice A2 n2 c2)) (fun _ _=>trivial) _ _ _ _ ?_
      refine' wbk [true,true,true,true,true,true] 76 (HS4.out _ _ h) (fun wq hq=>?_) ?_;rotate_left
      · simp only [Z00]
        obtain ⟨q1,q2,q3,q4,q5,q6,q7⟩:=hq
        repeat (go_big_quiet_step (fail))
        exact wpQuiet_nil rfl
      refine wbr [false,false,false,false,false,false,true] (fuel:=4) (fun QB hQB hQX=>?_)
      simp only [Z00]
      go_wp2_with fail
      refine hQB.out _ _ (HS4.out _ _ (h.alloc _)) ?_
      clear hQB hQX QB
      refine wbr [false,false,false,false,false,false,false,true] (fuel:=3) (fun QB hQB hQX=>?_)
      simp only [Z00]
      go_wp2_with (at_builtin;refine Z1o rfl _ _ 39 rfl 87 iE (.agg #[.int .i64 0,.int .i64 0,.int .i64 0,.int .i64 0,.slice none 0 0,.slice none 0 0]) 6 80 Tryz.underlying39 hiE zo0 zo1 zo2 rfl (by decide) evv es.length (es.flatMap EvR.cells) [.int .i64 (ns:Int),.int .i64 eth,.int .i64 ekd,.int .i64 ewd,.slice A1 n1 c1,.slice A2 n2 c2] _ rfl (h.pk3 [2,0,1]) _ rfl rfl rfl rfl (by omega) (by decide) ?_)
      intro A9 c9 y9 h9
      have h8:=h9.pk3 [1,2,0]
      clear h9 h
      go_wp2_with fail
      refine hQB.out _ _ (HS4.out _ _ h8) ?_
      clear hQB hQX QB
      refine' wbt [false,false,false,false,false,false,false,false,true,true] 76 (HS4.out _ _ h8) (fun wq _=>?_) ?_;rotate_left
      · simp only [Z00]
        repeat (go_big_quiet_step (fail))
        exact wpQuiet_nil rfl
      refine wbb [false,false,false,false,false,false,false,false,false,false,true] (fuel:=0) (fun QB hQB hQX=>?_)
      simp only [Z00]
      have p1:=(HS4.out _ _ h8).1
      have z1:=h8.drop.blk.frozen 3
      have H9:=hid (h8.drop.Zm7 3 (.slice A9 (es.length + 1) c9))
      clear h8
      go_wp2_with fail
      refine hQB.out _ _ ?_
      clear hQB hQX QB p1 z1 HS4
      refine Z07 (by kernel_rfl) ?_
      refine Z02 (by kernel_rfl) ?_ _
      go_wp2_with fail
      go_roundw
      case rel =>
        refine .inl ⟨.slice A9 (es.length + 1) c9,es++[⟨(ns:Int),eth,ekd,ewd,.slice A1 n1 c1,.slice A2 n2 c2,ers,ews,ehb⟩],by rw [HN1.out];rfl,by rw [List.length_append];exact Nat.le_refl _,?_⟩
        exact (Zhj (((H9.out.pk5 [3,4,0,1,2]).join).pk4 [2,3,0,1])).pk5 [2,1,3,4,0]
      case measure=>have:=HN1.out;simp [intOf];omega
end
section
variable {w0 w:World} {R:Asr} {gm m t ns nt ct:Nat} {At:Option Addr} {thv stv evv:Value} {ss ths:List Value} {es:List EvR} {k:Nat}
set_option maxHeartbeats 4000000 in
theorem Zh7 (h:Hold w0 w (blkA 78 gm #[ptrV m,thv,stv,evv]*(queA 81 thv ths*(rowT 52 9 stv ns ss*(evA evv es*R))))) (hk:ths[k]?=some (ptrV t)) (hk2:k < 1000)
    (hs:∀ F w',Hold w0 w' (F*R)→Calls Tryz.prog 19 #[ptrV t,ptrV m] w' fun e w''=>e = .returned (.tuple #[stV 0 0 0 acc0,.slice none 0 0,.bool false])∧Hold w0 w'' (F*R)) :
    Calls Tryz.prog 12 #[ptrV gm,.int .i64 (k:Int)] w fun e w'=>e = .returned (.bool false)∧Hold w0 w' (blkA 78 gm #[ptrV m,thv,stv,evv]*(queA 81 thv ths*(rowT 52 9 stv ns ss*(evA evv es*R)))):=by
  have hkl:k < ths.length:=(List.getElem?_eq_some_iff.1 hk).1
  obtain ⟨At,ct,rfl⟩:=h.drop.Zmc
  obtain ⟨ad,rfl,hct⟩:∃ ad,At=some ad∧ths.length≤ct:=by
    obtain ⟨fp,h1⟩:=h.drop.get
    obtain ⟨_,h3,_,b,h4,_⟩:=queReads h1
    obtain ⟨ad2,hA,_⟩:=h4.cellAt (k:=k) (by omega)
    exact ⟨ad2,hA,h3⟩
  obtain ⟨As,cs,hst⟩:=(h.pk4 [2]).Zmb
  have HST:=hid hst
  clear hst
  obtain ⟨n,hn⟩:∃ n,n=ths.length:=⟨_,rfl⟩
  rw [← hn] at hkl h hct ⊢
  have e1:decide ((k:Int) < 0)=false:=decide_eq_false (by omega)
  have e2:decide ((n:Int)≤(k:Int))=false:=decide_eq_false (by omega)
  have e2':decide (n≤k)=false:=decide_eq_false (by omega)
  have k0:(0:Int)≤(k:Int):=by omega
  have k1:(k:Int) < (n:Int):=by omega
  have HS:=hid hs
  have HK:=hid hk
  have q1:=h.blk.some_ (i:=1) rfl
  have h1:Hold w0 w (Asr.emp*((blkA 78 gm #[ptrV m,.slice (some ad) n ct,stv,evv]*(queA 81 (.slice (some ad) n ct) ths*(rowT 52 9 stv ns ss*evA evv es)))*R)) :=
    ((((h.pk4 [2,3,0,1]).join.pk3 [2,0,1]).join.pk2 [1,0]).join.imp (Imp.Zmd _))
  have H:=hid h1
  clear h h1 hs hk hn hkl
  have hS2:∀ w' X Y,Hold w0 w' (X*((blkA 78 gm #[ptrV m,.slice (some ad) n ct,stv,evv]*(queA 81 (.slice (some ad) n ct) ths*(rowT 52 9 stv ns ss*evA evv es)))*Y))→w'.cell? ⟨gm,0,none⟩=some (ptrV m)∧w'.cell? ⟨gm,1,none⟩=some (.slice (some ad) n ct)∧w'.cell? (ad.add k)=some (ptrV t):=by
    intro w' X Y h
    have h1:=h.drop.part
    exact ⟨h1.blk.some_ (i:=0) rfl,h1.blk.some_ (i:=1) rfl,h1.drop.part.queAt HK.out⟩
  have HS2:=hid hS2
  clear hS2
  go_enter Tryz.func12,Tryz.ntmps12
  go_upto_region 3 with fail
  go_cut [5,6,7] (fun s5 s6 s7 wx=>s7 = .bool false∧Hold w0 wx ((blkA 78 gm #[ptrV m,.slice (some ad) n ct,stv,evv]*(queA 81 (.slice (some ad) n ct) ths*(rowT 52 9 stv ns ss*evA evv es)))*R))
  case first =>
    have h:=H.out.drew
    clear q1 H
    refine Z01 [] (by kernel_rfl) ?_
    generalize hW:w.drew=Wc at h ⊢
    clear hW
    refine Z05 (fun w'=>w'.cell? ⟨gm,0,none⟩=some (ptrV m)∧w'.cell? ⟨gm,1,none⟩=some (.slice (some ad) n ct)∧w'.cell? (ad.add k)=some (ptrV t)) (fun _ _=>trivial) _ _ _ _ ?_
    refine' wbk [true,true,true,true,true,true,true,true,true,true,true] 76 (HS2.out _ _ _ h) (fun wq hq=>?_) ?_;rotate_left
    · simp only [Z00]
      obtain ⟨q1,q2,q3⟩:=hq
      repeat (go_big_quiet_step (fail))
      exact wpQuiet_nil rfl
    refine Z0n [false,false,false,false,false,false,false,false,false,false,false,true] [false,false,false,false,false,false,false,false,false,false,false,false,false,false,false,false,true] (fuel:=8) (by rfl) (by rfl) (by rfl) (by rfl) (by kernel_rfl) (fun QB hQB hQX=>?_) (fun QB hQB hQX=>?_)
    · simp only [Z00]
      go_wp2_with fail
      refine (HS.out _ _ h.join).mono ?_
      rintro e Wc ⟨rfl,h⟩
      replace h:=h.part
      go_wp2_with fail
      refine hQB.out _ _ (HS2.out _ _ _ h) ?_
      clear hQB hQX QB
      refine' wbk [false,false,false,false,false,false,false,false,false,false,false,false,true,true,true,true] 76 (HS2.out _ _ _ h) (fun wq hq=>?_) ?_;rotate_left
      · simp only [Z00]
        repeat (go_big_quiet_step (fail))
        exact wpQuiet_nil rfl
      refine wbr [false,false,false,false,false,false,false,false,false,false,false,false,false,false,false,false,true] (fuel:=3) (fun QB hQB hQX=>?_)
      simp only [Z00]
      have H:=hid ((h.newBlk (t:=52) (cs:=#[.int .i64 0,.int .i64 0,.int .i64 0,.int .i64 0,.int .i64 0,.int .i64 0,.int .u64 0,.int .u64 0,.bool false])).join)
      clear h
      go_wp2_with fail
      refine hQB.out _ _ (HS2.out _ _ _ H.out) ?_
      clear hQB hQX QB
      have h:=H.out
      generalize hW:Wc.alloc _=W2 at h ⊢
      generalize Wc.heap.size=gs at h ⊢
      clear hW H
      obtain ⟨Wc,rfl⟩:∃ W',W'=W2:=⟨_,rfl⟩
      refine wbr [false,false,false,false,false,false,false,false,false,false,false,false,false,false,false,false,false,true] (fuel:=2) (fun QB hQB hQX=>?_)
      simp only [Z00]
      go_wp2_with (refine Z03 rfl 52 _ _ rfl gs _ _ (stC 0 0 0 acc0) rfl rfl _ Tryz.sizeOf52 h.part rfl rfl rfl ?_;intro w5 h6)
      refine hQB.out _ _ (HS2.out _ _ _ h6.join) ?_
      clear hQB hQX QB
      refine' wbk [false,false,false,false,false,false,false,false,false,false,false,false,false,false,false,false,false,false,true,true] 76 (HS2.out _ _ _ h6.join) (fun wq hq=>?_) ?_;rotate_left
      · simp only [Z00]
        repeat (go_big_quiet_step (fail))
        exact wpQuiet_nil rfl
      refine Z02 (by kernel_rfl) ?_ _
      go_wp2_with fail
      go_meet
      exact ⟨rfl,h6.drop.drop⟩
    · simp only [Z00]
      have H:=hid ((h.newBlk (t:=52) (cs:=#[.int .i64 0,.int .i64 0,.int .i64 0,.int .i64 0,.int .i64 0,.int .i64 0,.int .u64 0,.int .u64 0,.bool false])).join)
      clear h
      go_wp2_with fail
      refine hQB.out _ _ (HS2.out _ _ _ H.out) ?_
      clear hQB hQX QB
      have h:=H.out
      generalize hW:Wc.alloc _=W2 at h ⊢
      generalize Wc.heap.size=gs at h ⊢
      clear hW H
      obtain ⟨Wc,rfl⟩:∃ W',W'=W2:=⟨_,rfl⟩
      refine wbr [false,false,false,false,false,false,false,false,false,false,false,true] (fuel:=7) (fun QB hQB hQX=>?_)
      simp only [Z00]
      go_wp2_with fail
      refine (HS.out _ _ h.join).mono ?_
      rintro e Wc ⟨rfl,h⟩
      replace h:=h.part
      go_wp2_with fail
      refine hQB.out _ _ (HS2.out _ _ _ h) ?_
      clear hQB hQX QB
      refine' wbk [false,false,false,false,false,false,false,false,false,false,false,false,true,true,true,true] 76 (HS2.out _ _ _ h) (fun wq hq=>?_) ?_;rotate_left
      · simp only [Z00]
        repeat (go_big_quiet_step (fail))
        exact wpQuiet_nil rfl
      refine wbr [false,false,false,false,false,false,false,false,false,false,false,false,false,false,false,false,false,true] (fuel:=2) (fun QB hQB hQX=>?_)
      simp only [Z00]
      go_wp2_with (refine Z03 rfl 52 _ _ rfl gs _ _ (stC 0 0 0 acc0) rfl rfl _ Tryz.sizeOf52 h.part rfl rfl rfl ?_;intro w5 h6)
      refine hQB.out _ _ (HS2.out _ _ _ h6.join) ?_
      clear hQB hQX QB
      refine' wbk [false,false,false,false,false,false,false,false,false,false,false,false,false,false,false,false,false,false,true,true] 76 (HS2.out _ _ _ h6.join) (fun wq hq=>?_) ?_;rotate_left
      · simp only [Z00]
        repeat (go_big_quiet_step (fail))
        exact wpQuiet_nil rfl
      refine Z02 (by kernel_rfl) ?_ _
      go_wp2_with fail
      go_meet
      exact ⟨rfl,h6.drop.drop⟩
  case rest =>
  clear H q1 HS2
  rename World=>w3
  obtain ⟨rfl,h⟩:=hcut
  have H:=hid h
  clear h
  go_wp2_with fail
  refine bodyPost_ret (results_tmp rfl _ _ _) rfl ?_
  exact ⟨rfl,(((H.out.imp (Imp.assoc _ _ _)).imp (Imp.under _ (Imp.assoc _ _ _))).imp (Imp.under _ (Imp.under _ (Imp.assoc _ _ _))))⟩
end
def stL (l:List StR):List Value:=l.flatMap fun x=>(stC x.th x.phase x.att x.acc).toList
theorem Zgc (l:List StR) (x:StR):stL (l++[x])=stL l++(stC x.th x.phase x.att x.acc).toList:=by unfold stL;rw [List.flatMap_append];simp
def thsF (ts:List Nat) (c:Cfg) (ps:Nat→List InsR) (n:Nat) (th:Nat→TS) (i:Nat):Asr:=thS (ts.getD i 0) c (ps i) (n:Int) (i:Int) (th i)
def thsL (ts:List Nat) (c:Cfg) (ps:Nat→List InsR) (n:Nat) (th:Nat→TS):List Asr:=(List.range n).map (thsF ts c ps n th)
theorem Zab {ts:List Nat} {c:Cfg} {ps:Nat→List InsR} {n:Nat} {th:Nat→TS} {i:Nat} (hi:i < n):(thsL ts c ps n th)[i]?=some (thsF ts c ps n th i):=by
  unfold thsL
  rw [List.getElem?_map,List.getElem?_range hi]
  rfl
theorem Zg5 {ts:List Nat} {c:Cfg} {ps:Nat→List InsR} {n:Nat} {th:Nat→TS} {i:Nat} {T:TS}:(thsL ts c ps n th).set i (thsF ts c ps n (updT th i T) i)=thsL ts c ps n (updT th i T):=by
  apply List.ext_getElem?
  intro j
  unfold thsL
  rw [List.getElem?_set]
  by_cases hij:i=j
  · subst hij
    by_cases hi:i < n
    · rw [if_pos rfl,if_pos (by simpa using hi),List.getElem?_map,List.getElem?_range hi]
      rfl
    · rw [if_pos rfl,if_neg (by simpa using hi),List.getElem?_eq_none (by simp;omega)]
  · rw [if_neg hij,List.getElem?_map,List.getElem?_map]
    by_cases hj:j < n
    · rw [List.getElem?_range hj]
      show some (thsF ts c ps n th j)=some (thsF ts c ps n (updT th i T) j)
      unfold thsF
      rw [Z0f (fun h=>hij h.symm)]
    · rw [List.getElem?_eq_none (by simp;omega)]
      rfl
structure MQ where
  m:Nat
  thv:Value
  stv:Value
  evv:Value
  ts:List Nat
  es:List EvR
def mcS (gm:Nat) (c:Cfg) (ps:Nat→List InsR) (n:Nat) (M:MS):Asr :=
  Asr.exs (fun q:MQ=>q.ts.length=n∧q.es.length≤M.steps.length) (fun q=>[blkA 78 gm #[ptrV q.m,q.thv,q.stv,q.evv],queA 81 q.thv (q.ts.map ptrV),rowT 52 9 q.stv M.steps.length (stL M.steps),evA q.evv q.es,sepR (thsL q.ts c ps n M.th) Asr.emp,memA q.m M.C])
section
variable {w0 w:World} {R:Asr} {gm n B:Nat} {c:Cfg} {ps:Nat→List InsR} {M:MS} {i:Nat}
theorem Zac {ts:List Nat} {th:Nat→TS} {T:TS} (hi:i < n) (h:Hold w0 w (thS (ts.getD i 0) c (ps i) (n:Int) (i:Int) T*(sepR ((thsL ts c ps n th).set i Asr.emp) Asr.emp*R))):Hold w0 w (sepR (thsL ts c ps n (updT th i T)) Asr.emp*R):=by
  have e:thS (ts.getD i 0) c (ps i) (n:Int) (i:Int) T=thsF ts c ps n (updT th i T) i:=by unfold thsF;rw [Z0b]
  rw [e] at h
  have h2:=h.join.imp (Imp.on R (Imp.putAt (thsF ts c ps n (updT th i T) i) Asr.emp ((thsL ts c ps n th).set i Asr.emp) i (by rw [List.getElem?_set,if_pos rfl,if_pos (by unfold thsL;simpa using hi)])))
  rwa [List.set_set,Zg5] at h2
theorem Z8y (th:Nat→TS) (i:Nat):updT th i (th i)=th:=by
  funext j
  by_cases h:j=i
  · subst h;rw [Z0b]
  · rw [Z0f h]
theorem Zcg {C':Cells} {T':TS} {s:StR} (hg:∀ t m R w,Hold w0 w (thS t c (ps i) (n:Int) (i:Int) (M.th i)*(memA m M.C*R))→Z49 w0 t m c (ps i) (n:Int) (i:Int) R C' T' s.phase s.att s.acc w) (hth:s.th=(i:Int)) (hi:i < n) (hn:n≤16) (hl:M.steps.length≤1000) :
    ∀ R w,Hold w0 w (mcS gm c ps n M*R)→Calls Tryz.prog 12 #[ptrV gm,.int .i64 (i:Int)] w fun e w'=>e = .returned (.bool true)∧Hold w0 w' (mcS gm c ps n (M.next i C' T' s)*R):=by
  intro R w h
  unfold mcS at h
  obtain ⟨q,⟨hq1,hq2⟩,h⟩:=h.Zm8
  replace h:Hold w0 w (blkA 78 gm #[ptrV q.m,q.thv,q.stv,q.evv]*(queA 81 q.thv (q.ts.map ptrV)*(rowT 52 9 q.stv M.steps.length (stL M.steps)*(evA q.evv q.es*(sepR (thsL q.ts c ps n M.th) Asr.emp*(memA q.m M.C*R)))))):=h
  have hp:(q.ts.map ptrV)[i]?=some (ptrV (q.ts.getD i 0)):=by
    rw [List.getElem?_map,List.getD_eq_getElem?_getD,List.getElem?_eq_getElem (by omega)]
    rfl
  have h2:Hold w0 w (blkA 78 gm #[ptrV q.m,q.thv,q.stv,q.evv]*(queA 81 q.thv (q.ts.map ptrV)*(rowT 52 9 q.stv M.steps.length (stL M.steps)*(evA q.evv q.es*(thS (q.ts.getD i 0) c (ps i) (n:Int) (i:Int) (M.th i)*(memA q.m M.C*(sepR ((thsL q.ts c ps n M.th).set i Asr.emp) Asr.emp*R))))))):=by
    have h3:=(h.pk5 [4,0,1,2,3]).imp (Imp.on _ (Imp.nth _ Asr.emp _ i (Zab hi)))
    exact (h3.part).pk7 [2,3,4,5,0,6,1]
  refine (Zk0 (Q:=fun _:Unit=>thS (q.ts.getD i 0) c (ps i) (n:Int) (i:Int) T'*(memA q.m C'*(sepR ((thsL q.ts c ps n M.th).set i Asr.emp) Asr.emp*R))) (id:=(i:Int)) (ph:=s.phase) (att:=s.att) (a:=s.acc) h2 hp (by omega) hl (by omega) ?_).mono ?_
  · intro F w' h
    exact (hg _ _ _ _ (h.pk3 [1,2,0])).mono fun e w' he=>he.mono fun E _ w' h=>⟨(),h.pk4 [0,3,1,2]⟩
  · rintro e w' ⟨_,stv,evv,es,rfl,hes,h⟩
    refine ⟨rfl,?_⟩
    unfold mcS
    have hl2:(M.next i C' T' s).steps=M.steps++[s]:=rfl
    refine Hold.Zm9 ⟨q.m,q.thv,stv,evv,q.ts,es⟩ ⟨hq1,by rw [hl2,List.length_append];show es.length≤M.steps.length + 1;omega⟩ ?_
    have h4:=Zac hi (h.pk7 [4,6,0,1,2,3,5])
    have e1:stL (M.steps++[s])=stL M.steps++(stC (i:Int) s.phase s.att s.acc).toList:=by rw [Zgc,hth]
    show Hold w0 w' (_*(_*(rowT 52 9 stv (M.steps++[s]).length (stL (M.steps++[s]))*_)))
    rw [e1,List.length_append]
    exact h4.pk6 [1,2,3,4,0,5]
theorem Zjz (S:Side c (ps i) n (i:Int) B M.C (M.th i)) (hF:FormsAt w0) (hi:i < n) (hn:n≤16) (hl:M.steps.length≤1000) (hd:(M.th i).pc ≠ (ps i).length) :
    ∃ C' T' s,TStep c (ps i) (i:Int) M.C (M.th i) C' T' s∧s.th=(i:Int)∧∀ R w,Hold w0 w (mcS gm c ps n M*R)→Calls Tryz.prog 12 #[ptrV gm,.int .i64 (i:Int)] w fun e w'=>e = .returned (.bool true)∧Hold w0 w' (mcS gm c ps n (M.next i C' T' s)*R):=by
  obtain ⟨C',T',s,hs,hth,hg⟩:=Ziq S hF hd
  exact ⟨C',T',s,hs,hth,Zcg hg hth hi hn hl⟩
theorem Zk1 (hi:i < n) (hn:n≤16) (hd:(M.th i).pc=(ps i).length) (hq0:(M.th i).ph = .none) (h:Hold w0 w (mcS gm c ps n M*R)) :
    Calls Tryz.prog 12 #[ptrV gm,.int .i64 (i:Int)] w fun e w'=>e = .returned (.bool false)∧Hold w0 w' (mcS gm c ps n M*R):=by
  unfold mcS at h
  obtain ⟨q,⟨hq1,hq2⟩,h⟩:=h.Zm8
  replace h:Hold w0 w (blkA 78 gm #[ptrV q.m,q.thv,q.stv,q.evv]*(queA 81 q.thv (q.ts.map ptrV)*(rowT 52 9 q.stv M.steps.length (stL M.steps)*(evA q.evv q.es*(sepR (thsL q.ts c ps n M.th) Asr.emp*(memA q.m M.C*R)))))):=h
  have hp:(q.ts.map ptrV)[i]?=some (ptrV (q.ts.getD i 0)):=by
    rw [List.getElem?_map,List.getD_eq_getElem?_getD,List.getElem?_eq_getElem (by omega)]
    rfl
  have h2:Hold w0 w (blkA 78 gm #[ptrV q.m,q.thv,q.stv,q.evv]*(queA 81 q.thv (q.ts.map ptrV)*(rowT 52 9 q.stv M.steps.length (stL M.steps)*(evA q.evv q.es*(thS (q.ts.getD i 0) c (ps i) (n:Int) (i:Int) (M.th i)*(memA q.m M.C*(sepR ((thsL q.ts c ps n M.th).set i Asr.emp) Asr.emp*R))))))):=by
    have h3:=(h.pk5 [4,0,1,2,3]).imp (Imp.on _ (Imp.nth _ Asr.emp _ i (Zab hi)))
    exact (h3.part).pk7 [2,3,4,5,0,6,1]
  refine (Zh7 h2 hp (by omega) ?_).mono ?_
  · intro F w' h
    obtain ⟨u,h3⟩:=Z4m (h.pk2 [1,0]) hq0
    refine (Z8z h3 (by show ((M.th i).pc == ((ps i).length:Int))=true;rw [hd];simp)).mono fun e w' he=>⟨he.1,?_⟩
    exact (Z3u u hq0 he.2).pk2 [1,0]
  · rintro e w' ⟨rfl,h⟩
    refine ⟨rfl,?_⟩
    unfold mcS
    refine Hold.Zm9 q ⟨hq1,hq2⟩ ?_
    have h4:=Zac hi (h.pk7 [4,6,0,1,2,3,5])
    rw [Z8y] at h4
    exact h4.pk6 [1,2,3,4,0,5]
end
end Go.Proofs.YtmlfangeanmmeaaGreatDoor
