/-
  What the proof of TopTransfers leans on, part 36 of 48: Ub, Uc, Ud, Ue, Va, Vb, Vc2. No statement of its own.
-/
import Derived.Test.YtmlfangeanmmeaaGreatDoorTm35
namespace Go.Proofs.YtmlfangeanmmeaaGreatDoor
set_option maxRecDepth 8000
open Go.RowKit
set_option linter.unusedVariables false
section
variable {w0 w:World} {R R':Asr} {g m:Nat} {c:Cfg} {id:Int} {T:TS} {C C2:Cells} {a:Acc}
theorem Zji (h:Hold w0 w (atS g c id T*(memA m C*R))) (hq:T.ph = .ent1) (hC:COk C) (hid:0≤id∧id≤100) (hg:0≤(ldA C 3 0).got∧(ldA C 3 0).got≤1099511627776) :
    Calls Tryz.prog 57 #[ptrV g,ptrV m] w (APostX (ι:=Unit) w0 (fun _=>atS g c id { T with ph:=.ent2,rv:=(ldA C 3 0).got }*(memA m C*R)) (ldA C 3 0) 3):=by
  unfold atS at h
  rw [hq] at h
  obtain ⟨q,⟨⟨e1,e2,e3,e4,e5,e6,e7,e8,e9⟩,hat,hor⟩,h⟩:=h.Zm8
  replace h:Hold w0 w (atA g c q.x*(enA q.ge id 1 0*(stA q.x.set (Z08 c.reads) T.S*(lgA q.x.log T.L*(queA 3 (.slice q.Bs T.sn.length q.Bc) (iL T.sn)*(memA m C*R)))))):=h
  have key:Calls Tryz.prog 57 #[ptrV g,ptrV m] w (APostX (ι:=Unit) w0 (fun z=>atA g c q.x*(enA q.ge id 2 (ldA C 3 0).got*(memA m C*(stA q.x.set (Z08 c.reads) T.S*(lgA q.x.log T.L*(queA 3 (.slice q.Bs T.sn.length q.Bc) (iL T.sn)*R)))))) (ldA C 3 0) 3):=by
    refine Z3e h hat (fun w' gr h=>?_)
    refine (Z8q (h.pk7 [1,2,6,3,4,5,0]) e1 hC ⟨Int.le_refl 0,by decide⟩ hid rfl rfl hg).mono ?_
    rintro e w'' ⟨rfl,h2⟩
    exact ⟨(),rfl,h2.pk7 [6,0,1,2,3,4,5]⟩
  refine key.mono fun e w' h=>h.mono fun z w'' h=>⟨(),?_⟩
  exact Hold.Zm9 (q) (⟨⟨e1,e2,e3,e4,e5,e6,e7,e8,e9⟩,hat,hor⟩) (h.pk6 [0,1,3,4,5,2])
theorem Zgl (h:Hold w0 w (atS g c id T*(memA m C*R))) (hq:T.ph = .ent2) (hC:COk C) (hid:0≤id∧id≤100) (hrv:0≤T.rv∧T.rv≤1099511627776) :
    Calls Tryz.prog 57 #[ptrV g,ptrV m] w (APostX (ι:=Unit) w0 (fun _=>atS g c id { T with ph:=.idle,pc:=T.pc + 1 }*(memA m (opC C 6 id (T.rv + 2) true)*R)) (stA2 C 6 id (T.rv + 2)) 4):=by
  unfold atS at h
  rw [hq] at h
  obtain ⟨q,⟨⟨e1,e2,e3,e4,e5,e6,e7,e8,e9⟩,hat,hor⟩,h⟩:=h.Zm8
  replace h:Hold w0 w (atA g c q.x*(enA q.ge id 2 T.rv*(stA q.x.set (Z08 c.reads) T.S*(lgA q.x.log T.L*(queA 3 (.slice q.Bs T.sn.length q.Bc) (iL T.sn)*(memA m C*R)))))):=h
  have key:Calls Tryz.prog 57 #[ptrV g,ptrV m] w (APostX (ι:=Unit) w0 (fun z=>atA g c { q.x with at_:=0 }*(enA q.ge id 3 T.rv*(memA m (opC C 6 id (T.rv + 2) true)*(stA q.x.set (Z08 c.reads) T.S*(lgA q.x.log T.L*(queA 3 (.slice q.Bs T.sn.length q.Bc) (iL T.sn)*R)))))) (stA2 C 6 id (T.rv + 2)) 4):=by
    refine Z3e h hat (fun w' gr h=>?_)
    refine (Z8p (h.pk7 [1,2,6,3,4,5,0]) e1 hC hrv hid rfl rfl).mono ?_
    rintro e w'' ⟨rfl,h2⟩
    exact ⟨(),rfl,h2.pk7 [6,0,1,2,3,4,5]⟩
  refine key.mono fun e w' h=>h.mono fun z w'' h=>⟨(),?_⟩
  exact Hold.Zm9 ({ q with x:={ q.x with at_:=0 } }) (⟨⟨e1,e2,e3,e4,e5,e6,e7,e8,e9⟩,rfl,hor⟩) (h.pk6 [0,1,3,4,5,2])
def atWr (g:Nat) (c:Cfg) (id:Int) (T:TS) (ad v:Int):Asr:=Asr.exs (fun z:AQ × Nat × Nat × Nat=>AC c id T z.1∧z.1.x.at_=1∧z.1.x.orecs = .slice none 0 0∧z.1.x.then_ = .func (.func 117) #[] #[ptrV z.2.1,ptrV z.2.2.1,ptrV z.2.2.2]) (fun z=>blkA 108 z.2.1 #[ptrV g] :: blkA 34 z.2.2.1 #[.int .u64 ad] :: blkA 34 z.2.2.2 #[.int .u64 v] :: acL g c id T z.1 3 T.rv)
def atLg (g:Nat) (c:Cfg) (id:Int) (T:TS) (v:Int):Asr:=Asr.exs (fun z:AQ × Nat × Nat × Nat=>AC c id T z.1∧z.1.x.at_=1∧z.1.x.orecs = .slice none 0 0∧z.1.x.then_ = .func (.func 114) #[] #[ptrV z.2.2.1,ptrV z.2.2.2]) (fun z=>blkA 108 z.2.1 #[ptrV g] :: blkA 153 z.2.2.1 #[Z1z z.2.1] :: blkA 34 z.2.2.2 #[.int .u64 v] :: acL g c id T z.1 3 T.rv)
def atR0 (g:Nat) (c:Cfg) (id:Int) (T:TS) (ad:Int):Asr:=Asr.exs (fun q:AQ=>AC c id T q∧q.x.at_=3∧q.x.orecs = .slice none 0 0∧q.x.loads=0∧q.x.read=ptrV q.gk∧q.x.addr=ad∧q.x.use_=Z1z q.gb) (fun q=>rdA q.gk ad (ad % c.orecs) T.rv 0 0 0 false :: blkA 108 q.gb #[ptrV g] :: acL g c id T q 3 T.rv)
def atEn (g:Nat) (c:Cfg) (id:Int) (T:TS):Asr:=Asr.exs (fun z:AQ × Nat × Nat=>AC c id T z.1∧z.1.x.at_=1∧z.1.x.orecs = .slice none 0 0∧z.1.x.then_ = .func (.func 108) #[] #[ptrV z.2.1,ptrV z.2.2]) (fun z=>blkA 108 z.2.1 #[ptrV g] :: blkA 3 z.2.2 #[.int .i64 1] :: acL g c id T z.1 3 T.rv)
theorem Zjm {ad v:Int} (h:Hold w0 w (atS g c id T*R)) (hq:T.ph = .idle):Calls Tryz.prog 65 #[ptrV g,.int .u64 ad,.int .u64 v] w fun e w'=>e = .returned (.int .i64 0)∧Hold w0 w' (atWr g c id T ad v*R):=by
  unfold atS at h
  rw [hq] at h
  obtain ⟨q,⟨⟨e1,e2,e3,e4,e5,e6,e7,e8,e9⟩,hat,hor⟩,h⟩:=h.Zm8
  replace h:Hold w0 w (atA g c q.x*(enA q.ge id 3 T.rv*(stA q.x.set (Z08 c.reads) T.S*(lgA q.x.log T.L*(queA 3 (.slice q.Bs T.sn.length q.Bc) (iL T.sn)*R))))):=h
  refine (Zfb h hat e3).mono ?_
  rintro e w' ⟨b1,b2,b3,rfl,h2⟩
  exact ⟨rfl,Hold.Zm9 ({ q with x:={ q.x with at_:=1,then_:=.func (.func 117) #[] #[ptrV b1,ptrV b2,ptrV b3] } },b1,b2,b3) ⟨⟨e1,e2,e3,e4,e5,e6,e7,e8,e9⟩,rfl,hor,rfl⟩ (h2.pk8 [1,2,3,0,4,5,6,7])⟩
theorem Zm0 (h:Hold w0 w (atS g c id T*R)) (hq:T.ph = .idle):Calls Tryz.prog 62 #[ptrV g,.int .i64 1] w fun e w'=>e = .returned (.int .i64 0)∧Hold w0 w' (atEn g c id T*R):=by
  unfold atS at h
  rw [hq] at h
  obtain ⟨q,⟨⟨e1,e2,e3,e4,e5,e6,e7,e8,e9⟩,hat,hor⟩,h⟩:=h.Zm8
  replace h:Hold w0 w (atA g c q.x*(enA q.ge id 3 T.rv*(stA q.x.set (Z08 c.reads) T.S*(lgA q.x.log T.L*(queA 3 (.slice q.Bs T.sn.length q.Bc) (iL T.sn)*R))))):=h
  refine (Zkh h hat e3).mono ?_
  rintro e w' ⟨b1,b2,rfl,h2⟩
  exact ⟨rfl,Hold.Zm9 ({ q with x:={ q.x with at_:=1,then_:=.func (.func 108) #[] #[ptrV b1,ptrV b2] } },b1,b2) ⟨⟨e1,e2,e3,e4,e5,e6,e7,e8,e9⟩,rfl,hor,rfl⟩ (h2.pk7 [1,2,0,3,4,5,6])⟩
theorem Zl4 {ad:Int} (h:Hold w0 w (atS g c id T*R)) (hq:T.ph = .idle) (H:Inv T.L) (hno:Z44 T.L ad=false) (hrv:0≤T.rv∧T.rv≤9223372036854775807) (hc:Z0p c=0) (ha:0≤ad) (hb:ad < c.words):Calls Tryz.prog 63 #[ptrV g,.int .u64 ad] w fun e w'=>e = .returned (.int .i64 0)∧Hold w0 w' (atR0 g c id T ad*R):=by
  unfold atS at h
  rw [hq] at h
  obtain ⟨q,⟨⟨e1,e2,e3,e4,e5,e6,e7,e8,e9⟩,hat,hor⟩,h⟩:=h.Zm8
  replace h:Hold w0 w (atA g c q.x*(enA q.ge id 3 T.rv*(stA q.x.set (Z08 c.reads) T.S*(lgA q.x.log T.L*(queA 3 (.slice q.Bs T.sn.length q.Bc) (iL T.sn)*R))))):=h
  refine (Zbt (h.pk5 [0,3,1,2,4]) hat e3 rfl e1 H hno hrv hc ha hb).mono ?_
  rintro e w' ⟨gb,gr,rfl,h2⟩
  exact ⟨rfl,Hold.Zm9 { q with x:={ q.x with at_:=3,addr:=ad,use_:=Z1z gb,loads:=0,read:=ptrV gr },gk:=gr,gb:=gb } ⟨⟨e1,e2,e3,e4,e5,e6,e7,e8,e9⟩,rfl,hor,rfl,rfl,rfl,rfl⟩ (h2.pk7 [1,2,0,4,5,3,6])⟩
theorem Zl5 {ad:Int} (h:Hold w0 w (atS g c id T*R)) (hq:T.ph = .idle) (H:Inv T.L) (hno:Z44 T.L ad=true) (hc:Z0p c=0) (ha:0≤ad) (hb:ad < c.words):Calls Tryz.prog 63 #[ptrV g,.int .u64 ad] w fun e w'=>e = .returned (.int .i64 0)∧Hold w0 w' (atLg g c id T (getV T.L ad)*R):=by
  unfold atS at h
  rw [hq] at h
  obtain ⟨q,⟨⟨e1,e2,e3,e4,e5,e6,e7,e8,e9⟩,hat,hor⟩,h⟩:=h.Zm8
  replace h:Hold w0 w (atA g c q.x*(enA q.ge id 3 T.rv*(stA q.x.set (Z08 c.reads) T.S*(lgA q.x.log T.L*(queA 3 (.slice q.Bs T.sn.length q.Bc) (iL T.sn)*R))))):=h
  refine (Zbu (h.pk5 [0,3,1,2,4]) hat e3 rfl H hno hc ha hb).mono ?_
  rintro e w' ⟨gb,b6,b7,rfl,h2⟩
  exact ⟨rfl,Hold.Zm9 ({ q with x:={ q.x with at_:=1,then_:=.func (.func 114) #[] #[ptrV b6,ptrV b7] } },gb,b6,b7) ⟨⟨e1,e2,e3,e4,e5,e6,e7,e8,e9⟩,rfl,hor,rfl⟩ (h2.pk8 [1,2,3,0,5,6,4,7])⟩
theorem APost.toX {ι:Type} {Q:ι→Asr} {p:Int} {e:Ending} (i:ι) {w':World} (h:APost w0 (Q i) a p e w'):APostX w0 Q a p e w':=⟨i,h⟩
theorem Zj4 {ad v:Int} (h:Hold w0 w (atWr g c id T ad v*R)) (hq:T.ph = .idle) (H:Inv T.L) (hok:Z4a T.L ad=true) (hw:c.words≤64∧0≤c.words) (ha:0≤ad) (hb:ad < c.words) :
    Calls Tryz.prog 57 #[ptrV g,ptrV m] w (APostX (ι:=Unit) w0 (fun _=>atS g c id { T with L:=putL T.L ad v,pc:=T.pc + 1 }*R) acc0 0):=by
  obtain ⟨⟨q,b1,b2,b3⟩,⟨⟨e1,e2,e3,e4,e5,e6,e7,e8,e9⟩,hat,hor,hth⟩,h⟩:=h.Zm8
  replace h:Hold w0 w (blkA 108 b1 #[ptrV g]*(blkA 34 b2 #[.int .u64 ad]*(blkA 34 b3 #[.int .u64 v]*(atA g c q.x*(enA q.ge id 3 T.rv*(stA q.x.set (Z08 c.reads) T.S*(lgA q.x.log T.L*(queA 3 (.slice q.Bs T.sn.length q.Bc) (iL T.sn)*R)))))))):=h
  refine (Z8s (R':=atS g c id { T with L:=putL T.L ad v,pc:=T.pc + 1 }*R) (h.pk8 [3,0,1,2,6,4,5,7]) hat hth (fun w' gr h=>?_)).mono fun e w' h=>APost.toX (Q:=fun _:Unit=>atS g c id { T with L:=putL T.L ad v,pc:=T.pc + 1 }*R) () h
  refine (Zkf (h.pk9 [0,2,3,4,5,1,6,7,8]) rfl H hok hw ha hb).mono ?_
  rintro e w'' ⟨rfl,h2⟩
  refine ⟨rfl,Hold.swap ?_⟩
  unfold atS
  rw [show ({ T with L:=putL T.L ad v,pc:=T.pc + 1 }:TS).ph = .idle from hq]
  exact Hold.Zm9 { q with x:={ q.x with at_:=0 } } ⟨⟨e1,e2,e3,e4,e5,e6,e7,e8,e9⟩,rfl,hor⟩ (h2.pk6 [0,3,4,1,5,2])
theorem Zlz {r v:Int} (h:Hold w0 w (atLg g c id T v*R)):Calls Tryz.prog 57 #[ptrV g,ptrV m] w (APostX (ι:=Unit) w0 (fun _=>atI g c id (T.got r v) v*R) acc0 0):=by
  obtain ⟨⟨q,gb,b6,b7⟩,⟨⟨e1,e2,e3,e4,e5,e6,e7,e8,e9⟩,hat,hor,hth⟩,h⟩:=h.Zm8
  replace h:Hold w0 w (blkA 108 gb #[ptrV g]*(blkA 153 b6 #[Z1z gb]*(blkA 34 b7 #[.int .u64 v]*(atA g c q.x*(enA q.ge id 3 T.rv*(stA q.x.set (Z08 c.reads) T.S*(lgA q.x.log T.L*(queA 3 (.slice q.Bs T.sn.length q.Bc) (iL T.sn)*R)))))))):=h
  refine (Z8t (R':=atI g c id (T.got r v) v*R) (h.pk8 [3,0,1,2,4,5,6,7]) hat hth (fun w' gr h=>?_)).mono fun e w' h=>APost.toX (Q:=fun _:Unit=>atI g c id (T.got r v) v*R) () h
  refine (Zkg (h.pk5 [0,2,3,4,1])).mono ?_
  rintro e w'' ⟨rfl,h2⟩
  refine ⟨rfl,Hold.swap ?_⟩
  exact Hold.Zm9 { q with x:={ q.x with at_:=0,value:=v } } ⟨⟨⟨e1,e2,e3,e4,e5,e6,e7,e8,e9⟩,rfl,hor⟩,rfl⟩ (h2.pk6 [0,2,3,4,5,1])
theorem Ze9 (h:Hold w0 w (atEn g c id T*R)) (hL:T.L.addrs=[]):Calls Tryz.prog 57 #[ptrV g,ptrV m] w (APostX (ι:=Unit) w0 (fun _=>atS g c id { T with ph:=.take,code:=1 }*R) acc0 0):=by
  obtain ⟨⟨q,b1,b2⟩,⟨⟨e1,e2,e3,e4,e5,e6,e7,e8,e9⟩,hat,hor,hth⟩,h⟩:=h.Zm8
  replace h:Hold w0 w (blkA 108 b1 #[ptrV g]*(blkA 3 b2 #[.int .i64 1]*(atA g c q.x*(enA q.ge id 3 T.rv*(stA q.x.set (Z08 c.reads) T.S*(lgA q.x.log T.L*(queA 3 (.slice q.Bs T.sn.length q.Bc) (iL T.sn)*R))))))):=h
  refine (Z50 (R':=atS g c id { T with ph:=.take,code:=1 }*R) (h.pk7 [2,0,1,3,4,5,6]) hat hth (fun w' gr h=>?_)).mono fun e w' h=>APost.toX (Q:=fun _:Unit=>atS g c id { T with ph:=.take,code:=1 }*R) () h
  refine Zff (P:=fun _ _=>True) (h.pk4 [0,2,3,1]) ?_
  refine (Zbv (h.pk8 [0,6,1,4,5,7]) rfl hL).mono ?_
  rintro e w'' ⟨gt,rfl,h2⟩
  refine ⟨rfl,Hold.swap ?_⟩
  refine Hold.Zm9 { q with x:={ q.x with at_:=6,code:=1,turn:=ptrV gt },gt:=gt } ⟨⟨e1,e2,e3,e4,e5,e6,e7,e8,e9⟩,rfl,rfl,rfl,?_⟩ ?_
  · show lokC c _ _
    unfold lokC
    rw [if_pos (show ({ T with ph:=.take,code:=1 }:TS).L.addrs=[] from hL)];exact hor
  · show Hold w0 w'' (sepR (tuA gt false 0 false :: lokA c id T { q with x:={ q.x with at_:=6,code:=1,turn:=ptrV gt },gt:=gt } :: acL g c id T { q with x:={ q.x with at_:=6,code:=1,turn:=ptrV gt },gt:=gt } 3 T.rv) _)
    unfold lokA
    rw [if_pos hL]
    exact (h2.imp (Imp.Zmd _)).pk8 [2,0,1,5,6,3,7,4]
theorem Zea (h:Hold w0 w (atEn g c id T*R)) (hL:T.L.addrs ≠ []) (H:Inv T.L) (hc:Z0p c=0) (hadr:∀ a ∈ T.L.addrs,0≤a∧a < c.words) (hold:T.old=[]):Calls Tryz.prog 57 #[ptrV g,ptrV m] w (APostX (ι:=Unit) w0 (fun _=>atS g c id { T with ph:=.lk false 0,code:=1 }*R) acc0 0):=by
  obtain ⟨⟨q,b1,b2⟩,⟨⟨e1,e2,e3,e4,e5,e6,e7,e8,e9⟩,hat,hor,hth⟩,h⟩:=h.Zm8
  replace h:Hold w0 w (blkA 108 b1 #[ptrV g]*(blkA 3 b2 #[.int .i64 1]*(atA g c q.x*(enA q.ge id 3 T.rv*(stA q.x.set (Z08 c.reads) T.S*(lgA q.x.log T.L*(queA 3 (.slice q.Bs T.sn.length q.Bc) (iL T.sn)*R))))))):=h
  refine (Z50 (R':=atS g c id { T with ph:=.lk false 0,code:=1 }*R) (h.pk7 [2,0,1,3,4,5,6]) hat hth (fun w' gr h=>?_)).mono fun e w' h=>APost.toX (Q:=fun _:Unit=>atS g c id { T with ph:=.lk false 0,code:=1 }*R) () h
  refine Zff (P:=fun _ _=>True) (h.pk4 [0,2,3,1]) ?_
  refine (Zbw (h.pk8 [0,6,1,4,5,7]) rfl H (List.length_pos_iff.2 hL) hc hadr).mono ?_
  rintro e w'' ⟨gk,A,n,cp,rfl,rfl,h2⟩
  refine ⟨rfl,Hold.swap ?_⟩
  rw [Zj0] at h2
  refine Hold.Zm9 { q with x:={ q.x with code:=1,orecs:=.slice A (osT c T).length cp,at_:=5,lock:=ptrV gk },gk:=gk,Co:=A,Cc:=cp } ⟨⟨e1,e2,e3,e4,e5,e6,e7,e8,e9⟩,rfl,rfl,rfl,rfl⟩ ?_
  show Hold w0 w'' (sepR (lkA gk id (osT c T) T.old false 0 :: queA 3 (.slice A (osT c T).length cp) (iL (osT c T)) :: acL g c id T { q with x:={ q.x with code:=1,orecs:=.slice A (osT c T).length cp,at_:=5,lock:=ptrV gk },gk:=gk,Co:=A,Cc:=cp } 3 T.rv) _)
  rw [hold,show lkA gk id (osT c T) [] false 0=lkA gk q.x.th (osT c T) [] false 0 by rw [e2]]
  exact h2.pk8 [1,2,0,5,6,3,7,4]
end
section
variable {w0 w:World} {R R':Asr} {g m:Nat} {c:Cfg} {id:Int} {T:TS} {C C2:Cells} {a:Acc}
theorem Zl0 {ad:Int} (h:Hold w0 w (atR0 g c id T ad*(memA m C*R))) (hC:COk C) (ho:-9223372036854775808≤ad % c.orecs∧ad % c.orecs≤9223372036854775807) (hg:0≤(ldA C 2 (ad % c.orecs)).got∧(ldA C 2 (ad % c.orecs)).got < 18446744073709551616) (hb:(ldA C 2 (ad % c.orecs)).got % 64=0∧(ldA C 2 (ad % c.orecs)).got / 64≤T.rv) :
    Calls Tryz.prog 57 #[ptrV g,ptrV m] w (APostX (ι:=Unit) w0 (fun _=>atS g c id { T with ph:=.rd1 ad (ldA C 2 (ad % c.orecs)).got }*(memA m C*R)) (ldA C 2 (ad % c.orecs)) 5):=by
  obtain ⟨q,⟨⟨e1,e2,e3,e4,e5,e6,e7,e8,e9⟩,hat,hor,hld,hrp,had,hus⟩,h⟩:=h.Zm8
  replace h:Hold w0 w (rdA q.gk ad (ad % c.orecs) T.rv 0 0 0 false*(blkA 108 q.gb #[ptrV g]*(atA g c q.x*(enA q.ge id 3 T.rv*(stA q.x.set (Z08 c.reads) T.S*(lgA q.x.log T.L*(queA 3 (.slice q.Bs T.sn.length q.Bc) (iL T.sn)*(memA m C*R)))))))):=h
  have key:Calls Tryz.prog 57 #[ptrV g,ptrV m] w (APostX (ι:=Unit) w0 (fun z=>atA g c { q.x with loads:=1 }*(rdA q.gk ad (ad % c.orecs) T.rv 1 (ldA C 2 (ad % c.orecs)).got 0 false*(memA m C*(enA q.ge id 3 T.rv*(stA q.x.set (Z08 c.reads) T.S*(lgA q.x.log T.L*(queA 3 (.slice q.Bs T.sn.length q.Bc) (iL T.sn)*(blkA 108 q.gb #[ptrV g]*R)))))))) (ldA C 2 (ad % c.orecs)) 5):=by
    refine Z1j (h.pk8 [2,0,7,3,4,5,6,1]) hat (fun w' gr h=>?_)
    refine (Z5e (h.pk9 [1,2,3,4,5,6,7,8,0]) hrp hld hC ho rfl hg hb).mono ?_
    rintro e w'' ⟨z,rfl,h2⟩
    exact ⟨z,rfl,h2.pk9 [8,0,1,2,3,4,5,6,7]⟩
  refine key.mono fun e w' h=>h.mono fun z w'' h=>⟨(),?_⟩
  exact Hold.Zm9 ({ q with x:={ q.x with loads:=1 } }) (⟨⟨e1,e2,e3,e4,e5,e6,e7,e8,e9⟩,hat,hor,rfl,hrp,had,hus⟩) (h.pk8 [1,7,0,3,4,5,6,2])
theorem Zjb {ad:Int} (h:Hold w0 w (atR0 g c id T ad*(memA m C*R))) (hC:COk C) (ho:-9223372036854775808≤ad % c.orecs∧ad % c.orecs≤9223372036854775807) (hg:0≤(ldA C 2 (ad % c.orecs)).got∧(ldA C 2 (ad % c.orecs)).got < 18446744073709551616) (hb:(ldA C 2 (ad % c.orecs)).got % 64 ≠ 0∨T.rv < (ldA C 2 (ad % c.orecs)).got / 64) :
    Calls Tryz.prog 57 #[ptrV g,ptrV m] w (APostX (ι:=Unit) w0 (fun _=>atS g c id { T with ph:=.leave,code:=9 }*(memA m C*R)) (ldA C 2 (ad % c.orecs)) 5):=by
  obtain ⟨q,⟨⟨e1,e2,e3,e4,e5,e6,e7,e8,e9⟩,hat,hor,hld,hrp,had,hus⟩,h⟩:=h.Zm8
  replace h:Hold w0 w (rdA q.gk ad (ad % c.orecs) T.rv 0 0 0 false*(blkA 108 q.gb #[ptrV g]*(atA g c q.x*(enA q.ge id 3 T.rv*(stA q.x.set (Z08 c.reads) T.S*(lgA q.x.log T.L*(queA 3 (.slice q.Bs T.sn.length q.Bc) (iL T.sn)*(memA m C*R)))))))):=h
  have key:Calls Tryz.prog 57 #[ptrV g,ptrV m] w (APostX (ι:=Unit) w0 (fun z=>atA g c { q.x with loads:=1,code:=9,at_:=14 }*(rdA q.gk ad (ad % c.orecs) T.rv 3 (ldA C 2 (ad % c.orecs)).got 0 true*(memA m C*(enA q.ge id 3 T.rv*(stA q.x.set (Z08 c.reads) T.S*(lgA q.x.log T.L*(queA 3 (.slice q.Bs T.sn.length q.Bc) (iL T.sn)*(blkA 108 q.gb #[ptrV g]*R)))))))) (ldA C 2 (ad % c.orecs)) 5):=by
    refine Z1j (h.pk8 [2,0,7,3,4,5,6,1]) hat (fun w' gr h=>?_)
    refine (Z65 (h.pk9 [1,2,3,4,5,6,7,8,0]) hrp hld hC ho rfl hg hb e4 e6).mono ?_
    rintro e w'' ⟨z,rfl,h2⟩
    exact ⟨z,rfl,h2.pk9 [8,0,1,2,3,4,5,6,7]⟩
  refine key.mono fun e w' h=>h.mono fun z w'' h=>⟨(),?_⟩
  exact Hold.Zm9 ({ q with x:={ q.x with loads:=1,code:=9,at_:=14 } }) (⟨rfl,rfl,e3,e5,e2⟩) (h.pk8 [0,2])
theorem s_r1 {ad bf:Int} (h:Hold w0 w (atS g c id T*(memA m C*R))) (hq:T.ph = .rd1 ad bf) (hC:COk C) (ho:-9223372036854775808≤ad∧ad≤9223372036854775807) :
    Calls Tryz.prog 57 #[ptrV g,ptrV m] w (APostX (ι:=Unit) w0 (fun _=>atS g c id { T with ph:=.rd2 ad bf (ldA C 1 ad).got }*(memA m C*R)) (ldA C 1 ad) 6):=by
  unfold atS at h
  rw [hq] at h
  obtain ⟨q,⟨⟨e1,e2,e3,e4,e5,e6,e7,e8,e9⟩,hat,hor,hld,hrp,had,hus⟩,h⟩:=h.Zm8
  replace h:Hold w0 w (rdA q.gk ad (ad % c.orecs) T.rv 1 bf 0 false*(blkA 108 q.gb #[ptrV g]*(atA g c q.x*(enA q.ge id 3 T.rv*(stA q.x.set (Z08 c.reads) T.S*(lgA q.x.log T.L*(queA 3 (.slice q.Bs T.sn.length q.Bc) (iL T.sn)*(memA m C*R)))))))):=h
  have key:Calls Tryz.prog 57 #[ptrV g,ptrV m] w (APostX (ι:=Unit) w0 (fun z=>atA g c { q.x with loads:=2 }*(rdA q.gk ad (ad % c.orecs) T.rv 2 bf (ldA C 1 ad).got false*(memA m C*(enA q.ge id 3 T.rv*(stA q.x.set (Z08 c.reads) T.S*(lgA q.x.log T.L*(queA 3 (.slice q.Bs T.sn.length q.Bc) (iL T.sn)*(blkA 108 q.gb #[ptrV g]*R)))))))) (ldA C 1 ad) 6):=by
    refine Z1j (h.pk8 [2,0,7,3,4,5,6,1]) hat (fun w' gr h=>?_)
    refine (Z5d (h.pk9 [1,2,3,4,5,6,7,8,0]) hrp hld hC ho rfl).mono ?_
    rintro e w'' ⟨z,rfl,h2⟩
    exact ⟨z,rfl,h2.pk9 [8,0,1,2,3,4,5,6,7]⟩
  refine key.mono fun e w' h=>h.mono fun z w'' h=>⟨(),?_⟩
  exact Hold.Zm9 ({ q with x:={ q.x with loads:=2 } }) (⟨⟨e1,e2,e3,e4,e5,e6,e7,e8,e9⟩,hat,hor,rfl,hrp,had,hus⟩) (h.pk8 [1,7,0,3,4,5,6,2])
theorem Zja {ad bf vl:Int} (h:Hold w0 w (atS g c id T*(memA m C*R))) (hq:T.ph = .rd2 ad bf vl) (hC:COk C) (ho:-9223372036854775808≤ad % c.orecs∧ad % c.orecs≤9223372036854775807) (hb:(ldA C 2 (ad % c.orecs)).got ≠ bf) :
    Calls Tryz.prog 57 #[ptrV g,ptrV m] w (APostX (ι:=Unit) w0 (fun _=>atS g c id { T with ph:=.leave,code:=9 }*(memA m C*R)) (ldA C 2 (ad % c.orecs)) 7):=by
  unfold atS at h
  rw [hq] at h
  obtain ⟨q,⟨⟨e1,e2,e3,e4,e5,e6,e7,e8,e9⟩,hat,hor,hld,hrp,had,hus⟩,h⟩:=h.Zm8
  replace h:Hold w0 w (rdA q.gk ad (ad % c.orecs) T.rv 2 bf vl false*(blkA 108 q.gb #[ptrV g]*(atA g c q.x*(enA q.ge id 3 T.rv*(stA q.x.set (Z08 c.reads) T.S*(lgA q.x.log T.L*(queA 3 (.slice q.Bs T.sn.length q.Bc) (iL T.sn)*(memA m C*R)))))))):=h
  have key:Calls Tryz.prog 57 #[ptrV g,ptrV m] w (APostX (ι:=Unit) w0 (fun z=>atA g c { q.x with loads:=3,code:=9,at_:=14 }*(rdA q.gk ad (ad % c.orecs) T.rv 3 bf vl true*(memA m C*(enA q.ge id 3 T.rv*(stA q.x.set (Z08 c.reads) T.S*(lgA q.x.log T.L*(queA 3 (.slice q.Bs T.sn.length q.Bc) (iL T.sn)*(blkA 108 q.gb #[ptrV g]*R)))))))) (ldA C 2 (ad % c.orecs)) 7):=by
    refine Z1j (h.pk8 [2,0,7,3,4,5,6,1]) hat (fun w' gr h=>?_)
    refine (Z64 (h.pk9 [1,2,3,4,5,6,7,8,0]) hrp hld hC ho rfl hb e4 e6).mono ?_
    rintro e w'' ⟨z,rfl,h2⟩
    exact ⟨z,rfl,h2.pk9 [8,0,1,2,3,4,5,6,7]⟩
  refine key.mono fun e w' h=>h.mono fun z w'' h=>⟨(),?_⟩
  exact Hold.Zm9 ({ q with x:={ q.x with loads:=3,code:=9,at_:=14 } }) (⟨rfl,rfl,e3,e5,e2⟩) (h.pk8 [0,2])
theorem Zj8 {ad bf vl r:Int} (h:Hold w0 w (atS g c id T*(memA m C*R))) (hq:T.ph = .rd2 ad bf vl) (hC:COk C) (ho:-9223372036854775808≤ad % c.orecs∧ad % c.orecs≤9223372036854775807) (hb:(ldA C 2 (ad % c.orecs)).got=bf) (ha0:0≤ad) (ha1:ad < c.words) (hc:Z0p c=0) (hadd:Z53 (Z08 c.reads) T.S (ad % c.orecs)=true) (hxl:T.S.length≤Z08 c.reads) (hn:T.sn.length≤1000) (hm:ad ∈ T.sn) :
    Calls Tryz.prog 57 #[ptrV g,ptrV m] w (APostX (ι:=Unit) w0 (fun _=>atI g c id { T.got r vl with S:=addL (Z08 c.reads) T.S (ad % c.orecs),sn:=T.sn } vl*(memA m C*R)) (ldA C 2 (ad % c.orecs)) 7):=by
  unfold atS at h
  rw [hq] at h
  obtain ⟨q,⟨⟨e1,e2,e3,e4,e5,e6,e7,e8,e9⟩,hat,hor,hld,hrp,had,hus⟩,h⟩:=h.Zm8
  replace h:Hold w0 w (rdA q.gk ad (ad % c.orecs) T.rv 2 bf vl false*(blkA 108 q.gb #[ptrV g]*(atA g c q.x*(enA q.ge id 3 T.rv*(stA q.x.set (Z08 c.reads) T.S*(lgA q.x.log T.L*(queA 3 (.slice q.Bs T.sn.length q.Bc) (iL T.sn)*(memA m C*R)))))))):=h
  have key:Calls Tryz.prog 57 #[ptrV g,ptrV m] w (APostX (ι:=Unit) w0 (fun z=>atA g c { q.x with loads:=3,at_:=0,value:=vl }*(rdA q.gk ad (ad % c.orecs) T.rv 3 bf vl false*(memA m C*(queA 3 (.slice q.Bs T.sn.length q.Bc) (iL T.sn)*(stA q.x.set (Z08 c.reads) (addL (Z08 c.reads) T.S (ad % c.orecs))*(blkA 108 q.gb #[ptrV g]*(enA q.ge id 3 T.rv*(lgA q.x.log T.L*R)))))))) (ldA C 2 (ad % c.orecs)) 7):=by
    refine Z1j (h.pk8 [2,0,7,6,4,1,3,5]) hat (fun w' gr h=>?_)
    refine (Z70 (h.pk9 [1,2,3,4,5,6,7,8,0]) hrp hld hC ho rfl hb e7 rfl hus had ha0 ha1 hc rfl hadd hxl (by unfold Z08;omega) hn hm).mono ?_
    rintro e w'' ⟨z,rfl,h2⟩
    exact ⟨z,rfl,h2.pk9 [8,0,1,2,3,4,5,6,7]⟩
  refine key.mono fun e w' h=>h.mono fun z w'' h=>⟨(),?_⟩
  exact Hold.Zm9 ({ q with x:={ q.x with loads:=3,at_:=0,value:=vl } }) (⟨⟨⟨e1,e2,e3,e4,e5,e6,e7,e8,e9⟩,rfl,hor⟩,rfl⟩) (h.pk8 [0,6,4,7,3,2])
theorem Zj9 {ad bf vl r:Int} (h:Hold w0 w (atS g c id T*(memA m C*R))) (hq:T.ph = .rd2 ad bf vl) (hC:COk C) (ho:-9223372036854775808≤ad % c.orecs∧ad % c.orecs≤9223372036854775807) (hb:(ldA C 2 (ad % c.orecs)).got=bf) (ha0:0≤ad) (ha1:ad < c.words) (hc:Z0p c=0) (hadd:Z53 (Z08 c.reads) T.S (ad % c.orecs)=true) (hxl:T.S.length≤Z08 c.reads) (hn:T.sn.length≤1000) (hm:ad ∉ T.sn) :
    Calls Tryz.prog 57 #[ptrV g,ptrV m] w (APostX (ι:=Unit) w0 (fun _=>atI g c id { T.got r vl with S:=addL (Z08 c.reads) T.S (ad % c.orecs),sn:=T.sn++[ad] } vl*(memA m C*R)) (ldA C 2 (ad % c.orecs)) 7):=by
  unfold atS at h
  rw [hq] at h
  obtain ⟨q,⟨⟨e1,e2,e3,e4,e5,e6,e7,e8,e9⟩,hat,hor,hld,hrp,had,hus⟩,h⟩:=h.Zm8
  replace h:Hold w0 w (rdA q.gk ad (ad % c.orecs) T.rv 2 bf vl false*(blkA 108 q.gb #[ptrV g]*(atA g c q.x*(enA q.ge id 3 T.rv*(stA q.x.set (Z08 c.reads) T.S*(lgA q.x.log T.L*(queA 3 (.slice q.Bs T.sn.length q.Bc) (iL T.sn)*(memA m C*R)))))))):=h
  have key:Calls Tryz.prog 57 #[ptrV g,ptrV m] w (APostX (ι:=Option Addr × Nat) w0 (fun z=>atA g c { q.x with loads:=3,at_:=0,value:=vl,seen:=.slice z.1 (T.sn.length + 1) z.2 }*(rdA q.gk ad (ad % c.orecs) T.rv 3 bf vl false*(memA m C*(queA 3 (.slice z.1 (T.sn.length + 1) z.2) (iL (T.sn++[ad]))*(stA q.x.set (Z08 c.reads) (addL (Z08 c.reads) T.S (ad % c.orecs))*(blkA 108 q.gb #[ptrV g]*(enA q.ge id 3 T.rv*(lgA q.x.log T.L*R)))))))) (ldA C 2 (ad % c.orecs)) 7):=by
    refine Z1j (h.pk8 [2,0,7,6,4,1,3,5]) hat (fun w' gr h=>?_)
    refine (Z71 (h.pk9 [1,2,3,4,5,6,7,8,0]) hrp hld hC ho rfl hb e7 rfl hus had ha0 ha1 hc rfl hadd hxl (by unfold Z08;omega) hn hm).mono ?_
    rintro e w'' ⟨z,rfl,h2⟩
    exact ⟨z,rfl,h2.pk9 [8,0,1,2,3,4,5,6,7]⟩
  refine key.mono fun e w' h=>h.mono fun z w'' h=>⟨(),?_⟩
  exact Hold.Zm9 ({ q with x:={ q.x with loads:=3,at_:=0,value:=vl,seen:=.slice z.1 (T.sn++[ad]).length z.2 },Bs:=z.1,Bc:=z.2 }) (⟨⟨⟨e1,e2,e3,e4,e5,e6,rfl,e8,e9⟩,rfl,hor⟩,rfl⟩) (by have h9:=h.pk8 [0,6,4,7,3,2];rw [show T.sn.length + 1=(T.sn++[ad]).length by simp] at h9;exact h9)
end
section
variable {w0 w:World} {R R':Asr} {g m:Nat} {c:Cfg} {id:Int} {T:TS} {C C2:Cells} {a:Acc}
theorem Zje {sn o:Int} (h:Hold w0 w (atS g c id T*(memA m C*R))) (hq:T.ph = .lk false sn) (hC:COk C) (ho:(osT c T)[T.old.length]?=some o) (hxo:-9223372036854775808≤o∧o≤9223372036854775807) (hg:0≤(ldA C 2 o).got∧(ldA C 2 o).got < 18446744073709551616) (hkd:(ldA C 2 o).kind=1) :
    Calls Tryz.prog 57 #[ptrV g,ptrV m] w (APostX (ι:=Unit) w0 (fun _=>atS g c id { T with ph:=.lk (decide ((ldA C 2 o).got % 64=0)) (ldA C 2 o).got }*(memA m C*R)) (ldA C 2 o) 11):=by
  unfold atS at h
  rw [hq] at h
  obtain ⟨q,⟨⟨e1,e2,e3,e4,e5,e6,e7,e8,e9⟩,hat,hcd,hlk,hor⟩,h⟩:=h.Zm8
  replace h:Hold w0 w (lkA q.gk id (osT c T) T.old false sn*(queA 3 (.slice q.Co (osT c T).length q.Cc) (iL (osT c T))*(atA g c q.x*(enA q.ge id 3 T.rv*(stA q.x.set (Z08 c.reads) T.S*(lgA q.x.log T.L*(queA 3 (.slice q.Bs T.sn.length q.Bc) (iL T.sn)*(memA m C*R)))))))):=h
  have key:Calls Tryz.prog 57 #[ptrV g,ptrV m] w (APostX (ι:=Unit) w0 (fun z=>atA g c q.x*(lkA q.gk id (osT c T) T.old (decide ((ldA C 2 o).got % 64=0)) (ldA C 2 o).got*(memA m C*(queA 3 (.slice q.Co (osT c T).length q.Cc) (iL (osT c T))*(enA q.ge id 3 T.rv*(stA q.x.set (Z08 c.reads) T.S*(lgA q.x.log T.L*(queA 3 (.slice q.Bs T.sn.length q.Bc) (iL T.sn)*R)))))))) (ldA C 2 o) 11):=by
    refine Z3r (h.pk8 [2,0,7,1,3,4,5,6]) hat (fun w' gr h=>?_)
    refine (Z67 (h.pk9 [1,2,3,4,5,6,7,8,0]) hlk hC ho hxo hg rfl hkd).mono ?_
    rintro e w'' ⟨z,rfl,h2⟩
    exact ⟨z,rfl,h2.pk9 [8,0,1,2,3,4,5,6,7]⟩
  refine key.mono fun e w' h=>h.mono fun z w'' h=>⟨(),?_⟩
  exact Hold.Zm9 (q) (⟨⟨e1,e2,e3,e4,e5,e6,e7,e8,e9⟩,hat,hcd,hlk,hor⟩) (h.pk8 [1,3,0,4,5,6,7,2])
theorem Zjd {sn o:Int} {old2:List Int} (h:Hold w0 w (atS g c id T*(memA m C*R))) (hq:T.ph = .lk true sn) (hC:COk C) (ho:(osT c T)[T.old.length]?=some o) (hxo:-9223372036854775808≤o∧o≤9223372036854775807) (hs:0≤sn∧sn < 9223372036854775808) (hid:0≤id∧id≤15) (ha:opA C 3 2 o (sn + id + 1) (valC C 2 o == sn)=a) (hl:T.old.length≤1000) (hold:oldN a.done T.old sn=old2) (hkd:a.kind=3) (hnl:old2.length ≠ (osT c T).length) :
    Calls Tryz.prog 57 #[ptrV g,ptrV m] w (APostX (ι:=Unit) w0 (fun _=>atS g c id { T with ph:=.lk false sn,old:=old2 }*(memA m (opC C 2 o (sn + id + 1) (valC C 2 o == sn))*R)) a 12):=by
  unfold atS at h
  rw [hq] at h
  obtain ⟨q,⟨⟨e1,e2,e3,e4,e5,e6,e7,e8,e9⟩,hat,hcd,hlk,hor⟩,h⟩:=h.Zm8
  replace h:Hold w0 w (lkA q.gk id (osT c T) T.old true sn*(queA 3 (.slice q.Co (osT c T).length q.Cc) (iL (osT c T))*(atA g c q.x*(enA q.ge id 3 T.rv*(stA q.x.set (Z08 c.reads) T.S*(lgA q.x.log T.L*(queA 3 (.slice q.Bs T.sn.length q.Bc) (iL T.sn)*(memA m C*R)))))))):=h
  have key:Calls Tryz.prog 57 #[ptrV g,ptrV m] w (APostX (ι:=Unit) w0 (fun z=>atA g c q.x*(lkA q.gk id (osT c T) old2 false sn*(memA m (opC C 2 o (sn + id + 1) (valC C 2 o == sn))*(queA 3 (.slice q.Co (osT c T).length q.Cc) (iL (osT c T))*(enA q.ge id 3 T.rv*(stA q.x.set (Z08 c.reads) T.S*(lgA q.x.log T.L*(queA 3 (.slice q.Bs T.sn.length q.Bc) (iL T.sn)*R)))))))) a 12):=by
    refine Z3r (h.pk8 [2,0,7,1,3,4,5,6]) hat (fun w' gr h=>?_)
    refine (Z66 (h.pk9 [1,2,3,4,5,6,7,8,0]) hlk hC ho hxo hs hid rfl ha hl rfl hold hkd hnl).mono ?_
    rintro e w'' ⟨z,rfl,h2⟩
    exact ⟨z,rfl,h2.pk9 [8,0,1,2,3,4,5,6,7]⟩
  refine key.mono fun e w' h=>h.mono fun z w'' h=>⟨(),?_⟩
  exact Hold.Zm9 (q) (⟨⟨e1,e2,e3,e4,e5,e6,e7,e8,e9⟩,hat,hcd,hlk,hor⟩) (h.pk8 [1,3,0,4,5,6,7,2])
theorem Zjf {sn o:Int} {old2:List Int} (h:Hold w0 w (atS g c id T*(memA m C*R))) (hq:T.ph = .lk true sn) (hC:COk C) (ho:(osT c T)[T.old.length]?=some o) (hxo:-9223372036854775808≤o∧o≤9223372036854775807) (hs:0≤sn∧sn < 9223372036854775808) (hid:0≤id∧id≤15) (ha:opA C 3 2 o (sn + id + 1) (valC C 2 o == sn)=a) (hl:T.old.length≤1000) (hold:oldN a.done T.old sn=old2) (hkd:a.kind=3) (hnl:old2.length=(osT c T).length) (hL:T.L.addrs ≠ []) :
    Calls Tryz.prog 57 #[ptrV g,ptrV m] w (APostX (ι:=Unit) w0 (fun _=>atS g c id { T with ph:=.take,old:=old2 }*(memA m (opC C 2 o (sn + id + 1) (valC C 2 o == sn))*R)) a 12):=by
  unfold atS at h
  rw [hq] at h
  obtain ⟨q,⟨⟨e1,e2,e3,e4,e5,e6,e7,e8,e9⟩,hat,hcd,hlk,hor⟩,h⟩:=h.Zm8
  replace h:Hold w0 w (lkA q.gk id (osT c T) T.old true sn*(queA 3 (.slice q.Co (osT c T).length q.Cc) (iL (osT c T))*(atA g c q.x*(enA q.ge id 3 T.rv*(stA q.x.set (Z08 c.reads) T.S*(lgA q.x.log T.L*(queA 3 (.slice q.Bs T.sn.length q.Bc) (iL T.sn)*(memA m C*R)))))))):=h
  have key:Calls Tryz.prog 57 #[ptrV g,ptrV m] w (APostX (ι:=Nat) w0 (fun z=>atA g c { q.x with at_:=6,turn:=ptrV z }*(tuA z false 0 false*(lkA q.gk id (osT c T) old2 false sn*(memA m (opC C 2 o (sn + id + 1) (valC C 2 o == sn))*(queA 3 (.slice q.Co (osT c T).length q.Cc) (iL (osT c T))*(enA q.ge id 3 T.rv*(stA q.x.set (Z08 c.reads) T.S*(lgA q.x.log T.L*(queA 3 (.slice q.Bs T.sn.length q.Bc) (iL T.sn)*R))))))))) a 12):=by
    refine Z3r (h.pk8 [2,0,7,1,3,4,5,6]) hat (fun w' gr h=>?_)
    refine (Z68 (h.pk9 [1,2,3,4,5,6,7,8,0]) hlk hC ho hxo hs hid rfl ha hl rfl hold hkd hnl).mono ?_
    rintro e w'' ⟨z,rfl,h2⟩
    exact ⟨z,rfl,h2.pk10 [9,0,1,2,3,4,5,6,7,8]⟩
  refine key.mono fun e w' h=>h.mono fun z w'' h=>⟨(),?_⟩
  have h9:=h.pk9 [1,2,4,0,5,6,7,8,3]
  refine Hold.Zm9 { q with x:={ q.x with at_:=6,turn:=ptrV z },gt:=z,ls:=sn } ⟨⟨e1,e2,e3,e4,e5,e6,e7,e8,e9⟩,rfl,hcd,rfl,?_⟩ ?_
  · show lokC c _ _
    unfold lokC
    rw [if_neg (show ({ T with ph:=.take,old:=old2 }:TS).L.addrs ≠ [] from hL)]
    exact ⟨hlk,hor⟩
  · show Hold w0 w'' (sepR (tuA z false 0 false :: lokA c id { T with ph:=.take,old:=old2 } { q with x:={ q.x with at_:=6,turn:=ptrV z },gt:=z,ls:=sn } :: acL g c id T { q with x:={ q.x with at_:=6,turn:=ptrV z },gt:=z,ls:=sn } 3 T.rv) _)
    unfold lokA
    rw [if_neg (show ({ T with ph:=.take,old:=old2 }:TS).L.addrs ≠ [] from hL)]
    exact h9.imp (Imp.under _ (Imp.assoc' _ _ _))
theorem Zgg (h:Hold w0 w (atS g c id T*(memA m C*R))) (hq:T.ph = .take) (hC:COk C) :
    Calls Tryz.prog 57 #[ptrV g,ptrV m] w (APostX (ι:=Unit) w0 (fun _=>atS g c id { T with ph:=.wait (valC C 4 0) }*(memA m (opC C 4 0 (IntKind.u64.wrap (valC C 4 0 + 1)) true)*R)) ⟨4,4,0,valC C 4 0,IntKind.u64.wrap (valC C 4 0 + 1),true⟩ 13):=by
  unfold atS at h
  rw [hq] at h
  obtain ⟨q,⟨⟨e1,e2,e3,e4,e5,e6,e7,e8,e9⟩,hat,hcd,htu,hlo⟩,h⟩:=h.Zm8
  replace h:Hold w0 w (tuA q.gt false 0 false*(lokA c id T q*(atA g c q.x*(enA q.ge id 3 T.rv*(stA q.x.set (Z08 c.reads) T.S*(lgA q.x.log T.L*(queA 3 (.slice q.Bs T.sn.length q.Bc) (iL T.sn)*(memA m C*R)))))))):=h
  have key:Calls Tryz.prog 57 #[ptrV g,ptrV m] w (APostX (ι:=Unit) w0 (fun z=>atA g c q.x*(tuA q.gt true (valC C 4 0) false*(memA m (opC C 4 0 (IntKind.u64.wrap (valC C 4 0 + 1)) true)*(lokA c id T q*(enA q.ge id 3 T.rv*(stA q.x.set (Z08 c.reads) T.S*(lgA q.x.log T.L*(queA 3 (.slice q.Bs T.sn.length q.Bc) (iL T.sn)*R)))))))) ⟨4,4,0,valC C 4 0,IntKind.u64.wrap (valC C 4 0 + 1),true⟩ 13):=by
    refine Z2h (h.pk8 [2,0,7,1,3,4,5,6]) hat (fun w' gr h=>?_)
    refine (Z61 (h.pk9 [1,2,3,4,5,6,7,8,0]) htu hC rfl rfl).mono ?_
    rintro e w'' ⟨z,rfl,h2⟩
    exact ⟨z,rfl,h2.pk9 [8,0,1,2,3,4,5,6,7]⟩
  refine key.mono fun e w' h=>h.mono fun z w'' h=>⟨(),?_⟩
  exact Hold.Zm9 (q) (⟨⟨e1,e2,e3,e4,e5,e6,e7,e8,e9⟩,hat,hcd,htu,hlo⟩) (h.pk8 [1,3,0,4,5,6,7,2])
theorem Zkz {tk:Int} (h:Hold w0 w (atS g c id T*(memA m C*R))) (hq:T.ph = .wait tk) (hC:COk C) (hne:valC C 5 0 ≠ tk) :
    Calls Tryz.prog 57 #[ptrV g,ptrV m] w (APostX (ι:=Unit) w0 (fun _=>atS g c id T*(memA m C*R)) ⟨1,5,0,valC C 5 0,valC C 5 0,true⟩ 14):=by
  unfold atS at h
  rw [hq] at h
  obtain ⟨q,⟨⟨e1,e2,e3,e4,e5,e6,e7,e8,e9⟩,hat,hcd,htu,hlo⟩,h⟩:=h.Zm8
  replace h:Hold w0 w (tuA q.gt true tk false*(lokA c id T q*(atA g c q.x*(enA q.ge id 3 T.rv*(stA q.x.set (Z08 c.reads) T.S*(lgA q.x.log T.L*(queA 3 (.slice q.Bs T.sn.length q.Bc) (iL T.sn)*(memA m C*R)))))))):=h
  have key:Calls Tryz.prog 57 #[ptrV g,ptrV m] w (APostX (ι:=Unit) w0 (fun z=>atA g c q.x*(tuA q.gt true tk false*(memA m C*(lokA c id T q*(enA q.ge id 3 T.rv*(stA q.x.set (Z08 c.reads) T.S*(lgA q.x.log T.L*(queA 3 (.slice q.Bs T.sn.length q.Bc) (iL T.sn)*R)))))))) ⟨1,5,0,valC C 5 0,valC C 5 0,true⟩ 14):=by
    refine Z2h (h.pk8 [2,0,7,1,3,4,5,6]) hat (fun w' gr h=>?_)
    refine (Z60 (h.pk9 [1,2,3,4,5,6,7,8,0]) htu hC rfl hne).mono ?_
    rintro e w'' ⟨z,rfl,h2⟩
    exact ⟨z,rfl,h2.pk9 [8,0,1,2,3,4,5,6,7]⟩
  refine key.mono fun e w' h=>h.mono fun z w'' h=>⟨(),?_⟩
  exact Hold.Zm9 (q) ((by rw [hq];exact ⟨⟨e1,e2,e3,e4,e5,e6,e7,e8,e9⟩,hat,hcd,htu,hlo⟩)) (by rw [hq];exact h.pk8 [1,3,0,4,5,6,7,2])
theorem Zl2 {tk:Int} (h:Hold w0 w (atS g c id T*(memA m C*R))) (hq:T.ph = .wait tk) (hC:COk C) (heq:valC C 5 0=tk) (hrv:0≤T.rv∧T.rv≤1099511627776) (hl:T.S.length≤1000) (hS:T.S ≠ []) :
    Calls Tryz.prog 57 #[ptrV g,ptrV m] w (APostX (ι:=Unit) w0 (fun _=>atS g c id { T with ph:=.chk tk T.S }*(memA m C*R)) ⟨1,5,0,valC C 5 0,valC C 5 0,true⟩ 14):=by
  unfold atS at h
  rw [hq] at h
  obtain ⟨q,⟨⟨e1,e2,e3,e4,e5,e6,e7,e8,e9⟩,hat,hcd,htu,hlo⟩,h⟩:=h.Zm8
  replace h:Hold w0 w (tuA q.gt true tk false*(lokA c id T q*(atA g c q.x*(enA q.ge id 3 T.rv*(stA q.x.set (Z08 c.reads) T.S*(lgA q.x.log T.L*(queA 3 (.slice q.Bs T.sn.length q.Bc) (iL T.sn)*(memA m C*R)))))))):=h
  have key:Calls Tryz.prog 57 #[ptrV g,ptrV m] w (APostX (ι:=Nat) w0 (fun z=>atA g c { q.x with check:=ptrV z,at_:=7 }*(chkA z T.S T.rv false*(tuA q.gt true tk true*(memA m C*(stA q.x.set (Z08 c.reads) T.S*(enA q.ge id 3 T.rv*(lokA c id T q*(lgA q.x.log T.L*(queA 3 (.slice q.Bs T.sn.length q.Bc) (iL T.sn)*R))))))))) ⟨1,5,0,valC C 5 0,valC C 5 0,true⟩ 14):=by
    refine Z2h (h.pk8 [2,0,7,4,3,1,5,6]) hat (fun w' gr h=>?_)
    refine (Z63 (h.pk9 [1,2,3,4,5,6,7,8,0]) htu hC rfl heq rfl e1 hrv hl hS).mono ?_
    rintro e w'' ⟨z,rfl,h2⟩
    exact ⟨z,rfl,h2.pk10 [9,0,1,2,3,4,5,6,7,8]⟩
  refine key.mono fun e w' h=>h.mono fun z w'' h=>⟨(),?_⟩
  exact Hold.Zm9 ({ q with x:={ q.x with check:=ptrV z,at_:=7 },gw:=z }) (⟨⟨e1,e2,e3,e4,e5,e6,e7,e8,e9⟩,rfl,hcd,htu,hlo,rfl⟩) (h.pk9 [2,6,1,0,5,4,7,8,3])
theorem Zjc {tk:Int} (h:Hold w0 w (atS g c id T*(memA m C*R))) (hq:T.ph = .wait tk) (hC:COk C) (heq:valC C 5 0=tk) (hrv:0≤T.rv∧T.rv≤1099511627776) (hl:T.S.length≤1000) (hS:T.S=[]) :
    Calls Tryz.prog 57 #[ptrV g,ptrV m] w (APostX (ι:=Unit) w0 (fun _=>atS g c id { T with ph:=.dec tk }*(memA m C*R)) ⟨1,5,0,valC C 5 0,valC C 5 0,true⟩ 14):=by
  unfold atS at h
  rw [hq] at h
  obtain ⟨q,⟨⟨e1,e2,e3,e4,e5,e6,e7,e8,e9⟩,hat,hcd,htu,hlo⟩,h⟩:=h.Zm8
  replace h:Hold w0 w (tuA q.gt true tk false*(lokA c id T q*(atA g c q.x*(enA q.ge id 3 T.rv*(stA q.x.set (Z08 c.reads) T.S*(lgA q.x.log T.L*(queA 3 (.slice q.Bs T.sn.length q.Bc) (iL T.sn)*(memA m C*R)))))))):=h
  have key:Calls Tryz.prog 57 #[ptrV g,ptrV m] w (APostX (ι:=Nat) w0 (fun z=>atA g c { q.x with check:=ptrV z,at_:=8 }*(chkA z T.S T.rv false*(tuA q.gt true tk true*(memA m C*(stA q.x.set (Z08 c.reads) T.S*(enA q.ge id 3 T.rv*(lokA c id T q*(lgA q.x.log T.L*(queA 3 (.slice q.Bs T.sn.length q.Bc) (iL T.sn)*R))))))))) ⟨1,5,0,valC C 5 0,valC C 5 0,true⟩ 14):=by
    refine Z2h (h.pk8 [2,0,7,4,3,1,5,6]) hat (fun w' gr h=>?_)
    refine (Z62 (h.pk9 [1,2,3,4,5,6,7,8,0]) htu hC rfl heq rfl e1 hrv hl hS).mono ?_
    rintro e w'' ⟨z,rfl,h2⟩
    exact ⟨z,rfl,h2.pk10 [9,0,1,2,3,4,5,6,7,8]⟩
  refine key.mono fun e w' h=>h.mono fun z w'' h=>⟨(),?_⟩
  exact Hold.Zm9 ({ q with x:={ q.x with check:=ptrV z,at_:=8 },gw:=z }) (⟨⟨e1,e2,e3,e4,e5,e6,e7,e8,e9⟩,rfl,hcd,htu,hlo⟩) (h.pk9 [2,6,0,5,4,7,8,3])
end
section
variable {w0 w:World} {R R':Asr} {g m:Nat} {c:Cfg} {id:Int} {T:TS} {C C2:Cells} {a:Acc}
theorem Hold.pk12 {w0 w:World} {a1 a2 a3 a4 a5 a6 a7 a8 a9 b0 b1 b2 R:Asr} (h:Hold w0 w (a1*(a2*(a3*(a4*(a5*(a6*(a7*(a8*(a9*(b0*(b1*(b2*R))))))))))))) (is:List Nat) (hn:is.Nodup∧∀ i ∈ is,i < 12:=by decide):Hold w0 w (sepR (is.map fun i=>[a1,a2,a3,a4,a5,a6,a7,a8,a9,b0,b1,b2].getD i Asr.emp) R):=h.imp (Imp.pick R is [a1,a2,a3,a4,a5,a6,a7,a8,a9,b0,b1,b2] hn.1 hn.2)
theorem Zjh {tk ad:Int} {zs:List Int} (h:Hold w0 w (atS g c id T*(memA m C*R))) (hq:T.ph = .chk tk (ad :: zs)) (hC:COk C) (hz:-9223372036854775808≤ad∧ad≤9223372036854775807) (hg:0≤(ldA C 2 ad).got∧(ldA C 2 ad).got < 18446744073709551616) (hv:(ldA C 2 ad).got / 64≤T.rv) (hzs:zs ≠ []) :
    Calls Tryz.prog 57 #[ptrV g,ptrV m] w (APostX (ι:=Unit) w0 (fun _=>atS g c id { T with ph:=.chk tk zs }*(memA m C*R)) (ldA C 2 ad) 15):=by
  unfold atS at h
  rw [hq] at h
  obtain ⟨q,⟨⟨e1,e2,e3,e4,e5,e6,e7,e8,e9⟩,hat,hcd,htu,hlo,hck⟩,h⟩:=h.Zm8
  replace h:Hold w0 w (tuA q.gt true tk true*(lokA c id T q*(chkA q.gw (ad :: zs) T.rv false*(atA g c q.x*(enA q.ge id 3 T.rv*(stA q.x.set (Z08 c.reads) T.S*(lgA q.x.log T.L*(queA 3 (.slice q.Bs T.sn.length q.Bc) (iL T.sn)*(memA m C*R))))))))):=h
  have key:Calls Tryz.prog 57 #[ptrV g,ptrV m] w (APostX (ι:=Unit) w0 (fun z=>atA g c q.x*(chkA q.gw zs T.rv false*(memA m C*(tuA q.gt true tk true*(lokA c id T q*(enA q.ge id 3 T.rv*(stA q.x.set (Z08 c.reads) T.S*(lgA q.x.log T.L*(queA 3 (.slice q.Bs T.sn.length q.Bc) (iL T.sn)*R))))))))) (ldA C 2 ad) 15):=by
    refine Z1x (h.pk9 [3,2,8,0,1,4,5,6,7]) hat (fun w' gr h=>?_)
    refine (Z5f (h.pk10 [1,2,3,4,5,6,7,8,9,0]) hck hC hz rfl hg hv hzs).mono ?_
    rintro e w'' ⟨z,rfl,h2⟩
    exact ⟨z,rfl,h2.pk10 [9,0,1,2,3,4,5,6,7,8]⟩
  refine key.mono fun e w' h=>h.mono fun z w'' h=>⟨(),?_⟩
  exact Hold.Zm9 (q) (⟨⟨e1,e2,e3,e4,e5,e6,e7,e8,e9⟩,hat,hcd,htu,hlo,hck⟩) (h.pk9 [3,4,1,0,5,6,7,8,2])
theorem Zjj {tk ad:Int} (h:Hold w0 w (atS g c id T*(memA m C*R))) (hq:T.ph = .chk tk [ad]) (hC:COk C) (hz:-9223372036854775808≤ad∧ad≤9223372036854775807) (hg:0≤(ldA C 2 ad).got∧(ldA C 2 ad).got < 18446744073709551616) (hv:(ldA C 2 ad).got / 64≤T.rv) :
    Calls Tryz.prog 57 #[ptrV g,ptrV m] w (APostX (ι:=Unit) w0 (fun _=>atS g c id { T with ph:=.dec tk }*(memA m C*R)) (ldA C 2 ad) 15):=by
  unfold atS at h
  rw [hq] at h
  obtain ⟨q,⟨⟨e1,e2,e3,e4,e5,e6,e7,e8,e9⟩,hat,hcd,htu,hlo,hck⟩,h⟩:=h.Zm8
  replace h:Hold w0 w (tuA q.gt true tk true*(lokA c id T q*(chkA q.gw [ad] T.rv false*(atA g c q.x*(enA q.ge id 3 T.rv*(stA q.x.set (Z08 c.reads) T.S*(lgA q.x.log T.L*(queA 3 (.slice q.Bs T.sn.length q.Bc) (iL T.sn)*(memA m C*R))))))))):=h
  have key:Calls Tryz.prog 57 #[ptrV g,ptrV m] w (APostX (ι:=Unit) w0 (fun z=>atA g c { q.x with at_:=8 }*(chkA q.gw [] T.rv false*(memA m C*(tuA q.gt true tk true*(lokA c id T q*(enA q.ge id 3 T.rv*(stA q.x.set (Z08 c.reads) T.S*(lgA q.x.log T.L*(queA 3 (.slice q.Bs T.sn.length q.Bc) (iL T.sn)*R))))))))) (ldA C 2 ad) 15):=by
    refine Z1x (h.pk9 [3,2,8,0,1,4,5,6,7]) hat (fun w' gr h=>?_)
    refine (Z5g (h.pk10 [1,2,3,4,5,6,7,8,9,0]) hck hC hz rfl hg hv rfl).mono ?_
    rintro e w'' ⟨z,rfl,h2⟩
    exact ⟨z,rfl,h2.pk10 [9,0,1,2,3,4,5,6,7,8]⟩
  refine key.mono fun e w' h=>h.mono fun z w'' h=>⟨(),?_⟩
  exact Hold.Zm9 ({ q with x:={ q.x with at_:=8 } }) (⟨⟨e1,e2,e3,e4,e5,e6,e7,e8,e9⟩,rfl,hcd,htu,hlo⟩) (h.pk9 [3,4,0,5,6,7,8,2])
theorem Zjl {tk ad:Int} {zs:List Int} (h:Hold w0 w (atS g c id T*(memA m C*R))) (hq:T.ph = .chk tk (ad :: zs)) (hC:COk C) (hz:-9223372036854775808≤ad∧ad≤9223372036854775807) (hg:0≤(ldA C 2 ad).got∧(ldA C 2 ad).got < 18446744073709551616) (hv:T.rv < (ldA C 2 ad).got / 64) (hL:T.L.addrs=[]) :
    Calls Tryz.prog 57 #[ptrV g,ptrV m] w (APostX (ι:=Unit) w0 (fun _=>atS g c id { T with ph:=.pass tk,code:=9 }*(memA m C*R)) (ldA C 2 ad) 15):=by
  unfold atS at h
  rw [hq] at h
  obtain ⟨q,⟨⟨e1,e2,e3,e4,e5,e6,e7,e8,e9⟩,hat,hcd,htu,hlo,hck⟩,h⟩:=h.Zm8
  replace h:Hold w0 w (tuA q.gt true tk true*(lokA c id T q*(chkA q.gw (ad :: zs) T.rv false*(atA g c q.x*(enA q.ge id 3 T.rv*(stA q.x.set (Z08 c.reads) T.S*(lgA q.x.log T.L*(queA 3 (.slice q.Bs T.sn.length q.Bc) (iL T.sn)*(memA m C*R))))))))):=h
  unfold lokC at hlo
  rw [if_pos hL] at hlo
  have key:Calls Tryz.prog 57 #[ptrV g,ptrV m] w (APostX (ι:=Unit) w0 (fun z=>atA g c { q.x with code:=9,at_:=12 }*(chkA q.gw zs T.rv true*(memA m C*(tuA q.gt true tk true*(lokA c id T q*(enA q.ge id 3 T.rv*(stA q.x.set (Z08 c.reads) T.S*(lgA q.x.log T.L*(queA 3 (.slice q.Bs T.sn.length q.Bc) (iL T.sn)*R))))))))) (ldA C 2 ad) 15):=by
    refine Z1x (h.pk9 [3,2,8,0,1,4,5,6,7]) hat (fun w' gr h=>?_)
    refine (Z5i (h.pk10 [1,2,3,4,5,6,7,8,9,0]) hck hC hz rfl hg hv hlo).mono ?_
    rintro e w'' ⟨z,rfl,h2⟩
    exact ⟨z,rfl,h2.pk10 [9,0,1,2,3,4,5,6,7,8]⟩
  refine key.mono fun e w' h=>h.mono fun z w'' h=>⟨(),?_⟩
  exact Hold.Zm9 ({ q with x:={ q.x with code:=9,at_:=12 } }) (⟨⟨e1,e2,e3,e4,e5,e6,e7,e8,e9⟩,rfl,rfl,htu⟩) (h.pk9 [3,0,2])
theorem Zjk {tk ad:Int} {zs:List Int} (h:Hold w0 w (atS g c id T*(memA m C*R))) (hq:T.ph = .chk tk (ad :: zs)) (hC:COk C) (hz:-9223372036854775808≤ad∧ad≤9223372036854775807) (hg:0≤(ldA C 2 ad).got∧(ldA C 2 ad).got < 18446744073709551616) (hv:T.rv < (ldA C 2 ad).got / 64) (hL:T.L.addrs ≠ []) (h0:0 < (osT c T).length) (hn2:(osT c T).length≤1000) (hol:T.old.length=(osT c T).length) :
    Calls Tryz.prog 57 #[ptrV g,ptrV m] w (APostX (ι:=Unit) w0 (fun _=>atS g c id { T with ph:=.rel tk 0 0 false,code:=9 }*(memA m C*R)) (ldA C 2 ad) 15):=by
  unfold atS at h
  rw [hq] at h
  obtain ⟨q,⟨⟨e1,e2,e3,e4,e5,e6,e7,e8,e9⟩,hat,hcd,htu,hlo,hck⟩,h⟩:=h.Zm8
  replace h:Hold w0 w (tuA q.gt true tk true*(lokA c id T q*(chkA q.gw (ad :: zs) T.rv false*(atA g c q.x*(enA q.ge id 3 T.rv*(stA q.x.set (Z08 c.reads) T.S*(lgA q.x.log T.L*(queA 3 (.slice q.Bs T.sn.length q.Bc) (iL T.sn)*(memA m C*R))))))))):=h
  unfold lokC at hlo
  rw [if_neg hL] at hlo
  unfold lokA at h
  rw [if_neg hL] at h
  have h:=h.imp (Imp.under _ (Imp.assoc _ _ _))
  have key:Calls Tryz.prog 57 #[ptrV g,ptrV m] w (APostX (ι:=Nat) w0 (fun z=>atA g c { q.x with code:=9,at_:=10,release:=ptrV z }*(reA z (osT c T) T.old*(lkA q.gk id (osT c T) T.old false q.ls*(queA 3 (.slice q.Co (osT c T).length q.Cc) (iL (osT c T))*(chkA q.gw zs T.rv true*(memA m C*(tuA q.gt true tk true*(enA q.ge id 3 T.rv*(stA q.x.set (Z08 c.reads) T.S*(lgA q.x.log T.L*(queA 3 (.slice q.Bs T.sn.length q.Bc) (iL T.sn)*R))))))))))) (ldA C 2 ad) 15):=by
    refine Z1x (h.pk10 [4,3,9,1,2,0,5,6,7,8]) hat (fun w' gr h=>?_)
    refine (Z5h (h.pk11 [1,2,3,4,5,6,7,8,9,10,0]) hck hC hz rfl hg hv hlo.2 hlo.1 rfl h0 hn2 hol).mono ?_
    rintro e w'' ⟨z,rfl,h2⟩
    exact ⟨z,rfl,h2.pk12 [11,0,1,2,3,4,5,6,7,8,9,10]⟩
  refine key.mono fun e w' h=>h.mono fun z w'' h=>⟨(),?_⟩
  exact Hold.Zm9 ({ q with x:={ q.x with code:=9,at_:=10,release:=ptrV z },gw:=z }) (⟨⟨e1,e2,e3,e4,e5,e6,e7,e8,e9⟩,rfl,rfl,htu,rfl,fun h=>by cases h⟩) (h.pk11 [6,1,0,9,5])
theorem Z2l {α:Type} {l:List α} {k:Nat} {x:α} (h:l[k]?=some x):l.drop k=x :: l.drop (k + 1):=by
  obtain ⟨hk,rfl⟩:=List.getElem?_eq_some_iff.1 h
  exact List.drop_eq_getElem_cons hk
theorem Zbl {α:Type} {l:List α} {k:Nat} (h:k < l.length):l.drop k ≠ []:=by
  intro h2
  have:=congrArg List.length h2
  simp at this
  omega
theorem Z8g {α:Type} {l:List α} {k:Nat} (h:k=l.length):l.drop k=[]:=by rw [h];simp
theorem Zj5 {tk ck ad v:Int} {k:Nat} (h:Hold w0 w (atS g c id T*(memA m C*R))) (hq:T.ph = .wr tk ck k) (hC:COk C) (hz:-9223372036854775808≤ad∧ad≤9223372036854775807) (hz0:T.L.addrs[k]?=some ad) (hv0:T.L.vals[k]?=some v) (hk:k + 1 < T.L.addrs.length) :
    Calls Tryz.prog 57 #[ptrV g,ptrV m] w (APostX (ι:=Unit) w0 (fun _=>atS g c id { T with ph:=.wr tk ck (k + 1) }*(memA m (opC C 1 ad v true)*R)) (stA2 C 1 ad v) 17):=by
  unfold atS at h
  rw [hq] at h
  obtain ⟨q,⟨⟨e1,e2,e3,e4,e5,e6,e7,e8,e9⟩,hat,hcd,htu,hor,hcl,hdc,hwr⟩,h⟩:=h.Zm8
  replace h:Hold w0 w (tuA q.gt true tk true*(wrA q.gw (T.L.addrs.drop k) (T.L.vals.drop k)*(queA 3 (.slice q.Co (osT c T).length q.Cc) (iL (osT c T))*(atA g c q.x*(lgA q.x.log T.L*(memA m C*R)))))):=h
  have hd1:T.L.addrs.drop k=ad :: T.L.addrs.drop (k + 1):=Z2l hz0
  have hd2:T.L.vals.drop k=v :: T.L.vals.drop (k + 1):=Z2l hv0
  rw [hd1,hd2] at h
  have key:Calls Tryz.prog 57 #[ptrV g,ptrV m] w (APostX (ι:=Unit) w0 (fun z=>atA g c q.x*(wrA q.gw (T.L.addrs.drop (k + 1)) (T.L.vals.drop (k + 1))*(memA m (opC C 1 ad v true)*(tuA q.gt true tk true*(queA 3 (.slice q.Co (osT c T).length q.Cc) (iL (osT c T))*(lgA q.x.log T.L*R)))))) (stA2 C 1 ad v) 17):=by
    refine Z51 (h.pk6 [3,1,5,0,2,4]) hat (fun w' gr h=>?_)
    refine (Z5b (h.pk7 [1,2,3,4,5,6,0]) hwr hC hz rfl rfl (Zbl hk)).mono ?_
    rintro e w'' ⟨z,rfl,h2⟩
    exact ⟨z,rfl,h2.pk7 [6,0,1,2,3,4,5]⟩
  refine key.mono fun e w' h=>h.mono fun z w'' h=>⟨(),?_⟩
  exact Hold.Zm9 (q) (⟨⟨e1,e2,e3,e4,e5,e6,e7,e8,e9⟩,hat,hcd,htu,hor,hcl,hdc,hwr⟩) (h.pk6 [3,1,4,0,5,2])
theorem Zj6 {tk ck ad v:Int} {k:Nat} (h:Hold w0 w (atS g c id T*(memA m C*R))) (hq:T.ph = .wr tk ck k) (hC:COk C) (hz:-9223372036854775808≤ad∧ad≤9223372036854775807) (hz0:T.L.addrs[k]?=some ad) (hv0:T.L.vals[k]?=some v) (hk:k + 1=T.L.addrs.length) (hcr:0≤ck∧ck < 1000) (hTc:T.code=1) (h0:0 < (osT c T).length) (hn2:(osT c T).length≤1000) :
    Calls Tryz.prog 57 #[ptrV g,ptrV m] w (APostX (ι:=Unit) w0 (fun _=>atS g c id { T with ph:=.rel tk ck 0 true }*(memA m (opC C 1 ad v true)*R)) (stA2 C 1 ad v) 17):=by
  unfold atS at h
  rw [hq] at h
  obtain ⟨q,⟨⟨e1,e2,e3,e4,e5,e6,e7,e8,e9⟩,hat,hcd,htu,hor,hcl,hdc,hwr⟩,h⟩:=h.Zm8
  replace h:Hold w0 w (tuA q.gt true tk true*(wrA q.gw (T.L.addrs.drop k) (T.L.vals.drop k)*(queA 3 (.slice q.Co (osT c T).length q.Cc) (iL (osT c T))*(atA g c q.x*(lgA q.x.log T.L*(memA m C*R)))))):=h
  have hd1:T.L.addrs.drop k=ad :: T.L.addrs.drop (k + 1):=Z2l hz0
  have hd2:T.L.vals.drop k=v :: T.L.vals.drop (k + 1):=Z2l hv0
  rw [hd1,hd2] at h
  have key:Calls Tryz.prog 57 #[ptrV g,ptrV m] w (APostX (ι:=Nat) w0 (fun z=>atA g c { q.x with at_:=10,release:=ptrV z }*(reA z (osT c T) (List.replicate (osT c T).length ((ck + 1)*64))*(wrA q.gw (T.L.addrs.drop (k + 1)) (T.L.vals.drop (k + 1))*(memA m (opC C 1 ad v true)*(lgA q.x.log T.L*(queA 3 (.slice q.Co (osT c T).length q.Cc) (iL (osT c T))*(tuA q.gt true tk true*R))))))) (stA2 C 1 ad v) 17):=by
    refine Z51 (h.pk6 [3,1,5,4,2,0]) hat (fun w' gr h=>?_)
    refine (Z5c (h.pk7 [1,2,3,4,5,6,0]) hwr hC hz rfl rfl (Z8g hk) rfl (by rw [hcl];omega) hdc hcd (by omega) hor rfl h0 hn2 (by rw [hcl])).mono ?_
    rintro e w'' ⟨z,rfl,h2⟩
    exact ⟨z,rfl,h2.pk8 [7,0,1,2,3,4,5,6]⟩
  refine key.mono fun e w' h=>h.mono fun z w'' h=>⟨(),?_⟩
  exact Hold.Zm9 ({ q with x:={ q.x with at_:=10,release:=ptrV z },gw:=z }) (⟨⟨e1,e2,e3,e4,e5,e6,e7,e8,e9⟩,rfl,(by rw [hTc];exact hcd),htu,rfl,fun _=>⟨hcl,hdc⟩⟩) (h.pk7 [6,1,0,4,3])
theorem Zgh {tk ck ad v:Int} {k:Nat} (h:Hold w0 w (atS g c id T*(memA m C*R))) (hq:T.ph = .rel tk ck k true) (hC:COk C) (hz:-9223372036854775808≤ad∧ad≤9223372036854775807) (hz0:(osT c T)[k]?=some ad) (hv0:v=(ck + 1)*64) (hk:k + 1 < (osT c T).length) :
    Calls Tryz.prog 57 #[ptrV g,ptrV m] w (APostX (ι:=Unit) w0 (fun _=>atS g c id { T with ph:=.rel tk ck (k + 1) true }*(memA m (opC C 2 ad v true)*R)) (stA2 C 2 ad v) 18):=by
  unfold atS at h
  rw [hq] at h
  obtain ⟨q,⟨⟨e1,e2,e3,e4,e5,e6,e7,e8,e9⟩,hat,hcd,htu,hre,hst⟩,h⟩:=h.Zm8
  replace h:Hold w0 w (tuA q.gt true tk true*(reA q.gw ((osT c T).drop k) (List.replicate ((osT c T).length - k) ((ck + 1)*64))*(atA g c q.x*(lgA q.x.log T.L*(memA m C*R))))):=h
  have hd1:(osT c T).drop k=ad :: (osT c T).drop (k + 1):=Z2l hz0
  have hkl:=(List.getElem?_eq_some_iff.1 hz0).1
  have hd2:List.replicate ((osT c T).length - k) ((ck + 1)*64)=v :: List.replicate ((osT c T).length - (k + 1)) ((ck + 1)*64):=by
    rw [show (osT c T).length - k=((osT c T).length - (k + 1)) + 1 by omega,List.replicate_succ,hv0]
  rw [hd1,hd2] at h
  have key:Calls Tryz.prog 57 #[ptrV g,ptrV m] w (APostX (ι:=Unit) w0 (fun z=>atA g c q.x*(reA q.gw ((osT c T).drop (k + 1)) (List.replicate ((osT c T).length - (k + 1)) ((ck + 1)*64))*(memA m (opC C 2 ad v true)*(tuA q.gt true tk true*(lgA q.x.log T.L*R))))) (stA2 C 2 ad v) 18):=by
    refine Z1m (h.pk5 [2,1,4,0,3]) hat (fun w' gr h=>?_)
    refine (Z29 (h.pk6 [1,2,3,4,5,0]) hre hC hz rfl rfl (Zbl hk)).mono ?_
    rintro e w'' ⟨z,rfl,h2⟩
    exact ⟨z,rfl,h2.pk6 [5,0,1,2,3,4]⟩
  refine key.mono fun e w' h=>h.mono fun z w'' h=>⟨(),?_⟩
  exact Hold.Zm9 (q) (⟨⟨e1,e2,e3,e4,e5,e6,e7,e8,e9⟩,hat,hcd,htu,hre,hst⟩) (h.pk5 [3,1,0,4,2])
theorem Zgj {tk ck ad v:Int} {k:Nat} (h:Hold w0 w (atS g c id T*(memA m C*R))) (hq:T.ph = .rel tk ck k true) (hC:COk C) (hz:-9223372036854775808≤ad∧ad≤9223372036854775807) (hz0:(osT c T)[k]?=some ad) (hv0:v=(ck + 1)*64) (hk:k + 1=(osT c T).length) (hcr:0≤ck∧ck≤1000) (hTc:T.code=1) (hL:T.L.addrs ≠ []) :
    Calls Tryz.prog 57 #[ptrV g,ptrV m] w (APostX (ι:=Unit) w0 (fun _=>atS g c id { T with ph:=.stamp tk ck }*(memA m (opC C 2 ad v true)*R)) (stA2 C 2 ad v) 18):=by
  unfold atS at h
  rw [hq] at h
  obtain ⟨q,⟨⟨e1,e2,e3,e4,e5,e6,e7,e8,e9⟩,hat,hcd,htu,hre,hst⟩,h⟩:=h.Zm8
  replace h:Hold w0 w (tuA q.gt true tk true*(reA q.gw ((osT c T).drop k) (List.replicate ((osT c T).length - k) ((ck + 1)*64))*(atA g c q.x*(lgA q.x.log T.L*(memA m C*R))))):=h
  have hd1:(osT c T).drop k=ad :: (osT c T).drop (k + 1):=Z2l hz0
  have hkl:=(List.getElem?_eq_some_iff.1 hz0).1
  have hd2:List.replicate ((osT c T).length - k) ((ck + 1)*64)=v :: List.replicate ((osT c T).length - (k + 1)) ((ck + 1)*64):=by
    rw [show (osT c T).length - k=((osT c T).length - (k + 1)) + 1 by omega,List.replicate_succ,hv0]
  rw [hd1,hd2] at h
  have key:Calls Tryz.prog 57 #[ptrV g,ptrV m] w (APostX (ι:=Unit) w0 (fun z=>atA g c { q.x with at_:=11 }*(reA q.gw ((osT c T).drop (k + 1)) (List.replicate ((osT c T).length - (k + 1)) ((ck + 1)*64))*(memA m (opC C 2 ad v true)*(lgA q.x.log T.L*(tuA q.gt true tk true*R))))) (stA2 C 2 ad v) 18):=by
    refine Z1m (h.pk5 [2,1,4,3,0]) hat (fun w' gr h=>?_)
    refine (Z45 (h.pk6 [1,2,3,4,5,0]) hre hC hz rfl rfl (Z8g hk) rfl (by rw [(hst rfl).1];omega) (hst rfl).2 (by rw [hcd];exact hTc) (List.length_pos_iff.2 hL)).mono ?_
    rintro e w'' ⟨z,rfl,h2⟩
    exact ⟨z,rfl,h2.pk6 [5,0,1,2,3,4]⟩
  refine key.mono fun e w' h=>h.mono fun z w'' h=>⟨(),?_⟩
  exact Hold.Zm9 ({ q with x:={ q.x with at_:=11 } }) (⟨⟨e1,e2,e3,e4,e5,e6,e7,e8,e9⟩,rfl,hcd,htu,(hst rfl).1⟩) (h.pk5 [4,0,2])
theorem Zgi {tk ck ad v:Int} {k:Nat} (h:Hold w0 w (atS g c id T*(memA m C*R))) (hq:T.ph = .rel tk ck k false) (hC:COk C) (hz:-9223372036854775808≤ad∧ad≤9223372036854775807) (hz0:(osT c T)[k]?=some ad) (hv0:T.old[k]?=some v) (hk:k + 1 < (osT c T).length) :
    Calls Tryz.prog 57 #[ptrV g,ptrV m] w (APostX (ι:=Unit) w0 (fun _=>atS g c id { T with ph:=.rel tk ck (k + 1) false }*(memA m (opC C 2 ad v true)*R)) (stA2 C 2 ad v) 18):=by
  unfold atS at h
  rw [hq] at h
  obtain ⟨q,⟨⟨e1,e2,e3,e4,e5,e6,e7,e8,e9⟩,hat,hcd,htu,hre,hst⟩,h⟩:=h.Zm8
  replace h:Hold w0 w (tuA q.gt true tk true*(reA q.gw ((osT c T).drop k) (T.old.drop k)*(atA g c q.x*(lgA q.x.log T.L*(memA m C*R))))):=h
  have hd1:(osT c T).drop k=ad :: (osT c T).drop (k + 1):=Z2l hz0
  have hd2:T.old.drop k=v :: T.old.drop (k + 1):=Z2l hv0
  rw [hd1,hd2] at h
  have key:Calls Tryz.prog 57 #[ptrV g,ptrV m] w (APostX (ι:=Unit) w0 (fun z=>atA g c q.x*(reA q.gw ((osT c T).drop (k + 1)) (T.old.drop (k + 1))*(memA m (opC C 2 ad v true)*(tuA q.gt true tk true*(lgA q.x.log T.L*R))))) (stA2 C 2 ad v) 18):=by
    refine Z1m (h.pk5 [2,1,4,0,3]) hat (fun w' gr h=>?_)
    refine (Z29 (h.pk6 [1,2,3,4,5,0]) hre hC hz rfl rfl (Zbl hk)).mono ?_
    rintro e w'' ⟨z,rfl,h2⟩
    exact ⟨z,rfl,h2.pk6 [5,0,1,2,3,4]⟩
  refine key.mono fun e w' h=>h.mono fun z w'' h=>⟨(),?_⟩
  exact Hold.Zm9 (q) (⟨⟨e1,e2,e3,e4,e5,e6,e7,e8,e9⟩,hat,hcd,htu,hre,hst⟩) (h.pk5 [3,1,0,4,2])
theorem Zgk {tk ck ad v:Int} {k:Nat} (h:Hold w0 w (atS g c id T*(memA m C*R))) (hq:T.ph = .rel tk ck k false) (hC:COk C) (hz:-9223372036854775808≤ad∧ad≤9223372036854775807) (hz0:(osT c T)[k]?=some ad) (hv0:T.old[k]?=some v) (hk:k + 1=(osT c T).length) (hTc:T.code=9) :
    Calls Tryz.prog 57 #[ptrV g,ptrV m] w (APostX (ι:=Unit) w0 (fun _=>atS g c id { T with ph:=.pass tk }*(memA m (opC C 2 ad v true)*R)) (stA2 C 2 ad v) 18):=by
  unfold atS at h
  rw [hq] at h
  obtain ⟨q,⟨⟨e1,e2,e3,e4,e5,e6,e7,e8,e9⟩,hat,hcd,htu,hre,hst⟩,h⟩:=h.Zm8
  replace h:Hold w0 w (tuA q.gt true tk true*(reA q.gw ((osT c T).drop k) (T.old.drop k)*(atA g c q.x*(lgA q.x.log T.L*(memA m C*R))))):=h
  have hd1:(osT c T).drop k=ad :: (osT c T).drop (k + 1):=Z2l hz0
  have hd2:T.old.drop k=v :: T.old.drop (k + 1):=Z2l hv0
  rw [hd1,hd2] at h
  have key:Calls Tryz.prog 57 #[ptrV g,ptrV m] w (APostX (ι:=Unit) w0 (fun z=>atA g c { q.x with at_:=12 }*(reA q.gw ((osT c T).drop (k + 1)) (T.old.drop (k + 1))*(memA m (opC C 2 ad v true)*(lgA q.x.log T.L*(tuA q.gt true tk true*R))))) (stA2 C 2 ad v) 18):=by
    refine Z1m (h.pk5 [2,1,4,3,0]) hat (fun w' gr h=>?_)
    refine (Z4g (h.pk6 [1,2,3,4,5,0]) hre hC hz rfl rfl (Z8g hk) rfl ⟨e8,by omega⟩ (by rw [hcd,hTc];simp)).mono ?_
    rintro e w'' ⟨z,rfl,h2⟩
    exact ⟨z,rfl,h2.pk6 [5,0,1,2,3,4]⟩
  refine key.mono fun e w' h=>h.mono fun z w'' h=>⟨(),?_⟩
  exact Hold.Zm9 ({ q with x:={ q.x with at_:=12 } }) (⟨⟨e1,e2,e3,e4,e5,e6,e7,e8,e9⟩,rfl,hcd,htu⟩) (h.pk5 [4,0,2])
theorem Zj7 {tk ck:Int} (h:Hold w0 w (atS g c id T*(memA m C*R))) (hq:T.ph = .stamp tk ck) (hC:COk C) (hcr:0≤ck∧ck≤1000):Calls Tryz.prog 57 #[ptrV g,ptrV m] w (APostX (ι:=Unit) w0 (fun _=>atS g c id { T with ph:=.pass tk }*(memA m (opC C 3 0 (ck + 1) true)*R)) (stA2 C 3 0 (ck + 1)) 19):=by
  unfold atS at h
  rw [hq] at h
  obtain ⟨q,⟨⟨e1,e2,e3,e4,e5,e6,e7,e8,e9⟩,hat,hcd,htu,hcl⟩,h⟩:=h.Zm8
  replace h:Hold w0 w (tuA q.gt true tk true*(atA g c q.x*(memA m C*R))):=h
  refine (Z8n (h.pk3 [1,2,0]) hat hC rfl rfl hcl (by omega)).mono fun e w' h=>h.mono fun z w'' h=>⟨(),?_⟩
  exact Hold.Zm9 { q with x:={ q.x with at_:=12 } } ⟨⟨e1,e2,e3,e4,e5,e6,e7,e8,e9⟩,rfl,hcd,htu⟩ (h.pk3 [2,0,1])
theorem Zl1 {tk:Int} (h:Hold w0 w (atS g c id T*(memA m C*R))) (hq:T.ph = .pass tk) (hC:COk C) (hcr:0≤tk∧tk≤1000000):Calls Tryz.prog 57 #[ptrV g,ptrV m] w (APostX (ι:=Unit) w0 (fun _=>atS g c id { T with ph:=.leave }*(memA m (opC C 5 0 (tk + 1) true)*R)) (stA2 C 5 0 (tk + 1)) 20):=by
  unfold atS at h
  rw [hq] at h
  obtain ⟨q,⟨⟨e1,e2,e3,e4,e5,e6,e7,e8,e9⟩,hat,hcd,htu⟩,h⟩:=h.Zm8
  replace h:Hold w0 w (tuA q.gt true tk true*(atA g c q.x*(memA m C*R))):=h
  refine (Za2 (h.pk3 [1,0,2]) hat hC rfl rfl htu (by omega) e4 e6).mono fun e w' h=>h.mono fun z w'' h=>⟨(),?_⟩
  exact Hold.Zm9 { q with x:={ q.x with at_:=14 } } ⟨rfl,hcd,e3,e5,e2⟩ (h.pk3 [0,2])
theorem Zjg (h:Hold w0 w (atS g c id T*(memA m C*R))) (hq:T.ph = .leave) (hC:COk C) (hid:0≤id∧id≤100):Calls Tryz.prog 57 #[ptrV g,ptrV m] w (APostX (ι:={ y:AtR // y.at_=0∧y.state=2∧y.code=T.code∧y.frees = .slice none 0 0 }) w0 (fun y=>atA g c y.1*(memA m (opC C 6 id 0 true)*R)) (stA2 C 6 id 0) 24):=by
  unfold atS at h
  rw [hq] at h
  obtain ⟨q,⟨hat,hcd,hst,hfr,hth⟩,h⟩:=h.Zm8
  replace h:Hold w0 w (atA g c q.x*(memA m C*R)):=h
  exact (Z8o h hat hC rfl rfl hth hid).mono fun e w' h=>h.mono fun z w'' h=>⟨⟨{ q.x with at_:=0,state:=2 },rfl,rfl,hcd,hfr⟩,h⟩
end
structure TQ where
  g:Nat
  A:Option Addr
  cp:Nat
  sv:Value
  ov:Value
  asked:Int
  drain:Value
  limbo:Value
def attV (g:Nat):Ph→Value
  | .none=>.pointer none
  | _=>ptrV g
def thR (p:List InsR) (n id:Int) (T:TS) (q:TQ) (a:Value):ThR :=
  { attempt:=a,begin_:=T.begin_,saved:=T.saved,tries:=T.tries,seen:=q.sv,strong:=false,asked:=q.asked,fence:=.pointer none,drain:=q.drain,id:=id,threads:=n,code:=.slice q.A p.length q.cp,pc:=T.pc,regs:=T.regs,outcome:=T.outcome,done:=T.pc == (p.length:Int),limbo:=q.limbo,obs:=q.ov,count:=T.count }
def attA (g:Nat) (c:Cfg) (id:Int) (T:TS):Ph→Asr
  | .none=>Asr.emp
  | _=>atS g c id T
def thS (t:Nat) (c:Cfg) (p:List InsR) (n id:Int) (T:TS):Asr :=
  Asr.exs (fun q:TQ=>True) (fun q=>[thA t c (thR p n id T q (attV q.g T.ph)),Z0a (.slice q.A p.length q.cp) p,obsA q.sv T.seen,obsA q.ov T.obs,attA q.g c id T T.ph])
theorem Z6y {g:Nat} {ph:Ph} (h:ph ≠ .none):attV g ph=ptrV g:=by cases ph <;> first | exact absurd rfl h | rfl
theorem Z6z {g:Nat} {c:Cfg} {id:Int} {T:TS} {ph:Ph} (h:ph ≠ .none):attA g c id T ph=atS g c id T:=by cases ph <;> first | exact absurd rfl h | rfl
section
variable {w0 w:World} {R:Asr} {t g m:Nat} {c:Cfg} {p:List InsR} {n id:Int} {T T':TS} {C C':Cells} {a:Acc} {ph att:Int}
theorem Z7s (h:Hold w0 w (thS t c p n id T*R)) (hb:T.ph ≠ .none):∃ q:TQ,Hold w0 w (thA t c (thR p n id T q (ptrV q.g))*(Z0a (.slice q.A p.length q.cp) p*(obsA q.sv T.seen*(obsA q.ov T.obs*(atS q.g c id T*R))))):=by
  unfold thS at h
  obtain ⟨q,_,h⟩:=h.Zm8
  rw [Z6y hb,Z6z hb] at h
  exact ⟨q,h⟩
theorem Ze1 (q:TQ) (hb:T.ph ≠ .none) (h:Hold w0 w (thA t c (thR p n id T q (ptrV q.g))*(Z0a (.slice q.A p.length q.cp) p*(obsA q.sv T.seen*(obsA q.ov T.obs*(atS q.g c id T*R)))))):Hold w0 w (thS t c p n id T*R):=by
  unfold thS
  refine Hold.Zm9 q trivial ?_
  rw [Z6y hb,Z6z hb]
  exact h
theorem Z4m (h:Hold w0 w (thS t c p n id T*R)) (hb:T.ph = .none):∃ q:TQ,Hold w0 w (thA t c (thR p n id T q (.pointer none))*(Z0a (.slice q.A p.length q.cp) p*(obsA q.sv T.seen*(obsA q.ov T.obs*R)))):=by
  unfold thS at h
  obtain ⟨q,_,h⟩:=h.Zm8
  rw [hb] at h
  replace h:Hold w0 w (thA t c (thR p n id T q (.pointer none))*(Z0a (.slice q.A p.length q.cp) p*(obsA q.sv T.seen*(obsA q.ov T.obs*(Asr.emp*R))))):=h
  have h2:=h.pk5 [4,0,1,2,3]
  exact ⟨q,h2.drop⟩
theorem Z3u (q:TQ) (hb:T.ph = .none) (h:Hold w0 w (thA t c (thR p n id T q (.pointer none))*(Z0a (.slice q.A p.length q.cp) p*(obsA q.sv T.seen*(obsA q.ov T.obs*R))))):Hold w0 w (thS t c p n id T*R):=by
  unfold thS
  refine Hold.Zm9 q trivial ?_
  rw [hb]
  have h2:=h.imp (Imp.Zmd _)
  exact h2.pk5 [1,2,3,4,0]
def Z3d:Ph→Bool
  | .none | .idle=>false
  | _=>true
theorem Zkd (h:Hold w0 w (atS g c id T*R)) (hb:Z3d T.ph=true):Calls Tryz.prog 36 #[ptrV g] w fun e w'=>e = .returned (.bool true)∧w=w':=by
  have key:∀ (y:AtR) (k:Int) (R2:Asr),y.at_=k→k ≠ 0→Hold w0 w (atA g c y*R2)→Calls Tryz.prog 36 #[ptrV g] w fun e w'=>e = .returned (.bool true)∧w=w':=by
    intro y k R2 hy hk h2
    refine (Z5n h2).mono fun e w' he=>?_
    rw [hy] at he
    rwa [bne_iff_ne.2 hk] at he
  unfold atS at h
  cases hq:T.ph with
  | none=>rw [hq] at hb;cases hb
  | idle=>rw [hq] at hb;cases hb
  | ent1 =>
    rw [hq] at h
    obtain ⟨q,hc,h⟩:=h.Zm8
    exact key _ _ _ hc.2.1 (by decide) h
  | ent2 =>
    rw [hq] at h
    obtain ⟨q,hc,h⟩:=h.Zm8
    exact key _ _ _ hc.2.1 (by decide) h
  | rd1 ad bf =>
    rw [hq] at h
    obtain ⟨q,hc,h⟩:=h.Zm8
    exact key _ _ _ hc.2.1 (by decide) (h.pk3 [2])
  | rd2 ad bf vl =>
    rw [hq] at h
    obtain ⟨q,hc,h⟩:=h.Zm8
    exact key _ _ _ hc.2.1 (by decide) (h.pk3 [2])
  | lk ld sn =>
    rw [hq] at h
    obtain ⟨q,hc,h⟩:=h.Zm8
    exact key _ _ _ hc.2.1 (by decide) (h.pk3 [2])
  | take =>
    rw [hq] at h
    obtain ⟨q,hc,h⟩:=h.Zm8
    exact key _ _ _ hc.2.1 (by decide) (h.pk3 [2])
  | wait tk =>
    rw [hq] at h
    obtain ⟨q,hc,h⟩:=h.Zm8
    exact key _ _ _ hc.2.1 (by decide) (h.pk3 [2])
  | chk tk zs =>
    rw [hq] at h
    obtain ⟨q,hc,h⟩:=h.Zm8
    exact key _ _ _ hc.2.1 (by decide) (h.pk4 [3])
  | dec tk =>
    rw [hq] at h
    obtain ⟨q,hc,h⟩:=h.Zm8
    exact key _ _ _ hc.2.1 (by decide) (h.pk3 [2])
  | wr tk ck k =>
    rw [hq] at h
    obtain ⟨q,hc,h⟩:=h.Zm8
    exact key _ _ _ hc.2.1 (by decide) (h.pk4 [3])
  | rel tk ck k st =>
    rw [hq] at h
    obtain ⟨q,hc,h⟩:=h.Zm8
    exact key _ _ _ hc.2.1 (by decide) (h.pk3 [2])
  | stamp tk ck =>
    rw [hq] at h
    obtain ⟨q,hc,h⟩:=h.Zm8
    exact key _ _ _ hc.2.1 (by decide) (h.pk2 [1])
  | pass tk =>
    rw [hq] at h
    obtain ⟨q,hc,h⟩:=h.Zm8
    exact key _ _ _ hc.2.1 (by decide) (h.pk2 [1])
  | leave =>
    rw [hq] at h
    obtain ⟨q,hc,h⟩:=h.Zm8
    exact key _ _ _ hc.1 (by decide) h
end
theorem AdPost.mono {ι κ:Type} {w0:World} {Q:ι→Asr} {Q':κ→Asr} {a:Acc} {ph att:Int} {e:Ending} {w:World} (h:AdPost w0 Q ph att a e w) (k:∀ E i w',Hold w0 w' (E*Q i)→∃ j,Hold w0 w' (E*Q' j)):AdPost w0 Q' ph att a e w:=by
  obtain ⟨i,v,l,h1,h2,h3⟩:=h
  obtain ⟨j,h4⟩:=k _ i w h3
  exact ⟨j,v,l,h1,h2,h4⟩
theorem StPost.mono {ι κ:Type} {w0:World} {Q:ι→Asr} {Q':κ→Asr} {a:Acc} {id ph att:Int} {e:Ending} {w:World} (h:StPost w0 Q id ph att a e w) (k:∀ E i w',Hold w0 w' (E*Q i)→∃ j,Hold w0 w' (E*Q' j)):StPost w0 Q' id ph att a e w:=by
  obtain ⟨i,v,l,h1,h2,h3⟩:=h
  obtain ⟨j,h4⟩:=k _ i w h3
  exact ⟨j,v,l,h1,h2,h4⟩
def Z49 (w0:World) (t m:Nat) (c:Cfg) (p:List InsR) (n id:Int) (R:Asr) (C':Cells) (T':TS) (ph att:Int) (a:Acc) (w:World):Prop :=
  Calls Tryz.prog 19 #[ptrV t,ptrV m] w (StPost w0 (fun _:Unit=>thS t c p n id T'*(memA m C'*R)) id ph att a)
def Same (p:List InsR) (n id:Int) (T T':TS):Prop:=(∀ q a,thR p n id T' q a=thR p n id T q a)∧T'.seen=T.seen∧T'.obs=T.obs
section
variable {w0 w:World} {R:Asr} {t g m:Nat} {c:Cfg} {p:List InsR} {n id:Int} {T T':TS} {C C':Cells} {a:Acc} {ph att:Int} {i:InsR}
theorem Z4p (h0:0≤T.pc):T.pc=(T.pc.toNat:Int):=by omega
theorem Z3w (h0:0≤T.pc) (hi:p[T.pc.toNat]?=some i):(T.pc == (p.length:Int))=false:=by
  have:=(List.getElem?_eq_some_iff.1 hi).1
  exact beq_eq_false_iff_ne.2 (by omega)
theorem Z3c {q:Ph} (h:Z3d q=true):q ≠ .none:=by rintro rfl;cases h
def AdGoal (w0:World) (t m:Nat) (c:Cfg) (p:List InsR) (n id:Int) (R:Asr) (F:Asr) (C':Cells) (T':TS) (ph att:Int) (a:Acc) (w:World):Prop :=
  Calls Tryz.prog 37 #[ptrV t,ptrV m] w (AdPost w0 (fun q':TQ=>thA t c (thR p n id T' q' (attV q'.g T'.ph))*(F*(Z0a (.slice q'.A p.length q'.cp) p*(obsA q'.sv T'.seen*(obsA q'.ov T'.obs*(attA q'.g c id T' T'.ph*(memA m C'*R))))))) ph att a)
theorem AdGoal.of {F:Asr} (hb':T'.ph ≠ .none) (h:Calls Tryz.prog 37 #[ptrV t,ptrV m] w (AdPost w0 (fun q':TQ=>thA t c (thR p n id T' q' (ptrV q'.g))*(F*(Z0a (.slice q'.A p.length q'.cp) p*(obsA q'.sv T'.seen*(obsA q'.ov T'.obs*(atS q'.g c id T'*(memA m C'*R))))))) ph att a)):AdGoal w0 t m c p n id R F C' T' ph att a w:=by
  unfold AdGoal
  simp only [Z6y hb',Z6z hb']
  exact h
theorem Zaj {E:Asr} {q:TQ} (h:Hold w0 w (E*(thA t c (thR p n id T' q (attV q.g T'.ph))*(Z0a (.slice q.A p.length q.cp) p*(obsA q.sv T'.seen*(obsA q.ov T'.obs*(attA q.g c id T' T'.ph*(memA m C'*R)))))))):Hold w0 w (E*(thS t c p n id T'*(memA m C'*R))):=by
  have h2:Hold w0 w (thS t c p n id T'*(E*(memA m C'*R))):=by
    unfold thS
    exact Hold.Zm9 q trivial (h.pk6 [1,2,3,4,5,0])
  exact h2.pk2 [1,0]
theorem Z30 (h:Hold w0 w (thS t c p n id T*(memA m C*R))) (h0:0≤T.pc) (hi:p[T.pc.toNat]?=some i) (hb:Z3d T.ph=true)
    (hs:∀ F q w',Hold w0 w' (thA t c (thR p n id T q (ptrV q.g))*(F*(Z0a (.slice q.A p.length q.cp) p*(obsA q.sv T.seen*(obsA q.ov T.obs*(atS q.g c id T*(memA m C*R)))))))→AdGoal w0 t m c p n id R F C' T' ph att a w') :
    Z49 w0 t m c p n id R C' T' ph att a w:=by
  obtain ⟨q,h⟩:=Z7s h (Z3c hb)
  refine (Zad (X:=fun q':TQ=>thR p n id T' q' (attV q'.g T'.ph)) (Q:=fun q'=>Z0a (.slice q'.A p.length q'.cp) p*(obsA q'.sv T'.seen*(obsA q'.ov T'.obs*(attA q'.g c id T' T'.ph*(memA m C'*R))))) h rfl (Z4p h0) hi (Z3w h0 hi) rfl rfl ?_ ?_ (fun _=>rfl)).mono fun e w' he=>he.mono fun E q' w' h=>⟨(),Zaj h⟩
  · exact fun F w' h=>(Zkd (h.pk6 [5,0,1,2,3,4]) hb).mono fun e w' h=>⟨h.1,h.2⟩
  · intro F w' h
    exact (hs F q w' (h.pk3 [1,0,2])).mono fun e w' he=>he.mono fun E q' w' h=>⟨q',h.pk3 [0,2,1]⟩
theorem Z3y {F X:Asr} {q:TQ} (h:Hold w0 w (thA t c (thR p n id T q (ptrV q.g))*(F*(Z0a (.slice q.A p.length q.cp) p*(obsA q.sv T.seen*(obsA q.ov T.obs*(X*(memA m C*R)))))))) (hb':Z3d T'.ph=true) (hT:Same p n id T T') (hp3:ph ≠ 3) (hp16:ph ≠ 16)
    (hs:∀ R w,Hold w0 w (X*(memA m C*R))→Calls Tryz.prog 57 #[ptrV q.g,ptrV m] w (APostX (ι:=Unit) w0 (fun _=>atS q.g c id T'*(memA m C'*R)) a ph)) :
    AdGoal w0 t m c p n id R F C' T' ph T.count a w:=by
  refine AdGoal.of (Z3c hb') ?_
  refine (Z97 (Q:=fun _:Unit=>F*(Z0a (.slice q.A p.length q.cp) p*(obsA q.sv T.seen*(obsA q.ov T.obs*(atS q.g c id T'*(memA m C'*R)))))) h rfl hp3 hp16 ?_ ?_).mono fun e w' he=>he.mono fun E _ w' h=>⟨q,?_⟩
  · intro F' w' h
    exact (hs _ w' (h.pk8 [6,7,0,1,2,3,4,5])).mono fun e w' he=>he.mono fun _ w' h=>⟨(),h.pk8 [2,3,4,5,6,7,0,1]⟩
  · intro F' _ w' h
    exact (Zkd (h.pk7 [6,0,1,2,3,4,5]) hb').mono fun e w' h=>⟨h.1,h.2⟩
  · obtain ⟨h1,h2,h3⟩:=hT
    rw [h1,h2,h3]
    exact h
theorem Zi2 {F X:Asr} {q:TQ} (h:Hold w0 w (thA t c (thR p n id T q (ptrV q.g))*(F*(Z0a (.slice q.A p.length q.cp) p*(obsA q.sv T.seen*(obsA q.ov T.obs*(X*(memA m C*R)))))))) (hb':Z3d T'.ph=true) (hT:Same p n id T T')
    (hs:∀ R w,Hold w0 w (X*(memA m C*R))→Calls Tryz.prog 57 #[ptrV q.g,ptrV m] w (APostX (ι:=Unit) w0 (fun _=>atS q.g c id T'*(memA m C'*R)) a 3)) :
    AdGoal w0 t m c p n id R F C' T' 3 T.count a w:=by
  refine AdGoal.of (Z3c hb') ?_
  refine (Z98 (Q:=fun _:Unit=>F*(Z0a (.slice q.A p.length q.cp) p*(obsA q.sv T.seen*(obsA q.ov T.obs*(atS q.g c id T'*(memA m C'*R)))))) h rfl ?_ ?_).mono fun e w' he=>he.mono fun E _ w' h=>⟨q,?_⟩
  · intro F' w' h
    exact (hs _ w' (h.pk8 [6,7,0,1,2,3,4,5])).mono fun e w' he=>he.mono fun _ w' h=>⟨(),h.pk8 [2,3,4,5,6,7,0,1]⟩
  · intro F' _ w' h
    exact (Zkd (h.pk7 [6,0,1,2,3,4,5]) hb').mono fun e w' h=>⟨h.1,h.2⟩
  · obtain ⟨h1,h2,h3⟩:=hT
    rw [h1,h2,h3]
    exact h
theorem Z1a (h:Hold w0 w (thS t c p n id T*(memA m C*R))) (h0:0≤T.pc) (hi:p[T.pc.toNat]?=some i) (hb:Z3d T.ph=true) (hb':Z3d T'.ph=true) (hT:Same p n id T T') (hp3:ph ≠ 3) (hp16:ph ≠ 16)
    (hs:∀ g R w,Hold w0 w (atS g c id T*(memA m C*R))→Calls Tryz.prog 57 #[ptrV g,ptrV m] w (APostX (ι:=Unit) w0 (fun _=>atS g c id T'*(memA m C'*R)) a ph)) :
    Z49 w0 t m c p n id R C' T' ph T.count a w :=
  Z30 h h0 hi hb fun F q w' h=>Z3y h hb' hT hp3 hp16 (hs q.g)
theorem Zkq (h:Hold w0 w (thS t c p n id T*(memA m C*R))) (h0:0≤T.pc) (hi:p[T.pc.toNat]?=some i) (hb:Z3d T.ph=true) (hb':Z3d T'.ph=true) (hT:Same p n id T T')
    (hs:∀ g R w,Hold w0 w (atS g c id T*(memA m C*R))→Calls Tryz.prog 57 #[ptrV g,ptrV m] w (APostX (ι:=Unit) w0 (fun _=>atS g c id T'*(memA m C'*R)) a 3)) :
    Z49 w0 t m c p n id R C' T' 3 T.count a w :=
  Z30 h h0 hi hb fun F q w' h=>Zi2 h hb' hT (hs q.g)
end
section
variable {w0 w:World} {R:Asr} {t g m:Nat} {c:Cfg} {p:List InsR} {n id:Int} {T T':TS} {C C':Cells} {a:Acc} {ph att v:Int} {i:InsR}
theorem Z6s (h:Hold w0 w (atI g c id T v*R)):∃ (y:AtR) (B:Asr),y.state=1∧y.at_=0∧y.value=v∧Hold w0 w (atA g c y*(B*R))∧∀ w' R',Hold w0 w' (atA g c y*(B*R'))→Hold w0 w' (atI g c id T v*R'):=by
  unfold atI at h
  obtain ⟨q,⟨⟨ac,hat,hor⟩,hv⟩,h⟩:=h.Zm8
  replace h:Hold w0 w (atA g c q.x*(enA q.ge id 3 T.rv*(stA q.x.set (Z08 c.reads) T.S*(lgA q.x.log T.L*(queA 3 (.slice q.Bs T.sn.length q.Bc) (iL T.sn)*R))))):=h
  refine ⟨q.x,enA q.ge id 3 T.rv*(stA q.x.set (Z08 c.reads) T.S*(lgA q.x.log T.L*queA 3 (.slice q.Bs T.sn.length q.Bc) (iL T.sn))),ac.2.2.1,hat,hv,?_,?_⟩
  · exact (((h.pk5 [3,4,0,1,2]).join.pk4 [3,0,1,2]).join.pk3 [2,0,1]).join.pk2 [1,0]
  · intro w' R' h
    unfold atI
    refine Hold.Zm9 q ⟨⟨ac,hat,hor⟩,hv⟩ ?_
    have h1:=(h.pk2 [1,0]).imp (Imp.assoc _ _ _)
    have h2:=(h1.pk2 [1,0]).imp (Imp.assoc _ _ _)
    have h3:=(h2.pk2 [1,0]).imp (Imp.assoc _ _ _)
    exact h3.pk5 [4,3,2,0,1]
theorem Zlo (h:Hold w0 w (atI g c id T v*R)):Calls Tryz.prog 36 #[ptrV g] w fun e w'=>e = .returned (.bool false)∧w=w':=by
  obtain ⟨y,B,_,hat,_,h,_⟩:=Z6s h
  refine (Z5n h).mono fun e w' he=>?_
  rw [hat] at he
  exact he
theorem Zez (h:Hold w0 w (atS g c id T*R)) (hq:T.ph = .idle):Calls Tryz.prog 36 #[ptrV g] w fun e w'=>e = .returned (.bool false)∧w=w':=by
  obtain ⟨v,h⟩:=Zfh hq h
  exact Zlo h
theorem Zcy {X:Nat→Asr} (h:Hold w0 w (thS t c p n id T*(memA m C*R))) (h0:0≤T.pc) (hi:p[T.pc.toNat]?=some i) (hq:T.ph = .idle) (h1:i.op=10∨i.op=11∨i.op=8)
    (hr:∀ q R w',Hold w0 w' (thA t c (thR p n id T q (ptrV q.g))*(atS q.g c id T*R))→Calls Tryz.prog 67 #[ptrV t,i.val] w' (Z73 w0 (fun _:Unit=>thA t c (thR p n id T q (ptrV q.g))*(X q.g*R))))
    (hs:∀ F q w',Hold w0 w' (thA t c (thR p n id T q (ptrV q.g))*(F*(Z0a (.slice q.A p.length q.cp) p*(obsA q.sv T.seen*(obsA q.ov T.obs*(X q.g*(memA m C*R)))))))→AdGoal w0 t m c p n id R F C' T' ph att a w') :
    Z49 w0 t m c p n id R C' T' ph att a w:=by
  have hn:T.ph ≠ .none:=by rw [hq];intro h;cases h
  obtain ⟨q,h⟩:=Z7s h hn
  refine (Z4k (X:=fun q':TQ=>thR p n id T' q' (attV q'.g T'.ph)) (Q:=fun q'=>Z0a (.slice q'.A p.length q'.cp) p*(obsA q'.sv T'.seen*(obsA q'.ov T'.obs*(attA q'.g c id T' T'.ph*(memA m C'*R))))) h rfl (Z4p h0) hi (Z3w h0 hi) rfl ⟨rfl,rfl⟩ ?_ ?_ (fun _=>rfl)).mono fun e w' he=>he.mono fun E q' w' h=>⟨(),Zaj h⟩
  · exact fun F w' h=>(Zez (h.pk6 [5,0,1,2,3,4]) hq).mono fun e w' h=>⟨h.1,h.2⟩
  · intro F w' h
    refine Zae (Q:=fun _:Unit=>F*(thA t c (thR p n id T q (ptrV q.g))*(Z0a (.slice q.A p.length q.cp) p*(obsA q.sv T.seen*(obsA q.ov T.obs*(X q.g*(memA m C*R))))))) h h1 ?_ ?_
    · intro F' w' h
      refine (hr q _ w' (h.pk7 [2,6,0,1,3,4,5])).mono fun e w' he=>?_
      obtain ⟨_,h1,h2⟩:=he
      exact ⟨(),h1,h2.pk7 [2,3,0,4,5,6,1]⟩
    · intro F' _ w' h
      refine (hs (F'*F) q w' (h.join.pk2 [1,0])).mono fun e w' he=>he.mono fun E q' w' h=>⟨q',?_⟩
      exact ((h.pk3 [2,0,1]).imp (Imp.assoc _ _ _)).pk4 [2,0,1,3]
theorem Zfs {F X:Asr} {q:TQ} (h:Hold w0 w (thA t c (thR p n id T q (ptrV q.g))*(F*(Z0a (.slice q.A p.length q.cp) p*(obsA q.sv T.seen*(obsA q.ov T.obs*(X*(memA m C*R)))))))) (h0:0≤T.pc∧T.pc≤1000000) (hi:p[T.pc.toNat]?=some i) (h1:i.op ≠ 10) (h2:i.op ≠ 14) (hq:T'.ph = .idle) (hp3:ph ≠ 3) (hp16:ph ≠ 16)
    (hT:(∀ q a,thR p n id T' q a={ thR p n id T q a with pc:=T.pc + 1,done:=T.pc + 1 == (p.length:Int) })∧T'.seen=T.seen∧T'.obs=T.obs)
    (hs:∀ R w,Hold w0 w (X*(memA m C*R))→Calls Tryz.prog 57 #[ptrV q.g,ptrV m] w (APostX (ι:=Unit) w0 (fun _=>atS q.g c id T'*(memA m C'*R)) a ph)) :
    AdGoal w0 t m c p n id R F C' T' ph T.count a w:=by
  refine AdGoal.of (by rw [hq];intro h;cases h) ?_
  refine (Z56 (Q:=fun _:Unit=>Z0a (.slice q.A p.length q.cp) p*(F*(obsA q.sv T.seen*(obsA q.ov T.obs*(atS q.g c id T'*(memA m C'*R))))))
    (Q2:=fun _:Unit=>thA t c (thR p n id T' q (ptrV q.g))*(F*(Z0a (.slice q.A p.length q.cp) p*(obsA q.sv T'.seen*(obsA q.ov T'.obs*(atS q.g c id T'*(memA m C'*R))))))) rfl h rfl hp3 hp16 rfl (Z4p h0.1) hi ?_ ?_ ?_).mono fun e w' he=>he.mono fun E _ w' h=>⟨q,h⟩
  · intro F' w' h
    exact (hs _ w' (h.pk8 [6,7,0,1,2,3,4,5])).mono fun e w' he=>he.mono fun _ w' h=>⟨(),h.pk8 [2,3,5,4,6,7,0,1]⟩
  · intro F' _ w' h
    exact (Zez (h.pk7 [6,0,1,2,3,4,5]) hq).mono fun e w' h=>⟨h.1,h.2⟩
  · intro F' _ w' h
    have h3:=h.pk7 [6,0,1,2,3,4,5]
    obtain ⟨v,h3⟩:=Zfh hq h3
    obtain ⟨y,B,hst,_,_,h3,hback⟩:=Z6s h3
    refine (Zai (h3.pk4 [3,0,1,2]) rfl hst rfl rfl h0 h1 h2).mono fun e w' he=>⟨(),he.1,?_⟩
    have h4:=(hback w' _ (he.2.pk3 [1,2,0])).imp (Imp.on _ (Zfi hq))
    obtain ⟨e1,e2,e3⟩:=hT
    rw [e1,e2,e3]
    exact h4.pk7 [2,1,4,3,5,6,0]
theorem Zfr {F X:Asr} {q:TQ} {r:Nat} (h:Hold w0 w (thA t c (thR p n id T q (ptrV q.g))*(F*(Z0a (.slice q.A p.length q.cp) p*(obsA q.sv T.seen*(obsA q.ov T.obs*(X*(memA m C*R)))))))) (h0:0≤T.pc∧T.pc≤1000000) (hi:p[T.pc.toNat]?=some i) (h1:i.op=10) (hr:i.a=(r:Int)) (hr8:r < 8) (hn:T.seen.length≤1000) (hq:T'.ph = .idle) (hp3:ph ≠ 3) (hp16:ph ≠ 16)
    (hT:(∀ q a,thR p n id T' q a={ thR p n id T q a with regs:=upR T.regs r v,pc:=T.pc + 1,done:=T.pc + 1 == (p.length:Int) })∧T'.seen=T.seen++[⟨T.pc,1,v⟩]∧T'.obs=T.obs)
    (hs:∀ R w,Hold w0 w (X*(memA m C*R))→Calls Tryz.prog 57 #[ptrV q.g,ptrV m] w (APostX (ι:=Unit) w0 (fun _=>atI q.g c id T' v*(memA m C'*R)) a ph)) :
    AdGoal w0 t m c p n id R F C' T' ph T.count a w:=by
  refine AdGoal.of (by rw [hq];intro h;cases h) ?_
  refine (Z56 (Q:=fun _:Unit=>Z0a (.slice q.A p.length q.cp) p*(F*(obsA q.sv T.seen*(obsA q.ov T.obs*(atI q.g c id T' v*(memA m C'*R))))))
    (Q2:=fun sv':Value=>thA t c (thR p n id T' { q with sv:=sv' } (ptrV q.g))*(F*(Z0a (.slice q.A p.length q.cp) p*(obsA sv' T'.seen*(obsA q.ov T'.obs*(atS q.g c id T'*(memA m C'*R))))))) rfl h rfl hp3 hp16 rfl (Z4p h0.1) hi ?_ ?_ ?_).mono fun e w' he=>he.mono fun E sv' w' h=>⟨{ q with sv:=sv' },h⟩
  · intro F' w' h
    exact (hs _ w' (h.pk8 [6,7,0,1,2,3,4,5])).mono fun e w' he=>he.mono fun _ w' h=>⟨(),h.pk8 [2,3,5,4,6,7,0,1]⟩
  · intro F' _ w' h
    exact (Zlo (h.pk7 [6,0,1,2,3,4,5])).mono fun e w' h=>⟨h.1,h.2⟩
  · intro F' _ w' h
    have h3:=h.pk7 [6,0,1,2,3,4,5]
    obtain ⟨y,B,hst,_,hv,h3,hback⟩:=Z6s h3
    refine (Zah (h3.pk7 [3,0,6,1,2,4,5]) rfl hst rfl rfl h0 h1 hr hr8 hn).mono fun e w' he=>?_
    obtain ⟨A',c',e1,h4⟩:=he
    refine ⟨.slice A' (T.seen.length + 1) c',e1,?_⟩
    rw [hv] at h4
    have h5:=(hback w' _ (h4.pk4 [1,3,0,2])).imp (Imp.on _ (Zfi hq))
    obtain ⟨e1,e2,e3⟩:=hT
    rw [e1,e2,e3]
    have e4:obsA (.slice A' (T.seen.length + 1) c') (T.seen++[⟨T.pc,1,v⟩])=rowS 55 3 (.slice A' (T.seen.length + 1) c') (T.seen.length + 1) (obL T.seen++[.int .i64 T.pc,.int .i64 1,.int .u64 v]):=by
      unfold obsA
      rw [Zjt,List.length_append]
      rfl
    rw [e4]
    exact h5.pk7 [3,1,5,4,2,6,0]
end
end Go.Proofs.YtmlfangeanmmeaaGreatDoor
