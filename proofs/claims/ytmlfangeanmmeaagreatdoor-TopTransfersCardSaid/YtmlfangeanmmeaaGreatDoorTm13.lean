/-
  What the proof of TopTransfers leans on, part 13 of 48: Cells. No statement of its own.
-/
import Derived.Test.YtmlfangeanmmeaaGreatDoorTm1
import Derived.Test.YtmlfangeanmmeaaGreatDoorTm7
import Derived.Test.YtmlfangeanmmeaaGreatDoorTm11
import Derived.Test.YtmlfangeanmmeaaGreatDoorTm12
namespace Go.Proofs.YtmlfangeanmmeaaGreatDoor
set_option maxRecDepth 8000
open Go.RowKit
set_option linter.unusedVariables false
def Z0l (n:Nat):List Int:=List.replicate n 0
def osL (f:Nat→Bool) (u37 u40 u41 u42 u43 u45 v7 v8:Value):List (Option Value) :=
  [bif f 6 then some u37 else none,bif f 10 then some u40 else none,bif f 12 then some u41 else none,bif f 14 then some u42 else none,bif f 16 then some u43 else none,bif f 19 then some u45 else none,bif f 21 then some v7 else none,bif f 23 then some v8 else none]
abbrev numA (v:Value) (n:Nat) (xs:List Int):Asr:=rowA 34 v n (xs.map (Value.int .u64))
def nwL (f:Nat→Bool) (m:Nat) (u34 u37 u40 u41 u42 u43 u45 v7 v8:Value) (n nb o th:Nat) (init hs ns:List Int):List Asr :=
  [bif f 0 then mapA m (osL f u37 u40 u41 u42 u43 u45 v7 v8) else Asr.emp,
   bif f 5 then numA u37 (n + nb) (init++Z0l nb) else bif f 2 then numA u34 n init else Asr.emp,
   bif f 9 then numA u40 o (Z0l o) else Asr.emp,
   bif f 11 then numA u41 1 (Z0l 1) else Asr.emp,bif f 13 then numA u42 1 (Z0l 1) else Asr.emp,bif f 15 then numA u43 1 (Z0l 1) else Asr.emp,
   bif f 18 then numA u45 th (Z0l th) else Asr.emp,numA v7 4 hs,numA v8 nb ns]
structure NI (w0:World) (R:Asr) (v7 v8:Value) (n nb o th:Nat) (init hs ns:List Int) (f:Nat→Bool) (w:World) (m:Nat) (u32 u34 u37 u40 u41 u42 u43 u45:Value):Prop where
  k0:f 0=true→u32 = .map (some m)
  k2:f 2=true→∃ A c,u34 = .slice A n c
  k5:f 5=true→∃ A c,u37 = .slice A (n + nb) c
  k9:f 9=true→∃ A c,u40 = .slice A o c
  k11:f 11=true→∃ A c,u41 = .slice A 1 c
  k13:f 13=true→∃ A c,u42 = .slice A 1 c
  k15:f 15=true→∃ A c,u43 = .slice A 1 c
  k18:f 18=true→∃ A c,u45 = .slice A th c
  v5:f 5=true→f 2=true
  w6:f 6=true→f 0=true∧f 5=true
  w10:f 10=true→f 0=true∧f 9=true
  w12:f 12=true→f 0=true∧f 11=true
  w14:f 14=true→f 0=true∧f 13=true
  w16:f 16=true→f 0=true∧f 15=true
  w19:f 19=true→f 0=true∧f 18=true
  w21:f 21=true→f 0=true
  w23:f 23=true→f 0=true
  h:Hold w0 w (sepR (nwL f m u34 u37 u40 u41 u42 u43 u45 v7 v8 n nb o th init hs ns) R)
theorem Z4d {a b:Bool} (hb:b=false) (h:a=true→b=true):a=false:=by
  cases a
  · rfl
  · rw [h rfl] at hb;cases hb
structure Lay where
  m:Nat
  A:Nat→Option Addr
  c:Nat→Nat
abbrev slV (C:Nat→List Int) (x:Lay) (k:Nat):Value:=.slice (x.A k) (C k).length (x.c k)
abbrev Z0x (C:Nat→List Int) (x:Lay) (k:Nat):Asr:=numA (slV C x k) (C k).length (C k)
def memX (g:Nat) (C:Nat→List Int) (x:Lay):Asr :=
  blkA 104 g #[.map (some x.m)]*sepR [mapA x.m [some (slV C x 1),some (slV C x 2),some (slV C x 3),some (slV C x 4),some (slV C x 5),some (slV C x 6),some (slV C x 7),some (slV C x 8)],
    Z0x C x 1,Z0x C x 2,Z0x C x 3,Z0x C x 4,Z0x C x 5,Z0x C x 6,Z0x C x 7,Z0x C x 8] Asr.emp
def memA (g:Nat) (C:Nat→List Int):Asr:=Asr.ex (memX g C)
def newC (c:Cfg) (th:Nat) (init:List Int):Nat→List Int
  | 1=>init++Z0l (nbl c)
  | 2=>Z0l c.orecs.toNat
  | 3=>Z0l 1
  | 4=>Z0l 1
  | 5=>Z0l 1
  | 6=>Z0l th
  | 7=>Z7b c
  | 8=>Z7a c
  | _=>[]
theorem Hold.memClose {w0 w:World} {R:Asr} {g m n1 n2 n3 n4 n5 n6 n7 n8 c1 c2 c3 c4 c5 c6 c7 c8:Nat} {A1 A2 A3 A4 A5 A6 A7 A8:Option Addr} {C:Nat→List Int} {x1 x2 x3 x4 x5 x6 x7 x8:List Int}
    (h:Hold w0 w (blkA 104 g #[.map (some m)]*sepR [mapA m [some (.slice A1 n1 c1),some (.slice A2 n2 c2),some (.slice A3 n3 c3),some (.slice A4 n4 c4),some (.slice A5 n5 c5),some (.slice A6 n6 c6),some (.slice A7 n7 c7),some (.slice A8 n8 c8)],
      numA (.slice A1 n1 c1) n1 x1,numA (.slice A2 n2 c2) n2 x2,numA (.slice A3 n3 c3) n3 x3,numA (.slice A4 n4 c4) n4 x4,numA (.slice A5 n5 c5) n5 x5,numA (.slice A6 n6 c6) n6 x6,numA (.slice A7 n7 c7) n7 x7,numA (.slice A8 n8 c8) n8 x8] R))
    (e1:C 1=x1) (e2:C 2=x2) (e3:C 3=x3) (e4:C 4=x4) (e5:C 5=x5) (e6:C 6=x6) (e7:C 7=x7) (e8:C 8=x8)
    (l1:x1.length=n1) (l2:x2.length=n2) (l3:x3.length=n3) (l4:x4.length=n4) (l5:x5.length=n5) (l6:x6.length=n6) (l7:x7.length=n7) (l8:x8.length=n8):Hold w0 w (memA g C*R):=by
  subst e1;subst e2;subst e3;subst e4;subst e5;subst e6;subst e7;subst e8
  subst l1;subst l2;subst l3;subst l4;subst l5;subst l6;subst l7;subst l8
  refine Hold.exClose (x:=⟨m,fun k=>match k with | 1=>A1 | 2=>A2 | 3=>A3 | 4=>A4 | 5=>A5 | 6=>A6 | 7=>A7 | _=>A8,fun k=>match k with | 1=>c1 | 2=>c2 | 3=>c3 | 4=>c4 | 5=>c5 | 6=>c6 | 7=>c7 | _=>c8⟩) ?_
  exact (h.imp (Imp.under _ (Imp.fold R _))).join
def Zcq (w0:World) (R:Asr) (c:Cfg) (th:Nat) (init:List Int) (e:Ending) (w':World):Prop:=∃ g,e = .returned (.tuple #[.pointer (some ⟨g,0,none⟩),.int .i64 0])∧Hold w0 w' (memA g (newC c th init)*R)
set_option maxRecDepth 8000 in
set_option maxHeartbeats 8000000 in
theorem Zfa (w0 w:World) (R:Asr) (c:Cfg) (th:Nat) (A:Option Addr) (k bA:Nat) (init:List Int) (hc:Z0p c=0) (h1:1≤th) (h2:th≤16) (hl:(init.length:Int)=c.words) (hR:Hold w0 w R)
    (hA:∀ w',Hold w0 w' R→Reads w' bA A init.length (init.map (Value.int .u64))) :
    Calls Tryz.prog 17 #[c.val,.int .i64 th,.slice A init.length k] w (Zcq w0 R c th init):=by
  obtain ⟨iU,hiU,hzU0,hzU1,hzU2⟩:=info_parts Z8d
  obtain ⟨o,ho⟩:∃ o:Nat,c.orecs=o:=⟨c.orecs.toNat,by have:=(Z1l hc).o;omega⟩
  obtain ⟨n,hn⟩:∃ n,n=init.length:=⟨_,rfl⟩
  have n64:n≤64:=by have:=(Z1l hc).w;omega
  have o64:o≤64:=by have:=(Z1l hc).o;omega
  have nb64:=Zcf (Z1l hc)
  rw [← hn] at hl hA ⊢
  have HC:=hid hc
  have Hl:=hid hl
  have Hn:=hid hn
  have HA:=hid hA
  have Ho:=hid ho
  clear hc hl hn hA ho
  go_enter Tryz.func17,Tryz.ntmps17
  go_wp2_with fail
  refine (check_any _ c).mono ?_
  rintro e w1 ⟨rfl,hc1⟩
  rw [HC.out]
  have r1:=(hR.newBlk (t:=32) (cs:=c.cells)).chg0 hc1
  clear hR hc1
  obtain ⟨q0,q1,q2,q3,q4,q5,q6,q7,q8,q9,q10,q11,q12⟩:=Z14 r1.blk
  have e0:((n:Int) != c.words)=false:=by rw [Hl.out];simp
  go_wp2_with fail
  refine (lists_any w0 w1 _ c HC.out r1).mono ?_
  rintro e w2 ⟨H,X,ch,cx,rfl,r2⟩
  generalize w.heap.size=gc at r2 q0 q1 q2 q3 q4 q5 q6 q7 q8 q9 q10 q11 q12 ⊢
  have d1:w2.cell? ⟨gc,1,none⟩=some (.int .i64 o):=by rw [← Ho.out];exact r2.third.blk.some_ rfl
  clear q0 q1 q2 q3 q4 q5 q6 q7 q8 q9 q10 q11 q12 r1 e0
  go_wp2_with fail
  refine Z01 [] (by kernel_rfl) ?_
  refine Z05 (fun w'=>w'.cell? ⟨gc,1,none⟩=some (.int .i64 o)) (fun _ _=>trivial) _ _ _ _ ?_
  refine' wbk [false,true,false,true,true,false,false,true,true,false,false,false,false,false,false,false,false,true,false,false,true,false,true] 51 d1 (fun wq hq=>?_) ?_;rotate_left
  · simp only [Z00]
    repeat (go_big_quiet_step (fail))
    exact wpQuiet_nil rfl
  have r3:Hold w0 w2.drew (sepR [numA (.slice H 4 ch) 4 (Z7b c),numA (.slice X (nbl c) cx) (nbl c) (Z7a c)] (blkA 32 gc c.cells*R)):=r2.drew
  clear r2 d1
  refine Zct [0,2,5,6,9,10,11,12,13,14,15,16,18,19,21,23] (listed':=#[true,true,true,true,true,true,true,true,true,true,true,true,true,true,true,true,true,true,true,true,true,true,true,true,false,false,false,false,false]) (fun f a w=>∃ (m:Nat) (u32 u34 u37 u40 u41 u42 u43 u45:Value),a={ tmps:=#[c.val,.int .i64 th,.slice A n k,.pointer (some ⟨gc,0,none⟩),undef,undef,.pointer none,.int .i64 0,.int .i64 0,.slice H 4 ch,.slice X (nbl c) cx,.agg #[.int .i64 c.words,.int .i64 c.orecs,.int .i64 c.base,.int .i64 c.c0,.int .i64 c.c1,.int .i64 c.c2,.int .i64 c.c3,.int .i64 c.reads,.int .i64 c.writes,.int .i64 c.allocs,.int .i64 c.frees,.int .i64 c.clock,.bool c.strong],.int .i64 0,.int .i64 0,.bool false,undef,.int .i64 th,.bool (decide ((th:Int) < 1)),.bool (decide ((th:Int) < 1)),.int .i64 th,.bool (decide (16 < (th:Int))),.bool (decide ((th:Int) < 1) || decide (16 < (th:Int))),.slice A n k,.int .i64 n,.pointer (some ⟨gc,0,none⟩),.int .i64 c.words,.bool false,.tuple #[.slice H 4 ch,.slice X (nbl c) cx],.agg #[.int .i64 c.words,.int .i64 c.orecs,.int .i64 c.base,.int .i64 c.c0,.int .i64 c.c1,.int .i64 c.c2,.int .i64 c.c3,.int .i64 c.reads,.int .i64 c.writes,.int .i64 c.allocs,.int .i64 c.frees,.int .i64 c.clock,.bool c.strong],.tuple #[.slice H 4 ch,.slice X (nbl c) cx],.slice H 4 ch,.slice X (nbl c) cx,u32,.slice A n k,u34,.slice X (nbl c) cx,.int .i64 (nbl c:Nat),u37,.pointer (some ⟨gc,1,none⟩),.int .i64 o,u40,u41,u42,u43,.int .i64 th,u45,.slice H 4 ch,.slice X (nbl c) cx,undef,undef,undef],defers:=[] }∧NI w0 (blkA 32 gc c.cells*R) (.slice H 4 ch) (.slice X (nbl c) cx) n (nbl c) o th init (Z7b c) (Z7a c) f w m u32 u34 u37 u40 u41 u42 u43 u45) (by kernel_rfl) (by kernel_rfl) (by kernel_rfl) (by kernel_rfl) (by decide) (by decide) rfl (by decide) ?hI ?hS ?hStep ?hEnd
  case hI =>
    refine ⟨0,undef,undef,undef,undef,undef,undef,undef,undef,rfl,?_⟩
    refine ⟨(fun h=>by cases h),(fun h=>by cases h),(fun h=>by cases h),(fun h=>by cases h),(fun h=>by cases h),(fun h=>by cases h),(fun h=>by cases h),(fun h=>by cases h),(fun h=>by cases h),(fun h=>by cases h),(fun h=>by cases h),(fun h=>by cases h),(fun h=>by cases h),(fun h=>by cases h),(fun h=>by cases h),(fun h=>by cases h),(fun h=>by cases h),?_⟩
    exact r3.imp (((((((Imp.Zmd _).trans (Imp.under _ (Imp.Zmd _))).trans (Imp.under _ (Imp.under _ (Imp.Zmd _)))).trans (Imp.under _ (Imp.under _ (Imp.under _ (Imp.Zmd _))))).trans (Imp.under _ (Imp.under _ (Imp.under _ (Imp.under _ (Imp.Zmd _)))))).trans (Imp.under _ (Imp.under _ (Imp.under _ (Imp.under _ (Imp.under _ (Imp.Zmd _))))))).trans (Imp.under _ (Imp.under _ (Imp.under _ (Imp.under _ (Imp.under _ (Imp.under _ (Imp.Zmd _))))))))
  case hS =>
    rintro f a w ⟨m,u32,u34,u37,u40,u41,u42,u43,u45,rfl,K⟩
    rw [← Ho.out]
    exact K.h.rest.blk.some_ rfl
  case hStep =>
    rintro f a w ⟨m,u32,u34,u37,u40,u41,u42,u43,u45,rfl,K⟩ i hi hf hw
    simp only [List.mem_cons,List.not_mem_nil,or_false] at hi
    rcases hi with rfl | rfl | rfl | rfl | rfl | rfl | rfl | rfl | rfl | rfl | rfl | rfl | rfl | rfl | rfl | rfl
    · have n6:f 6=false:=Z4d hf (fun h=>(K.w6 h).1)
      have n10:f 10=false:=Z4d hf (fun h=>(K.w10 h).1)
      have n12:f 12=false:=Z4d hf (fun h=>(K.w12 h).1)
      have n14:f 14=false:=Z4d hf (fun h=>(K.w14 h).1)
      have n16:f 16=false:=Z4d hf (fun h=>(K.w16 h).1)
      have n19:f 19=false:=Z4d hf (fun h=>(K.w19 h).1)
      have n21:f 21=false:=Z4d hf (fun h=>K.w21 h)
      have n23:f 23=false:=Z4d hf (fun h=>K.w23 h)
      refine Z0e rfl (fun QB hQB hQX=>?_)
      have hmm:=@run_makeMap Tryz.prog
      have hS:=(K.h.newMap 8).putAt 0 (by simp [nwL,hf])
      go_wp2_with fail
      refine hQB.out _ _ ⟨w.heap.size,.map (some w.heap.size),u34,u37,u40,u41,u42,u43,u45,rfl,?_⟩
      exact ⟨fun _=>rfl,fun h=>K.k2 h,fun h=>K.k5 h,fun h=>K.k9 h,fun h=>K.k11 h,fun h=>K.k13 h,fun h=>K.k15 h,fun h=>K.k18 h,fun h=>K.v5 h,fun h=>absurd (show f 6=true from h) (by rw [n6];simp),fun h=>absurd (show f 10=true from h) (by rw [n10];simp),fun h=>absurd (show f 12=true from h) (by rw [n12];simp),fun h=>absurd (show f 14=true from h) (by rw [n14];simp),fun h=>absurd (show f 16=true from h) (by rw [n16];simp),fun h=>absurd (show f 19=true from h) (by rw [n19];simp),fun h=>absurd (show f 21=true from h) (by rw [n21];simp),fun h=>absurd (show f 23=true from h) (by rw [n23];simp),by simpa [nwL,osL,upd,hf,n6,n10,n12,n14,n16,n19,n21,n23] using hS⟩
    · have n5:f 5=false:=Z4d hf K.v5
      refine Z0e rfl (fun QB hQB hQX=>?_)
      have hr:=HA.out w K.h.rest.drop
      go_wp2_with fail
      refine (Z0m _ _ _ _ _ _ hr (by omega)).mono ?_
      rintro e w' ⟨A',c',rfl,ho,hc⟩
      have hS:=(K.h.newRow hc ho (Nat.le_refl _)).putAt 1 (by simp [nwL,hf,n5])
      clear hr ho hc
      go_wp2_with fail
      refine hQB.out _ _ ⟨m,u32,.slice A' n c',u37,u40,u41,u42,u43,u45,rfl,?_⟩
      exact ⟨fun h=>K.k0 h,fun _=>⟨A',c',rfl⟩,fun h=>K.k5 h,fun h=>K.k9 h,fun h=>K.k11 h,fun h=>K.k13 h,fun h=>K.k15 h,fun h=>K.k18 h,fun _=>rfl,fun h=>K.w6 h,fun h=>K.w10 h,fun h=>K.w12 h,fun h=>K.w14 h,fun h=>K.w16 h,fun h=>K.w19 h,fun h=>K.w21 h,fun h=>K.w23 h,by simpa [nwL,osL,upd,hf,n5] using hS⟩
    · have t2:f 2=true:=hw 2 (by kernel_rfl)
      obtain ⟨A2,c2,rfl⟩:=K.k2 t2
      have n6:f 6=false:=Z4d hf (fun h=>(K.w6 h).2)
      have hT:=K.h.nth 1 (p:=numA (.slice A2 n c2) n init) (by simp [nwL,hf,t2])
      refine Z0e rfl (fun QB hQB hQX=>?_)
      refine Z8w w rfl _ _ 33 3 rfl 34 iU .u64 8 Tryz.underlying33 Tryz.underlying3 hiU hzU0 hzU1 hzU2 (.slice A2 n c2) n (init.map (Value.int .u64)) rfl hT.row (nbl c) rfl (by omega) (by decide) ?_
      intro A' c' w' ho hc hs
      have hG:=hT.grow ho hc hs
      rw [show init.map (Value.int .u64)++List.replicate (nbl c) (.int .u64 0)=(init++Z0l (nbl c)).map (Value.int .u64) by simp [Z0l]] at hG
      have hG2:Hold w0 w' (numA (.slice A' (n + nbl c) c') (n + nbl c) (init++Z0l (nbl c))*_):=hG
      have hS:=hG2.putAt 1 (by simp [nwL])
      clear hT ho hc hs hG hG2
      go_wp2_with fail
      refine hQB.out _ _ ⟨m,u32,.slice A2 n c2,.slice A' (n + nbl c) c',u40,u41,u42,u43,u45,rfl,?_⟩
      exact ⟨fun h=>K.k0 h,fun h=>K.k2 h,fun _=>⟨A',c',rfl⟩,fun h=>K.k9 h,fun h=>K.k11 h,fun h=>K.k13 h,fun h=>K.k15 h,fun h=>K.k18 h,fun _=>t2,fun h=>⟨(K.w6 h).1,rfl⟩,fun h=>K.w10 h,fun h=>K.w12 h,fun h=>K.w14 h,fun h=>K.w16 h,fun h=>K.w19 h,fun h=>K.w21 h,fun h=>K.w23 h,by simpa [nwL,osL,upd,hf,n6] using hS⟩
    · have t0:f 0=true:=hw 0 (by kernel_rfl)
      have t5:f 5=true:=hw 5 (by kernel_rfl)
      obtain rfl:=K.k0 t0
      have hT:=K.h.nth 0 (p:=mapA m (osL f u37 u40 u41 u42 u43 u45 (.slice H 4 ch) (.slice X (nbl c) cx))) (by simp [nwL,t0])
      refine Z0e rfl (fun QB hQB hQX=>?_)
      refine Z0w rfl _ _ _ rfl Tryz.underlying102 Tryz.underlying3 0 u37 rfl rfl rfl hT (by simp [osL]) (by simp [osL,hf]) ?_
      intro w' h'
      have hS:=h'.putAt 0 (by simp [nwL])
      clear hT h'
      go_wp2_with fail
      refine hQB.out _ _ ⟨m,.map (some m),u34,u37,u40,u41,u42,u43,u45,rfl,?_⟩
      exact ⟨fun _=>rfl,fun h=>K.k2 h,fun h=>K.k5 h,fun h=>K.k9 h,fun h=>K.k11 h,fun h=>K.k13 h,fun h=>K.k15 h,fun h=>K.k18 h,fun h=>K.v5 h,fun _=>⟨t0,t5⟩,fun h=>K.w10 h,fun h=>K.w12 h,fun h=>K.w14 h,fun h=>K.w16 h,fun h=>K.w19 h,fun h=>K.w21 h,fun h=>K.w23 h,by simpa [nwL,osL,upd,hf,t0] using hS⟩
    · have n10:f 10=false:=Z4d hf (fun h=>(K.w10 h).2)
      refine Z0e rfl (fun QB hQB hQX=>?_)
      refine wpList_make_full w rfl _ _ 33 rfl _ 34 iU (.int .u64 0) 1 Tryz.underlying33 hiU hzU0 hzU1 .i64 .i64 (o:Int) (o:Int) o rfl rfl rfl rfl (by rw [hzU2];omega) (by unfold maxLen;omega) (Nat.le_refl _) ?_
      intro w' hown hgrow
      simp only [Nat.mul_one] at hown
      have hG:Hold w0 w' (numA (.slice (some ⟨w.heap.size,0,none⟩) o o) o (Z0l o)*_):=K.h.make (k:=.u64) hown hgrow (Nat.le_refl _)
      have hS:=hG.putAt 2 (by simp [nwL,hf])
      clear hown hgrow hG
      go_wp2_with fail
      refine hQB.out _ _ ⟨m,u32,u34,u37,.slice (some ⟨w.heap.size,0,none⟩) o o,u41,u42,u43,u45,rfl,?_⟩
      exact ⟨fun h=>K.k0 h,fun h=>K.k2 h,fun h=>K.k5 h,fun _=>⟨_,_,rfl⟩,fun h=>K.k11 h,fun h=>K.k13 h,fun h=>K.k15 h,fun h=>K.k18 h,fun h=>K.v5 h,fun h=>K.w6 h,fun h=>⟨(K.w10 h).1,rfl⟩,fun h=>K.w12 h,fun h=>K.w14 h,fun h=>K.w16 h,fun h=>K.w19 h,fun h=>K.w21 h,fun h=>K.w23 h,by simpa [nwL,osL,upd,hf,n10] using hS⟩
    · have t0:f 0=true:=hw 0 (by kernel_rfl)
      have t9:f 9=true:=hw 9 (by kernel_rfl)
      obtain rfl:=K.k0 t0
      have hT:=K.h.nth 0 (p:=mapA m (osL f u37 u40 u41 u42 u43 u45 (.slice H 4 ch) (.slice X (nbl c) cx))) (by simp [nwL,t0])
      refine Z0e rfl (fun QB hQB hQX=>?_)
      refine Z0w rfl _ _ _ rfl Tryz.underlying102 Tryz.underlying3 1 u40 rfl rfl rfl hT (by simp [osL]) (by simp [osL,hf]) ?_
      intro w' h'
      have hS:=h'.putAt 0 (by simp [nwL])
      clear hT h'
      go_wp2_with fail
      refine hQB.out _ _ ⟨m,.map (some m),u34,u37,u40,u41,u42,u43,u45,rfl,?_⟩
      exact ⟨fun _=>rfl,fun h=>K.k2 h,fun h=>K.k5 h,fun h=>K.k9 h,fun h=>K.k11 h,fun h=>K.k13 h,fun h=>K.k15 h,fun h=>K.k18 h,fun h=>K.v5 h,fun h=>K.w6 h,fun _=>⟨t0,t9⟩,fun h=>K.w12 h,fun h=>K.w14 h,fun h=>K.w16 h,fun h=>K.w19 h,fun h=>K.w21 h,fun h=>K.w23 h,by simpa [nwL,osL,upd,hf,t0] using hS⟩
    · have n12:f 12=false:=Z4d hf (fun h=>(K.w12 h).2)
      refine Z0e rfl (fun QB hQB hQX=>?_)
      refine wpList_make_full w rfl _ _ 33 rfl _ 34 iU (.int .u64 0) 1 Tryz.underlying33 hiU hzU0 hzU1 .i64 .i64 (1:Int) (1:Int) 1 rfl rfl rfl rfl (by rw [hzU2];omega) (by unfold maxLen;omega) (Nat.le_refl _) ?_
      intro w' hown hgrow
      simp only [Nat.mul_one] at hown
      have hG:Hold w0 w' (numA (.slice (some ⟨w.heap.size,0,none⟩) 1 1) 1 (Z0l 1)*_):=K.h.make (k:=.u64) hown hgrow (Nat.le_refl _)
      have hS:=hG.putAt 3 (by simp [nwL,hf])
      clear hown hgrow hG
      go_wp2_with fail
      refine hQB.out _ _ ⟨m,u32,u34,u37,u40,.slice (some ⟨w.heap.size,0,none⟩) 1 1,u42,u43,u45,rfl,?_⟩
      exact ⟨fun h=>K.k0 h,fun h=>K.k2 h,fun h=>K.k5 h,fun h=>K.k9 h,fun _=>⟨_,_,rfl⟩,fun h=>K.k13 h,fun h=>K.k15 h,fun h=>K.k18 h,fun h=>K.v5 h,fun h=>K.w6 h,fun h=>K.w10 h,fun h=>⟨(K.w12 h).1,rfl⟩,fun h=>K.w14 h,fun h=>K.w16 h,fun h=>K.w19 h,fun h=>K.w21 h,fun h=>K.w23 h,by simpa [nwL,osL,upd,hf,n12] using hS⟩
    · have t0:f 0=true:=hw 0 (by kernel_rfl)
      have t11:f 11=true:=hw 11 (by kernel_rfl)
      obtain rfl:=K.k0 t0
      have hT:=K.h.nth 0 (p:=mapA m (osL f u37 u40 u41 u42 u43 u45 (.slice H 4 ch) (.slice X (nbl c) cx))) (by simp [nwL,t0])
      refine Z0e rfl (fun QB hQB hQX=>?_)
      refine Z0w rfl _ _ _ rfl Tryz.underlying102 Tryz.underlying3 2 u41 rfl rfl rfl hT (by simp [osL]) (by simp [osL,hf]) ?_
      intro w' h'
      have hS:=h'.putAt 0 (by simp [nwL])
      clear hT h'
      go_wp2_with fail
      refine hQB.out _ _ ⟨m,.map (some m),u34,u37,u40,u41,u42,u43,u45,rfl,?_⟩
      exact ⟨fun _=>rfl,fun h=>K.k2 h,fun h=>K.k5 h,fun h=>K.k9 h,fun h=>K.k11 h,fun h=>K.k13 h,fun h=>K.k15 h,fun h=>K.k18 h,fun h=>K.v5 h,fun h=>K.w6 h,fun h=>K.w10 h,fun _=>⟨t0,t11⟩,fun h=>K.w14 h,fun h=>K.w16 h,fun h=>K.w19 h,fun h=>K.w21 h,fun h=>K.w23 h,by simpa [nwL,osL,upd,hf,t0] using hS⟩
    · have n14:f 14=false:=Z4d hf (fun h=>(K.w14 h).2)
      refine Z0e rfl (fun QB hQB hQX=>?_)
      refine wpList_make_full w rfl _ _ 33 rfl _ 34 iU (.int .u64 0) 1 Tryz.underlying33 hiU hzU0 hzU1 .i64 .i64 (1:Int) (1:Int) 1 rfl rfl rfl rfl (by rw [hzU2];omega) (by unfold maxLen;omega) (Nat.le_refl _) ?_
      intro w' hown hgrow
      simp only [Nat.mul_one] at hown
      have hG:Hold w0 w' (numA (.slice (some ⟨w.heap.size,0,none⟩) 1 1) 1 (Z0l 1)*_):=K.h.make (k:=.u64) hown hgrow (Nat.le_refl _)
      have hS:=hG.putAt 4 (by simp [nwL,hf])
      clear hown hgrow hG
      go_wp2_with fail
      refine hQB.out _ _ ⟨m,u32,u34,u37,u40,u41,.slice (some ⟨w.heap.size,0,none⟩) 1 1,u43,u45,rfl,?_⟩
      exact ⟨fun h=>K.k0 h,fun h=>K.k2 h,fun h=>K.k5 h,fun h=>K.k9 h,fun h=>K.k11 h,fun _=>⟨_,_,rfl⟩,fun h=>K.k15 h,fun h=>K.k18 h,fun h=>K.v5 h,fun h=>K.w6 h,fun h=>K.w10 h,fun h=>K.w12 h,fun h=>⟨(K.w14 h).1,rfl⟩,fun h=>K.w16 h,fun h=>K.w19 h,fun h=>K.w21 h,fun h=>K.w23 h,by simpa [nwL,osL,upd,hf,n14] using hS⟩
    · have t0:f 0=true:=hw 0 (by kernel_rfl)
      have t13:f 13=true:=hw 13 (by kernel_rfl)
      obtain rfl:=K.k0 t0
      have hT:=K.h.nth 0 (p:=mapA m (osL f u37 u40 u41 u42 u43 u45 (.slice H 4 ch) (.slice X (nbl c) cx))) (by simp [nwL,t0])
      refine Z0e rfl (fun QB hQB hQX=>?_)
      refine Z0w rfl _ _ _ rfl Tryz.underlying102 Tryz.underlying3 3 u42 rfl rfl rfl hT (by simp [osL]) (by simp [osL,hf]) ?_
      intro w' h'
      have hS:=h'.putAt 0 (by simp [nwL])
      clear hT h'
      go_wp2_with fail
      refine hQB.out _ _ ⟨m,.map (some m),u34,u37,u40,u41,u42,u43,u45,rfl,?_⟩
      exact ⟨fun _=>rfl,fun h=>K.k2 h,fun h=>K.k5 h,fun h=>K.k9 h,fun h=>K.k11 h,fun h=>K.k13 h,fun h=>K.k15 h,fun h=>K.k18 h,fun h=>K.v5 h,fun h=>K.w6 h,fun h=>K.w10 h,fun h=>K.w12 h,fun _=>⟨t0,t13⟩,fun h=>K.w16 h,fun h=>K.w19 h,fun h=>K.w21 h,fun h=>K.w23 h,by simpa [nwL,osL,upd,hf,t0] using hS⟩
    · have n16:f 16=false:=Z4d hf (fun h=>(K.w16 h).2)
      refine Z0e rfl (fun QB hQB hQX=>?_)
      refine wpList_make_full w rfl _ _ 33 rfl _ 34 iU (.int .u64 0) 1 Tryz.underlying33 hiU hzU0 hzU1 .i64 .i64 (1:Int) (1:Int) 1 rfl rfl rfl rfl (by rw [hzU2];omega) (by unfold maxLen;omega) (Nat.le_refl _) ?_
      intro w' hown hgrow
      simp only [Nat.mul_one] at hown
      have hG:Hold w0 w' (numA (.slice (some ⟨w.heap.size,0,none⟩) 1 1) 1 (Z0l 1)*_):=K.h.make (k:=.u64) hown hgrow (Nat.le_refl _)
      have hS:=hG.putAt 5 (by simp [nwL,hf])
      clear hown hgrow hG
      go_wp2_with fail
      refine hQB.out _ _ ⟨m,u32,u34,u37,u40,u41,u42,.slice (some ⟨w.heap.size,0,none⟩) 1 1,u45,rfl,?_⟩
      exact ⟨fun h=>K.k0 h,fun h=>K.k2 h,fun h=>K.k5 h,fun h=>K.k9 h,fun h=>K.k11 h,fun h=>K.k13 h,fun _=>⟨_,_,rfl⟩,fun h=>K.k18 h,fun h=>K.v5 h,fun h=>K.w6 h,fun h=>K.w10 h,fun h=>K.w12 h,fun h=>K.w14 h,fun h=>⟨(K.w16 h).1,rfl⟩,fun h=>K.w19 h,fun h=>K.w21 h,fun h=>K.w23 h,by simpa [nwL,osL,upd,hf,n16] using hS⟩
    · have t0:f 0=true:=hw 0 (by kernel_rfl)
      have t15:f 15=true:=hw 15 (by kernel_rfl)
      obtain rfl:=K.k0 t0
      have hT:=K.h.nth 0 (p:=mapA m (osL f u37 u40 u41 u42 u43 u45 (.slice H 4 ch) (.slice X (nbl c) cx))) (by simp [nwL,t0])
      refine Z0e rfl (fun QB hQB hQX=>?_)
      refine Z0w rfl _ _ _ rfl Tryz.underlying102 Tryz.underlying3 4 u43 rfl rfl rfl hT (by simp [osL]) (by simp [osL,hf]) ?_
      intro w' h'
      have hS:=h'.putAt 0 (by simp [nwL])
      clear hT h'
      go_wp2_with fail
      refine hQB.out _ _ ⟨m,.map (some m),u34,u37,u40,u41,u42,u43,u45,rfl,?_⟩
      exact ⟨fun _=>rfl,fun h=>K.k2 h,fun h=>K.k5 h,fun h=>K.k9 h,fun h=>K.k11 h,fun h=>K.k13 h,fun h=>K.k15 h,fun h=>K.k18 h,fun h=>K.v5 h,fun h=>K.w6 h,fun h=>K.w10 h,fun h=>K.w12 h,fun h=>K.w14 h,fun _=>⟨t0,t15⟩,fun h=>K.w19 h,fun h=>K.w21 h,fun h=>K.w23 h,by simpa [nwL,osL,upd,hf,t0] using hS⟩
    · have n19:f 19=false:=Z4d hf (fun h=>(K.w19 h).2)
      refine Z0e rfl (fun QB hQB hQX=>?_)
      refine wpList_make_full w rfl _ _ 33 rfl _ 34 iU (.int .u64 0) 1 Tryz.underlying33 hiU hzU0 hzU1 .i64 .i64 (th:Int) (th:Int) th rfl rfl rfl rfl (by rw [hzU2];omega) (by unfold maxLen;omega) (Nat.le_refl _) ?_
      intro w' hown hgrow
      simp only [Nat.mul_one] at hown
      have hG:Hold w0 w' (numA (.slice (some ⟨w.heap.size,0,none⟩) th th) th (Z0l th)*_):=K.h.make (k:=.u64) hown hgrow (Nat.le_refl _)
      have hS:=hG.putAt 6 (by simp [nwL,hf])
      clear hown hgrow hG
      go_wp2_with fail
      refine hQB.out _ _ ⟨m,u32,u34,u37,u40,u41,u42,u43,.slice (some ⟨w.heap.size,0,none⟩) th th,rfl,?_⟩
      exact ⟨fun h=>K.k0 h,fun h=>K.k2 h,fun h=>K.k5 h,fun h=>K.k9 h,fun h=>K.k11 h,fun h=>K.k13 h,fun h=>K.k15 h,fun _=>⟨_,_,rfl⟩,fun h=>K.v5 h,fun h=>K.w6 h,fun h=>K.w10 h,fun h=>K.w12 h,fun h=>K.w14 h,fun h=>K.w16 h,fun h=>⟨(K.w19 h).1,rfl⟩,fun h=>K.w21 h,fun h=>K.w23 h,by simpa [nwL,osL,upd,hf,n19] using hS⟩
    · have t0:f 0=true:=hw 0 (by kernel_rfl)
      have t18:f 18=true:=hw 18 (by kernel_rfl)
      obtain rfl:=K.k0 t0
      have hT:=K.h.nth 0 (p:=mapA m (osL f u37 u40 u41 u42 u43 u45 (.slice H 4 ch) (.slice X (nbl c) cx))) (by simp [nwL,t0])
      refine Z0e rfl (fun QB hQB hQX=>?_)
      refine Z0w rfl _ _ _ rfl Tryz.underlying102 Tryz.underlying3 5 u45 rfl rfl rfl hT (by simp [osL]) (by simp [osL,hf]) ?_
      intro w' h'
      have hS:=h'.putAt 0 (by simp [nwL])
      clear hT h'
      go_wp2_with fail
      refine hQB.out _ _ ⟨m,.map (some m),u34,u37,u40,u41,u42,u43,u45,rfl,?_⟩
      exact ⟨fun _=>rfl,fun h=>K.k2 h,fun h=>K.k5 h,fun h=>K.k9 h,fun h=>K.k11 h,fun h=>K.k13 h,fun h=>K.k15 h,fun h=>K.k18 h,fun h=>K.v5 h,fun h=>K.w6 h,fun h=>K.w10 h,fun h=>K.w12 h,fun h=>K.w14 h,fun h=>K.w16 h,fun _=>⟨t0,t18⟩,fun h=>K.w21 h,fun h=>K.w23 h,by simpa [nwL,osL,upd,hf,t0] using hS⟩
    · have t0:f 0=true:=hw 0 (by kernel_rfl)
      obtain rfl:=K.k0 t0
      have hT:=K.h.nth 0 (p:=mapA m (osL f u37 u40 u41 u42 u43 u45 (.slice H 4 ch) (.slice X (nbl c) cx))) (by simp [nwL,t0])
      refine Z0e rfl (fun QB hQB hQX=>?_)
      refine Z0w rfl _ _ _ rfl Tryz.underlying102 Tryz.underlying3 6 (.slice H 4 ch) rfl rfl rfl hT (by simp [osL]) (by simp [osL,hf]) ?_
      intro w' h'
      have hS:=h'.putAt 0 (by simp [nwL])
      clear hT h'
      go_wp2_with fail
      refine hQB.out _ _ ⟨m,.map (some m),u34,u37,u40,u41,u42,u43,u45,rfl,?_⟩
      exact ⟨fun _=>rfl,fun h=>K.k2 h,fun h=>K.k5 h,fun h=>K.k9 h,fun h=>K.k11 h,fun h=>K.k13 h,fun h=>K.k15 h,fun h=>K.k18 h,fun h=>K.v5 h,fun h=>K.w6 h,fun h=>K.w10 h,fun h=>K.w12 h,fun h=>K.w14 h,fun h=>K.w16 h,fun h=>K.w19 h,fun _=>t0,fun h=>K.w23 h,by simpa [nwL,osL,upd,hf,t0] using hS⟩
    · have t0:f 0=true:=hw 0 (by kernel_rfl)
      obtain rfl:=K.k0 t0
      have hT:=K.h.nth 0 (p:=mapA m (osL f u37 u40 u41 u42 u43 u45 (.slice H 4 ch) (.slice X (nbl c) cx))) (by simp [nwL,t0])
      refine Z0e rfl (fun QB hQB hQX=>?_)
      refine Z0w rfl _ _ _ rfl Tryz.underlying102 Tryz.underlying3 7 (.slice X (nbl c) cx) rfl rfl rfl hT (by simp [osL]) (by simp [osL,hf]) ?_
      intro w' h'
      have hS:=h'.putAt 0 (by simp [nwL])
      clear hT h'
      go_wp2_with fail
      refine hQB.out _ _ ⟨m,.map (some m),u34,u37,u40,u41,u42,u43,u45,rfl,?_⟩
      exact ⟨fun _=>rfl,fun h=>K.k2 h,fun h=>K.k5 h,fun h=>K.k9 h,fun h=>K.k11 h,fun h=>K.k13 h,fun h=>K.k15 h,fun h=>K.k18 h,fun h=>K.v5 h,fun h=>K.w6 h,fun h=>K.w10 h,fun h=>K.w12 h,fun h=>K.w14 h,fun h=>K.w16 h,fun h=>K.w19 h,fun h=>K.w21 h,fun _=>t0,by simpa [nwL,osL,upd,hf,t0] using hS⟩
  case hEnd =>
    rintro a w ⟨m,u32,u34,u37,u40,u41,u42,u43,u45,rfl,K⟩
    obtain rfl:=K.k0 rfl
    obtain ⟨A1,c1,rfl⟩:=K.k5 rfl
    obtain ⟨A2,c2,rfl⟩:=K.k9 rfl
    obtain ⟨A3,c3,rfl⟩:=K.k11 rfl
    obtain ⟨A4,c4,rfl⟩:=K.k13 rfl
    obtain ⟨A5,c5,rfl⟩:=K.k15 rfl
    obtain ⟨A6,c6,rfl⟩:=K.k18 rfl
    have hK:Hold w0 w (sepR [mapA m [some (.slice A1 (n + nbl c) c1),some (.slice A2 o c2),some (.slice A3 1 c3),some (.slice A4 1 c4),some (.slice A5 1 c5),some (.slice A6 th c6),some (.slice H 4 ch),some (.slice X (nbl c) cx)],
      numA (.slice A1 (n + nbl c) c1) (n + nbl c) (init++Z0l (nbl c)),numA (.slice A2 o c2) o (Z0l o),numA (.slice A3 1 c3) 1 (Z0l 1),numA (.slice A4 1 c4) 1 (Z0l 1),numA (.slice A5 1 c5) 1 (Z0l 1),numA (.slice A6 th c6) th (Z0l th),numA (.slice H 4 ch) 4 (Z7b c),numA (.slice X (nbl c) cx) (nbl c) (Z7a c)] (blkA 32 gc c.cells*R)):=K.h
    have d1:∀ w',Hold w0 w' (blkA 32 gc c.cells*R)→w'.cell? ⟨gc,1,none⟩=some (.int .i64 o):=fun w' h=>by rw [← Ho.out];exact h.blk.some_ rfl
    have hE:=hK.newBlk (t:=104) (cs:=#[.map (some m)])
    have hE2:Hold w0 _ (memA w.heap.size (newC c th init)*R):=(hE.memClose (C:=newC c th init) rfl (by simp [newC,Ho.out]) rfl rfl rfl rfl rfl rfl (by simp [Z0l,Hn.out]) (by simp [Z0l]) rfl rfl rfl (by simp [Z0l]) (by simp [Z7b]) (by simp [Z7a])).imp (Imp.under _ (Imp.drop _ _))
    have HE:=hid hE2
    have hw1:=d1 w hK.rest
    have hw2:=d1 _ hE.drop.rest
    clear K hK hE hE2 d1
    refine' wbk [false,false,false,false,false,false,false,false,false,false,false,false,false,false,false,false,false,false,false,false,false,false,false,false,true,true] 51 hw1 (fun wq hq=>?_) ?_;rotate_left
    · simp only [Z00]
      repeat (go_big_quiet_step (fail))
      exact wpQuiet_nil rfl
    refine wbr [false,false,false,false,false,false,false,false,false,false,false,false,false,false,false,false,false,false,false,false,false,false,false,false,false,false,true] (fuel:=2) (fun QB hQB hQX=>?_)
    simp only [Z00]
    go_wp2_with fail
    refine hQB.out _ _ hw2 ?_
    refine' wbk [false,false,false,false,false,false,false,false,false,false,false,false,false,false,false,false,false,false,false,false,false,false,false,false,false,false,false,true,true] 51 hw2 (fun wq hq=>?_) ?_;rotate_left
    · simp only [Z00]
      repeat (go_big_quiet_step (fail))
      exact wpQuiet_nil rfl
    refine Z02 (by kernel_rfl) ?_ _
    go_wp2_with fail
    go_ret2
    exact ⟨_,rfl,HE.out⟩
end Go.Proofs.YtmlfangeanmmeaaGreatDoor
