/-
 What the proof of TopAlone leans on, part 10 of 49: Cfg, Cfg2, Mo0, Mo1. No statement of its own.
-/
import Derived.Test.YtmlfangeanmmeaaGreatDoorAm1
import Derived.Test.YtmlfangeanmmeaaGreatDoorAm3
import Derived.LoopN
import Derived.Deep.LoopGhost
set_option maxHeartbeats 16000000
set_option maxRecDepth 8000
set_option linter.unusedVariables false
namespace Go.Proofs.YtmlfangeanmmeaaGreatDoor
open Go.RowKit
structure Cfg where
 words:Int
 orecs:Int
 base:Int
 c0:Int
 c1:Int
 c2:Int
 c3:Int
 reads:Int
 writes:Int
 allocs:Int
 frees:Int
 clock:Int
 strong:Bool
abbrev Cfg.cells (c:Cfg):Array Value:=#[.int .i64 c.words,.int .i64 c.orecs,.int .i64 c.base,.int .i64 c.c0,.int .i64 c.c1,.int .i64 c.c2,.int .i64 c.c3,.int .i64 c.reads,.int .i64 c.writes,.int .i64 c.allocs,.int .i64 c.frees,.int .i64 c.clock,.bool c.strong]
abbrev Cfg.val (c:Cfg):Value:=.agg c.cells
def win (n lo hi:Int):Bool:=decide (lo<=n) && decide (n<=hi)
theorem win_true {n lo hi:Int}:win n lo hi=true ↔ lo<=n/\n<=hi:=by unfold win;simp
theorem win_false {n lo hi:Int}:win n lo hi=false ↔ ¬ (lo<=n/\n<=hi):=by rw[<- win_true];simp
def Z0d (c:Cfg):Bool:=win c.c0 0 64 && win c.c1 0 64 && win c.c2 0 64 && win c.c3 0 64
def Z0n (c:Cfg):Int:=c.c0+c.c1+c.c2+c.c3
def Z10 (c:Cfg):Int:=c.c0+c.c1*2+c.c2*4+c.c3*8
def Zc0 (c:Cfg):Bool:=Z0d c && decide (Z0n c<=64) && win c.base 0 c.words && decide (c.base+Z10 c<=c.words)
def Z18 (c:Cfg):Int :=
 if !(win c.words 1 64 && win c.orecs 1 64) then 50
 else if !Zc0 c then 51
 else if !(win c.reads 1 32 && win c.writes 1 32 && win c.allocs 0 8 && win c.frees 0 8) then 52
 else if !(win c.clock 0 1099511627776) then 53
 else 0
theorem within_any (w:World) (n lo hi:Int) :
  Calls Tryz.prog 28 #[.int .i64 n,.int .i64 lo,.int .i64 hi] w fun e w'=>e = .returned (.bool (win n lo hi))/\w=w':=by
 by_cases h1:lo<=n
 ·by_cases h2:n<=hi
  ·rw[win_true.2 ⟨h1,h2⟩]
   go_enter Tryz.func28,Tryz.ntmps28;go_wp2;go_ret;exact⟨rfl,rfl⟩
  ·rw[win_false.2 (by omega)]
   go_enter Tryz.func28,Tryz.ntmps28;go_wp2;go_ret;exact⟨rfl,rfl⟩
 ·rw[win_false.2 (by omega)]
  have e1:decide (lo<=n)=false:=decide_eq_false h1;go_enter Tryz.func28,Tryz.ntmps28;go_wp2;go_ret;exact⟨rfl,rfl⟩
theorem rwithin_any (w:World) (n lo hi:Int) :
  Calls Tryz.prog 75 #[.int .i64 n,.int .i64 lo,.int .i64 hi] w fun e w'=>e = .returned (.bool (win n lo hi))/\w=w':=by
 by_cases h1:lo<=n
 ·by_cases h2:n<=hi
  ·rw[win_true.2 ⟨h1,h2⟩]
   go_enter Tryz.func75,Tryz.ntmps75;go_wp2;go_ret;exact⟨rfl,rfl⟩
  ·rw[win_false.2 (by omega)]
   go_enter Tryz.func75,Tryz.ntmps75;go_wp2;go_ret;exact⟨rfl,rfl⟩
 ·rw[win_false.2 (by omega)]
  have e1:decide (lo<=n)=false:=decide_eq_false h1;go_enter Tryz.func75,Tryz.ntmps75;go_wp2;go_ret;exact⟨rfl,rfl⟩
def HeapPost (w:World) (c:Cfg) (e:Ending) (w':World):Prop :=
 (∃a b:Int,e = .returned (.tuple #[.int .i64 a,.int .i64 b,.bool (Z0d c && decide (Z0n c<=64))])/\(Z0d c=true->a=Z0n c/\b=Z10 c)/\0<=a/\a<=256/\0<=b/\b<=960)/\Chg [] w w'
theorem HeapPost.ok {w w':World} {c:Cfg} {a b:Int} {k:Bool} (h:Z0d c=true) (ha:a=Z0n c) (hb:b=Z10 c) (hk:k=decide (Z0n c<=64)) (hc:Chg [] w w'):HeapPost w c (.returned (.tuple #[.int .i64 a,.int .i64 b,.bool k])) w':=by
 refine⟨⟨a,b,by rw[h,hk];rfl,fun _=>⟨ha,hb⟩,?_⟩,hc⟩;simp only[Z0d,Bool.and_eq_true,win_true] at h;unfold Z0n at ha;unfold Z10 at hb;omega
theorem HeapPost.no {w w':World} {c:Cfg} (h:Z0d c=false) (hc:Chg [] w w'):HeapPost w c (.returned (.tuple #[.int .i64 0,.int .i64 0,.bool false])) w' :=
 ⟨⟨0,0,by rw[h];rfl,(fun h2=>by rw[h] at h2;cases h2),by omega,by omega,by omega,by omega⟩,hc⟩
theorem heap_any (w:World) (c:Cfg):Calls Tryz.prog 44 #[c.val] w (HeapPost w c):=by
 obtain⟨w1,o1,b1,n0,n1,n2,n3,r1,r2,a1,f1,k1,s1⟩:=c;have i0:∀w,(Instr.index 30 (.agg #[.int .i64 n0,.int .i64 n1,.int .i64 n2,.int .i64 n3]) (.int .i64 0)).run Tryz.prog w = .ok (.int .i64 n0) w:=fun _=>by kernel_rfl
 have i1:∀w,(Instr.index 30 (.agg #[.int .i64 n0,.int .i64 n1,.int .i64 n2,.int .i64 n3]) (.int .i64 1)).run Tryz.prog w = .ok (.int .i64 n1) w:=fun _=>by kernel_rfl
 have i2:∀w,(Instr.index 30 (.agg #[.int .i64 n0,.int .i64 n1,.int .i64 n2,.int .i64 n3]) (.int .i64 2)).run Tryz.prog w = .ok (.int .i64 n2) w:=fun _=>by kernel_rfl
 have i3:∀w,(Instr.index 30 (.agg #[.int .i64 n0,.int .i64 n1,.int .i64 n2,.int .i64 n3]) (.int .i64 3)).run Tryz.prog w = .ok (.int .i64 n3) w:=fun _=>by kernel_rfl
 by_cases h0:0<=n0/\n0<=64
 ·obtain⟨h0a,h0b⟩:=h0
  by_cases h1:0<=n1/\n1<=64
  ·obtain⟨h1a,h1b⟩:=h1
   by_cases h2:0<=n2/\n2<=64
   ·obtain⟨h2a,h2b⟩:=h2
    by_cases h3:0<=n3/\n3<=64
    ·obtain⟨h3a,h3b⟩:=h3
     have Hk:Hid (Z0d ⟨w1,o1,b1,n0,n1,n2,n3,r1,r2,a1,f1,k1,s1⟩=true):=hid (by simp only[Z0d,Bool.and_eq_true,win_true];omega);go_enter Tryz.func44,Tryz.ntmps44;go_wp2;refine wp_loop_rounds 5 ?_;rw[rounds_succ];go_wp2;rw[rounds_succ];go_wp2;rw[rounds_succ];go_wp2;rw[rounds_succ];go_wp2;rw[rounds_succ];go_wp2
     go_ret3
     exact HeapPost.ok Hk.out rfl rfl rfl ((Chg.refl _ _).alloc _)
    ·have Hk:Hid (Z0d ⟨w1,o1,b1,n0,n1,n2,n3,r1,r2,a1,f1,k1,s1⟩=false):=hid (by
      cases hh:Z0d ⟨w1,o1,b1,n0,n1,n2,n3,r1,r2,a1,f1,k1,s1⟩
      ·rfl
      ·simp only[Z0d,Bool.and_eq_true,win_true] at hh;exact absurd hh.2 h3)
     rcases(show n3<0\/64<n3 by omega) with h|h
     ·clear h3
      go_enter Tryz.func44,Tryz.ntmps44;go_wp2;refine wp_loop_rounds 4 ?_;rw[rounds_succ];go_wp2;rw[rounds_succ];go_wp2;rw[rounds_succ];go_wp2;rw[rounds_succ];go_wp2
      go_ret3
      exact HeapPost.no Hk.out ((Chg.refl _ _).alloc _)
     ·have h0n:¬ n3<0:=by omega
      clear h3;go_enter Tryz.func44,Tryz.ntmps44;go_wp2;refine wp_loop_rounds 4 ?_;rw[rounds_succ];go_wp2;rw[rounds_succ];go_wp2;rw[rounds_succ];go_wp2;rw[rounds_succ];go_wp2
      go_ret3
      exact HeapPost.no Hk.out ((Chg.refl _ _).alloc _)
   ·have Hk:Hid (Z0d ⟨w1,o1,b1,n0,n1,n2,n3,r1,r2,a1,f1,k1,s1⟩=false):=hid (by
     cases hh:Z0d ⟨w1,o1,b1,n0,n1,n2,n3,r1,r2,a1,f1,k1,s1⟩
     ·rfl
     ·simp only[Z0d,Bool.and_eq_true,win_true] at hh;exact absurd hh.1.2 h2)
    rcases(show n2<0\/64<n2 by omega) with h|h
    ·clear h2
     go_enter Tryz.func44,Tryz.ntmps44;go_wp2;refine wp_loop_rounds 3 ?_;rw[rounds_succ];go_wp2;rw[rounds_succ];go_wp2;rw[rounds_succ];go_wp2
     go_ret3
     exact HeapPost.no Hk.out ((Chg.refl _ _).alloc _)
    ·have h0n:¬ n2<0:=by omega
     clear h2;go_enter Tryz.func44,Tryz.ntmps44;go_wp2;refine wp_loop_rounds 3 ?_;rw[rounds_succ];go_wp2;rw[rounds_succ];go_wp2;rw[rounds_succ];go_wp2
     go_ret3
     exact HeapPost.no Hk.out ((Chg.refl _ _).alloc _)
  ·have Hk:Hid (Z0d ⟨w1,o1,b1,n0,n1,n2,n3,r1,r2,a1,f1,k1,s1⟩=false):=hid (by
    cases hh:Z0d ⟨w1,o1,b1,n0,n1,n2,n3,r1,r2,a1,f1,k1,s1⟩
    ·rfl
    ·simp only[Z0d,Bool.and_eq_true,win_true] at hh;exact absurd hh.1.1.2 h1)
   rcases(show n1<0\/64<n1 by omega) with h|h
   ·clear h1
    go_enter Tryz.func44,Tryz.ntmps44;go_wp2;refine wp_loop_rounds 2 ?_;rw[rounds_succ];go_wp2;rw[rounds_succ];go_wp2
    go_ret3
    exact HeapPost.no Hk.out ((Chg.refl _ _).alloc _)
   ·have h0n:¬ n1<0:=by omega
    clear h1;go_enter Tryz.func44,Tryz.ntmps44;go_wp2;refine wp_loop_rounds 2 ?_;rw[rounds_succ];go_wp2;rw[rounds_succ];go_wp2
    go_ret3
    exact HeapPost.no Hk.out ((Chg.refl _ _).alloc _)
 ·have Hk:Hid (Z0d ⟨w1,o1,b1,n0,n1,n2,n3,r1,r2,a1,f1,k1,s1⟩=false):=hid (by
   cases hh:Z0d ⟨w1,o1,b1,n0,n1,n2,n3,r1,r2,a1,f1,k1,s1⟩
   ·rfl
   ·simp only[Z0d,Bool.and_eq_true,win_true] at hh;exact absurd hh.1.1.1 h0)
  rcases(show n0<0\/64<n0 by omega) with h|h
  ·clear h0
   go_enter Tryz.func44,Tryz.ntmps44;go_wp2;refine wp_loop_rounds 1 ?_;rw[rounds_succ];go_wp2
   go_ret3
   exact HeapPost.no Hk.out ((Chg.refl _ _).alloc _)
  ·have h0n:¬ n0<0:=by omega
   clear h0;go_enter Tryz.func44,Tryz.ntmps44;go_wp2;refine wp_loop_rounds 1 ?_;rw[rounds_succ];go_wp2
   go_ret3
   exact HeapPost.no Hk.out ((Chg.refl _ _).alloc _)
theorem Z0v {w:World} {g:Nat} {t:TypeId} {c:Cfg} (h:Blk w g t c.cells) :
  w.cell? ⟨g,0,none⟩=some (.int .i64 c.words)/\w.cell? ⟨g,1,none⟩=some (.int .i64 c.orecs)/\w.cell? ⟨g,2,none⟩=some (.int .i64 c.base)/\w.cell? ⟨g,3,none⟩=some (.int .i64 c.c0)/\w.cell? ⟨g,4,none⟩=some (.int .i64 c.c1) /\
  w.cell? ⟨g,5,none⟩=some (.int .i64 c.c2)/\w.cell? ⟨g,6,none⟩=some (.int .i64 c.c3)/\w.cell? ⟨g,7,none⟩=some (.int .i64 c.reads)/\w.cell? ⟨g,8,none⟩=some (.int .i64 c.writes)/\w.cell? ⟨g,9,none⟩=some (.int .i64 c.allocs) /\
  w.cell? ⟨g,10,none⟩=some (.int .i64 c.frees)/\w.cell? ⟨g,11,none⟩=some (.int .i64 c.clock)/\w.cell? ⟨g,12,none⟩=some (.bool c.strong) :=
 ⟨h.some_ rfl,h.some_ rfl,h.some_ rfl,h.some_ rfl,h.some_ rfl,h.some_ rfl,h.some_ rfl,h.some_ rfl,h.some_ rfl,h.some_ rfl,h.some_ rfl,h.some_ rfl,h.some_ rfl⟩
theorem Z3t (c:Cfg):(win c.words 1 64=false\/win c.words 1 64=true/\win c.orecs 1 64=false)/\Z18 c=50 \/
  (win c.words 1 64=true/\win c.orecs 1 64=true)/\((Z0d c && decide (Z0n c<=64))=false\/(Z0d c && decide (Z0n c<=64))=true/\(win c.base 0 c.words=false\/win c.base 0 c.words=true/\decide (c.base+Z10 c<=c.words)=false))/\Z18 c=51 \/
  (win c.words 1 64=true/\win c.orecs 1 64=true)/\((Z0d c && decide (Z0n c<=64))=true/\win c.base 0 c.words=true/\decide (c.base+Z10 c<=c.words)=true) /\
   (((win c.reads 1 32=false\/win c.reads 1 32=true/\(win c.writes 1 32=false\/win c.writes 1 32=true/\(win c.allocs 0 8=false\/win c.allocs 0 8=true/\win c.frees 0 8=false)))/\Z18 c=52) \/
    (win c.reads 1 32=true/\win c.writes 1 32=true/\win c.allocs 0 8=true/\win c.frees 0 8=true)/\(win c.clock 0 1099511627776=false/\Z18 c=53\/win c.clock 0 1099511627776=true/\Z18 c=0)):=by
 unfold Z18 Zc0
 cases win c.words 1 64 <;> cases win c.orecs 1 64 <;> cases (Z0d c && decide (Z0n c<=64)) <;> cases win c.base 0 c.words <;> cases decide (c.base+Z10 c<=c.words) <;> try (simp;done)
 all_goals (cases win c.reads 1 32 <;> cases win c.writes 1 32 <;> cases win c.allocs 0 8 <;> cases win c.frees 0 8 <;> cases win c.clock 0 1099511627776 <;> simp)
def Z9k (w:World) (c:Cfg) (e:Ending) (w':World):Prop:=e = .returned (.int .i64 (Z18 c))/\Chg [] w w'
theorem Z0u {k:IntKind} {a b:Int} (h:a=b):Ending.returned (.int k a) = .returned (.int k b):=by rw[h]
theorem check_any (w:World) (c:Cfg):Calls Tryz.prog 27 #[c.val] w (Z9k w c):=by
 rcases Z3t c with⟨h1|⟨h1,h2⟩,hE⟩|⟨⟨h1,h2⟩,h3|⟨h3,h4|⟨h4,h5⟩⟩,hE⟩|⟨⟨h1,h2⟩,⟨h3,h4,h5⟩,⟨h6|⟨h6,h7|⟨h7,h8|⟨h8,h9⟩⟩⟩,hE⟩|⟨⟨h6,h7,h8,h9⟩,⟨h10,hE⟩|⟨h10,hE⟩⟩⟩
 ·have E1:=hid h1
  clear h1;have HE:=hid hE;clear hE;go_enter Tryz.func27,Tryz.ntmps27;go_wp2_with fail;refine(heap_any _ c).mono ?_;rintro e w1 ⟨⟨a,b,rfl,hab,ha0,ha1,hb0,hb1⟩,hc⟩;clear hab;obtain⟨K,hK⟩:∃K,K=(Z0d c && decide (Z0n c<=64)):=⟨_,rfl⟩;rw[<- hK];clear hK;have hB:=(Blk.new w 32 c.cells).chg hc (by simp);obtain⟨q0,q1,q2,q3,q4,q5,q6,q7,q8,q9,q10,q11,q12⟩:=Z0v hB;have HC:=hid (((Chg.refl [] w).alloc _).trans hc (by simp));clear hB hc;go_wp2_with (go_at_call 28;refine(within_any _ _ _ _).mono ?_;rintro e w' ⟨rfl,rfl⟩;(first|rw[E1.out]));go_ret;exact⟨Z0u HE.out.symm,HC.out⟩
 ·have b1:=win_true.1 h1
  have E1:=hid h1;clear h1;have E2:=hid h2;clear h2;have HE:=hid hE;clear hE;go_enter Tryz.func27,Tryz.ntmps27;go_wp2_with fail;refine(heap_any _ c).mono ?_;rintro e w1 ⟨⟨a,b,rfl,hab,ha0,ha1,hb0,hb1⟩,hc⟩;clear hab;obtain⟨K,hK⟩:∃K,K=(Z0d c && decide (Z0n c<=64)):=⟨_,rfl⟩;rw[<- hK];clear hK;have hB:=(Blk.new w 32 c.cells).chg hc (by simp);obtain⟨q0,q1,q2,q3,q4,q5,q6,q7,q8,q9,q10,q11,q12⟩:=Z0v hB;have HC:=hid (((Chg.refl [] w).alloc _).trans hc (by simp));clear hB hc;go_wp2_with (go_at_call 28;refine(within_any _ _ _ _).mono ?_;rintro e w' ⟨rfl,rfl⟩;(first|rw[E1.out]|rw[E2.out]));go_ret;exact⟨Z0u HE.out.symm,HC.out⟩
 ·have b1:=win_true.1 h1
  have E1:=hid h1;clear h1;have E2:=hid h2;clear h2;have E3:=hid h3;clear h3;have HE:=hid hE;clear hE;go_enter Tryz.func27,Tryz.ntmps27;go_wp2_with fail;refine(heap_any _ c).mono ?_;rintro e w1 ⟨⟨a,b,rfl,hab,ha0,ha1,hb0,hb1⟩,hc⟩;clear hab;rw[E3.out];have hB:=(Blk.new w 32 c.cells).chg hc (by simp);obtain⟨q0,q1,q2,q3,q4,q5,q6,q7,q8,q9,q10,q11,q12⟩:=Z0v hB;have HC:=hid (((Chg.refl [] w).alloc _).trans hc (by simp));clear hB hc;go_wp2_with (go_at_call 28;refine(within_any _ _ _ _).mono ?_;rintro e w' ⟨rfl,rfl⟩;(first|rw[E1.out]|rw[E2.out]));go_ret;exact⟨Z0u HE.out.symm,HC.out⟩
 ·have b1:=win_true.1 h1
  have E1:=hid h1;clear h1;have E2:=hid h2;clear h2;have E3:=hid h3;clear h3;have E4:=hid h4;clear h4;have HE:=hid hE;clear hE;go_enter Tryz.func27,Tryz.ntmps27;go_wp2_with fail;refine(heap_any _ c).mono ?_;rintro e w1 ⟨⟨a,b,rfl,hab,ha0,ha1,hb0,hb1⟩,hc⟩;have hk:Z0d c=true:=by have:=E3.out;simp only[Bool.and_eq_true] at this;exact this.1
  obtain⟨hab1,hab2⟩:=hab hk;subst hab1;subst hab2;clear hk;rw[E3.out];have hB:=(Blk.new w 32 c.cells).chg hc (by simp);obtain⟨q0,q1,q2,q3,q4,q5,q6,q7,q8,q9,q10,q11,q12⟩:=Z0v hB;have HC:=hid (((Chg.refl [] w).alloc _).trans hc (by simp));clear hB hc;go_wp2_with (go_at_call 28;refine(within_any _ _ _ _).mono ?_;rintro e w' ⟨rfl,rfl⟩;(first|rw[E1.out]|rw[E2.out]|rw[E4.out]));go_ret;exact⟨Z0u HE.out.symm,HC.out⟩
 ·have b1:=win_true.1 h1
  have b4:=win_true.1 h4;have b5:c.words<c.base+Z10 c:=by simpa using h5
  have E1:=hid h1;clear h1;have E2:=hid h2;clear h2;have E3:=hid h3;clear h3;have E4:=hid h4;clear h4;clear h5;have HE:=hid hE;clear hE;go_enter Tryz.func27,Tryz.ntmps27;go_wp2_with fail;refine(heap_any _ c).mono ?_;rintro e w1 ⟨⟨a,b,rfl,hab,ha0,ha1,hb0,hb1⟩,hc⟩;have hk:Z0d c=true:=by have:=E3.out;simp only[Bool.and_eq_true] at this;exact this.1
  obtain⟨hab1,hab2⟩:=hab hk;subst hab1;subst hab2;clear hk;rw[E3.out];have hB:=(Blk.new w 32 c.cells).chg hc (by simp);obtain⟨q0,q1,q2,q3,q4,q5,q6,q7,q8,q9,q10,q11,q12⟩:=Z0v hB;have HC:=hid (((Chg.refl [] w).alloc _).trans hc (by simp));clear hB hc;go_wp2_with (go_at_call 28;refine(within_any _ _ _ _).mono ?_;rintro e w' ⟨rfl,rfl⟩;(first|rw[E1.out]|rw[E2.out]|rw[E4.out]));go_ret;exact⟨Z0u HE.out.symm,HC.out⟩
 ·have b1:=win_true.1 h1
  have b4:=win_true.1 h4;have b5:c.base+Z10 c<=c.words:=by simpa using h5
  have E1:=hid h1;clear h1;have E2:=hid h2;clear h2;have E3:=hid h3;clear h3;have E4:=hid h4;clear h4;clear h5;have E6:=hid h6;clear h6;have HE:=hid hE;clear hE;go_enter Tryz.func27,Tryz.ntmps27;go_wp2_with fail;refine(heap_any _ c).mono ?_;rintro e w1 ⟨⟨a,b,rfl,hab,ha0,ha1,hb0,hb1⟩,hc⟩;have hk:Z0d c=true:=by have:=E3.out;simp only[Bool.and_eq_true] at this;exact this.1
  obtain⟨hab1,hab2⟩:=hab hk;subst hab1;subst hab2;clear hk;rw[E3.out];have hB:=(Blk.new w 32 c.cells).chg hc (by simp);obtain⟨q0,q1,q2,q3,q4,q5,q6,q7,q8,q9,q10,q11,q12⟩:=Z0v hB;have HC:=hid (((Chg.refl [] w).alloc _).trans hc (by simp));clear hB hc;go_wp2_with (go_at_call 28;refine(within_any _ _ _ _).mono ?_;rintro e w' ⟨rfl,rfl⟩;(first|rw[E1.out]|rw[E2.out]|rw[E4.out]|rw[E6.out]));go_ret;exact⟨Z0u HE.out.symm,HC.out⟩
 ·have b1:=win_true.1 h1
  have b4:=win_true.1 h4;have b5:c.base+Z10 c<=c.words:=by simpa using h5
  have E1:=hid h1;clear h1;have E2:=hid h2;clear h2;have E3:=hid h3;clear h3;have E4:=hid h4;clear h4;clear h5;have E6:=hid h6;clear h6;have E7:=hid h7;clear h7;have HE:=hid hE;clear hE;go_enter Tryz.func27,Tryz.ntmps27;go_wp2_with fail;refine(heap_any _ c).mono ?_;rintro e w1 ⟨⟨a,b,rfl,hab,ha0,ha1,hb0,hb1⟩,hc⟩;have hk:Z0d c=true:=by have:=E3.out;simp only[Bool.and_eq_true] at this;exact this.1
  obtain⟨hab1,hab2⟩:=hab hk;subst hab1;subst hab2;clear hk;rw[E3.out];have hB:=(Blk.new w 32 c.cells).chg hc (by simp);obtain⟨q0,q1,q2,q3,q4,q5,q6,q7,q8,q9,q10,q11,q12⟩:=Z0v hB;have HC:=hid (((Chg.refl [] w).alloc _).trans hc (by simp));clear hB hc;go_wp2_with (go_at_call 28;refine(within_any _ _ _ _).mono ?_;rintro e w' ⟨rfl,rfl⟩;(first|rw[E1.out]|rw[E2.out]|rw[E4.out]|rw[E6.out]|rw[E7.out]));go_ret;exact⟨Z0u HE.out.symm,HC.out⟩
 ·have b1:=win_true.1 h1
  have b4:=win_true.1 h4;have b5:c.base+Z10 c<=c.words:=by simpa using h5
  have E1:=hid h1;clear h1;have E2:=hid h2;clear h2;have E3:=hid h3;clear h3;have E4:=hid h4;clear h4;clear h5;have E6:=hid h6;clear h6;have E7:=hid h7;clear h7;have E8:=hid h8;clear h8;have HE:=hid hE;clear hE;go_enter Tryz.func27,Tryz.ntmps27;go_wp2_with fail;refine(heap_any _ c).mono ?_;rintro e w1 ⟨⟨a,b,rfl,hab,ha0,ha1,hb0,hb1⟩,hc⟩;have hk:Z0d c=true:=by have:=E3.out;simp only[Bool.and_eq_true] at this;exact this.1
  obtain⟨hab1,hab2⟩:=hab hk;subst hab1;subst hab2;clear hk;rw[E3.out];have hB:=(Blk.new w 32 c.cells).chg hc (by simp);obtain⟨q0,q1,q2,q3,q4,q5,q6,q7,q8,q9,q10,q11,q12⟩:=Z0v hB;have HC:=hid (((Chg.refl [] w).alloc _).trans hc (by simp));clear hB hc;go_wp2_with (go_at_call 28;refine(within_any _ _ _ _).mono ?_;rintro e w' ⟨rfl,rfl⟩;(first|rw[E1.out]|rw[E2.out]|rw[E4.out]|rw[E6.out]|rw[E7.out]|rw[E8.out]));go_ret;exact⟨Z0u HE.out.symm,HC.out⟩
 ·have b1:=win_true.1 h1
  have b4:=win_true.1 h4;have b5:c.base+Z10 c<=c.words:=by simpa using h5
  have E1:=hid h1;clear h1;have E2:=hid h2;clear h2;have E3:=hid h3;clear h3;have E4:=hid h4;clear h4;clear h5;have E6:=hid h6;clear h6;have E7:=hid h7;clear h7;have E8:=hid h8;clear h8;have E9:=hid h9;clear h9;have HE:=hid hE;clear hE;go_enter Tryz.func27,Tryz.ntmps27;go_wp2_with fail;refine(heap_any _ c).mono ?_;rintro e w1 ⟨⟨a,b,rfl,hab,ha0,ha1,hb0,hb1⟩,hc⟩;have hk:Z0d c=true:=by have:=E3.out;simp only[Bool.and_eq_true] at this;exact this.1
  obtain⟨hab1,hab2⟩:=hab hk;subst hab1;subst hab2;clear hk;rw[E3.out];have hB:=(Blk.new w 32 c.cells).chg hc (by simp);obtain⟨q0,q1,q2,q3,q4,q5,q6,q7,q8,q9,q10,q11,q12⟩:=Z0v hB;have HC:=hid (((Chg.refl [] w).alloc _).trans hc (by simp));clear hB hc;go_wp2_with (go_at_call 28;refine(within_any _ _ _ _).mono ?_;rintro e w' ⟨rfl,rfl⟩;(first|rw[E1.out]|rw[E2.out]|rw[E4.out]|rw[E6.out]|rw[E7.out]|rw[E8.out]|rw[E9.out]));go_ret;exact⟨Z0u HE.out.symm,HC.out⟩
 ·have b1:=win_true.1 h1
  have b4:=win_true.1 h4;have b5:c.base+Z10 c<=c.words:=by simpa using h5
  have E1:=hid h1;clear h1;have E2:=hid h2;clear h2;have E3:=hid h3;clear h3;have E4:=hid h4;clear h4;clear h5;have E6:=hid h6;clear h6;have E7:=hid h7;clear h7;have E8:=hid h8;clear h8;have E9:=hid h9;clear h9;have E10:=hid h10;clear h10;have HE:=hid hE;clear hE;go_enter Tryz.func27,Tryz.ntmps27;go_wp2_with fail;refine(heap_any _ c).mono ?_;rintro e w1 ⟨⟨a,b,rfl,hab,ha0,ha1,hb0,hb1⟩,hc⟩;have hk:Z0d c=true:=by have:=E3.out;simp only[Bool.and_eq_true] at this;exact this.1
  obtain⟨hab1,hab2⟩:=hab hk;subst hab1;subst hab2;clear hk;rw[E3.out];have hB:=(Blk.new w 32 c.cells).chg hc (by simp);obtain⟨q0,q1,q2,q3,q4,q5,q6,q7,q8,q9,q10,q11,q12⟩:=Z0v hB;have HC:=hid (((Chg.refl [] w).alloc _).trans hc (by simp));clear hB hc;go_wp2_with (go_at_call 28;refine(within_any _ _ _ _).mono ?_;rintro e w' ⟨rfl,rfl⟩;(first|rw[E1.out]|rw[E2.out]|rw[E4.out]|rw[E6.out]|rw[E7.out]|rw[E8.out]|rw[E9.out]|rw[E10.out]));go_ret;exact⟨Z0u HE.out.symm,HC.out⟩
 ·have b1:=win_true.1 h1
  have b4:=win_true.1 h4;have b5:c.base+Z10 c<=c.words:=by simpa using h5
  have E1:=hid h1;clear h1;have E2:=hid h2;clear h2;have E3:=hid h3;clear h3;have E4:=hid h4;clear h4;clear h5;have E6:=hid h6;clear h6;have E7:=hid h7;clear h7;have E8:=hid h8;clear h8;have E9:=hid h9;clear h9;have E10:=hid h10;clear h10;have HE:=hid hE;clear hE;go_enter Tryz.func27,Tryz.ntmps27;go_wp2_with fail;refine(heap_any _ c).mono ?_;rintro e w1 ⟨⟨a,b,rfl,hab,ha0,ha1,hb0,hb1⟩,hc⟩;have hk:Z0d c=true:=by have:=E3.out;simp only[Bool.and_eq_true] at this;exact this.1
  obtain⟨hab1,hab2⟩:=hab hk;subst hab1;subst hab2;clear hk;rw[E3.out];have hB:=(Blk.new w 32 c.cells).chg hc (by simp);obtain⟨q0,q1,q2,q3,q4,q5,q6,q7,q8,q9,q10,q11,q12⟩:=Z0v hB;have HC:=hid (((Chg.refl [] w).alloc _).trans hc (by simp));clear hB hc;go_wp2_with (go_at_call 28;refine(within_any _ _ _ _).mono ?_;rintro e w' ⟨rfl,rfl⟩;(first|rw[E1.out]|rw[E2.out]|rw[E4.out]|rw[E6.out]|rw[E7.out]|rw[E8.out]|rw[E9.out]|rw[E10.out]));go_ret;exact⟨Z0u HE.out.symm,HC.out⟩
theorem Zkk {c:Cfg} (h:(Z0d c && decide (Z0n c<=64))=false):win c.c0 0 64=false\/win c.c0 0 64=true/\(win c.c1 0 64=false\/win c.c1 0 64=true/\(win c.c2 0 64=false\/win c.c2 0 64=true/\(win c.c3 0 64=false\/win c.c3 0 64=true/\64<Z0n c))):=by
 unfold Z0d at h;revert h
 cases win c.c0 0 64 <;> cases win c.c1 0 64 <;> cases win c.c2 0 64 <;> cases win c.c3 0 64 <;> simp
theorem Z7s {c:Cfg} (h:(Z0d c && decide (Z0n c<=64))=true):(win c.c0 0 64=true/\win c.c1 0 64=true/\win c.c2 0 64=true/\win c.c3 0 64=true)/\Z0n c<=64:=by
 unfold Z0d at h;simpa [and_assoc] using h
theorem rcheck_any (w:World) (c:Cfg):Calls Tryz.prog 43 #[c.val] w (Z9k w c):=by
 rcases Z3t c with⟨h1|⟨h1,h2⟩,hE⟩|⟨⟨h1,h2⟩,h3|⟨h3,h4|⟨h4,h5⟩⟩,hE⟩|⟨⟨h1,h2⟩,⟨h3,h4,h5⟩,⟨h6|⟨h6,h7|⟨h7,h8|⟨h8,h9⟩⟩⟩,hE⟩|⟨⟨h6,h7,h8,h9⟩,⟨h10,hE⟩|⟨h10,hE⟩⟩⟩
 ·have HE:=hid hE
  clear hE;have E1:=hid h1;clear h1;go_enter Tryz.func43,Tryz.ntmps43;go_wp2_with (go_at_call 75;refine(rwithin_any _ _ _ _).mono ?_;rintro e w' ⟨rfl,rfl⟩;(first|rw[E1.out]));go_ret;exact⟨Z0u HE.out.symm,(Chg.refl [] w).alloc _⟩
 ·have HE:=hid hE
  clear hE;have E1:=hid h1;have E2:=hid h2;clear h1 h2;go_enter Tryz.func43,Tryz.ntmps43;go_wp2_with (go_at_call 75;refine(rwithin_any _ _ _ _).mono ?_;rintro e w' ⟨rfl,rfl⟩;(first|rw[E1.out]|rw[E2.out]));go_ret;exact⟨Z0u HE.out.symm,(Chg.refl [] w).alloc _⟩
 ·have HE:=hid hE
  clear hE;have E1:=hid h1;have E2:=hid h2;clear h1 h2;rcases Zkk h3 with h3a|⟨h3a,h3b|⟨h3b,h3c|⟨h3c,h3d|⟨h3d,h3e⟩⟩⟩⟩
  ·clear h3
   have E3a:=hid h3a;clear h3a;go_enter Tryz.func43,Tryz.ntmps43;go_wp2_with (go_at_call 75;refine(rwithin_any _ _ _ _).mono ?_;rintro e w' ⟨rfl,rfl⟩;(first|rw[E1.out]|rw[E2.out]|rw[E3a.out]));refine wp_loop_rounds 1 ?_;rw[rounds_succ];go_wp2_with (go_at_call 75;refine(rwithin_any _ _ _ _).mono ?_;rintro e w' ⟨rfl,rfl⟩;(first|rw[E1.out]|rw[E2.out]|rw[E3a.out]));go_ret;exact⟨Z0u HE.out.symm,(Chg.refl [] w).alloc _⟩
  ·clear h3
   have bc0:=win_true.1 h3a;have E3a:=hid h3a;have E3b:=hid h3b;clear h3a h3b;go_enter Tryz.func43,Tryz.ntmps43;go_wp2_with (go_at_call 75;refine(rwithin_any _ _ _ _).mono ?_;rintro e w' ⟨rfl,rfl⟩;(first|rw[E1.out]|rw[E2.out]|rw[E3a.out]|rw[E3b.out]));refine wp_loop_rounds 2 ?_;rw[rounds_succ];go_wp2_with (go_at_call 75;refine(rwithin_any _ _ _ _).mono ?_;rintro e w' ⟨rfl,rfl⟩;(first|rw[E1.out]|rw[E2.out]|rw[E3a.out]|rw[E3b.out]));rw[rounds_succ];go_wp2_with (go_at_call 75;refine(rwithin_any _ _ _ _).mono ?_;rintro e w' ⟨rfl,rfl⟩;(first|rw[E1.out]|rw[E2.out]|rw[E3a.out]|rw[E3b.out]));go_ret;exact⟨Z0u HE.out.symm,(Chg.refl [] w).alloc _⟩
  ·clear h3
   have bc0:=win_true.1 h3a;have bc1:=win_true.1 h3b;have E3a:=hid h3a;have E3b:=hid h3b;have E3c:=hid h3c;clear h3a h3b h3c;go_enter Tryz.func43,Tryz.ntmps43;go_wp2_with (go_at_call 75;refine(rwithin_any _ _ _ _).mono ?_;rintro e w' ⟨rfl,rfl⟩;(first|rw[E1.out]|rw[E2.out]|rw[E3a.out]|rw[E3b.out]|rw[E3c.out]));refine wp_loop_rounds 3 ?_;rw[rounds_succ];go_wp2_with (go_at_call 75;refine(rwithin_any _ _ _ _).mono ?_;rintro e w' ⟨rfl,rfl⟩;(first|rw[E1.out]|rw[E2.out]|rw[E3a.out]|rw[E3b.out]|rw[E3c.out]));rw[rounds_succ];go_wp2_with (go_at_call 75;refine(rwithin_any _ _ _ _).mono ?_;rintro e w' ⟨rfl,rfl⟩;(first|rw[E1.out]|rw[E2.out]|rw[E3a.out]|rw[E3b.out]|rw[E3c.out]));rw[rounds_succ];go_wp2_with (go_at_call 75;refine(rwithin_any _ _ _ _).mono ?_;rintro e w' ⟨rfl,rfl⟩;(first|rw[E1.out]|rw[E2.out]|rw[E3a.out]|rw[E3b.out]|rw[E3c.out]));go_ret;exact⟨Z0u HE.out.symm,(Chg.refl [] w).alloc _⟩
  ·clear h3
   have bc0:=win_true.1 h3a;have bc1:=win_true.1 h3b;have bc2:=win_true.1 h3c;have E3a:=hid h3a;have E3b:=hid h3b;have E3c:=hid h3c;have E3d:=hid h3d;clear h3a h3b h3c h3d;go_enter Tryz.func43,Tryz.ntmps43;go_wp2_with (go_at_call 75;refine(rwithin_any _ _ _ _).mono ?_;rintro e w' ⟨rfl,rfl⟩;(first|rw[E1.out]|rw[E2.out]|rw[E3a.out]|rw[E3b.out]|rw[E3c.out]|rw[E3d.out]));refine wp_loop_rounds 4 ?_;rw[rounds_succ];go_wp2_with (go_at_call 75;refine(rwithin_any _ _ _ _).mono ?_;rintro e w' ⟨rfl,rfl⟩;(first|rw[E1.out]|rw[E2.out]|rw[E3a.out]|rw[E3b.out]|rw[E3c.out]|rw[E3d.out]));rw[rounds_succ];go_wp2_with (go_at_call 75;refine(rwithin_any _ _ _ _).mono ?_;rintro e w' ⟨rfl,rfl⟩;(first|rw[E1.out]|rw[E2.out]|rw[E3a.out]|rw[E3b.out]|rw[E3c.out]|rw[E3d.out]));rw[rounds_succ];go_wp2_with (go_at_call 75;refine(rwithin_any _ _ _ _).mono ?_;rintro e w' ⟨rfl,rfl⟩;(first|rw[E1.out]|rw[E2.out]|rw[E3a.out]|rw[E3b.out]|rw[E3c.out]|rw[E3d.out]));rw[rounds_succ];go_wp2_with (go_at_call 75;refine(rwithin_any _ _ _ _).mono ?_;rintro e w' ⟨rfl,rfl⟩;(first|rw[E1.out]|rw[E2.out]|rw[E3a.out]|rw[E3b.out]|rw[E3c.out]|rw[E3d.out]));go_ret;exact⟨Z0u HE.out.symm,(Chg.refl [] w).alloc _⟩
  ·clear h3
   have bc0:=win_true.1 h3a;have bc1:=win_true.1 h3b;have bc2:=win_true.1 h3c;have bc3:=win_true.1 h3d;unfold Z0n at h3e;have E3a:=hid h3a;have E3b:=hid h3b;have E3c:=hid h3c;have E3d:=hid h3d;clear h3a h3b h3c h3d;go_enter Tryz.func43,Tryz.ntmps43;go_wp2_with (go_at_call 75;refine(rwithin_any _ _ _ _).mono ?_;rintro e w' ⟨rfl,rfl⟩;(first|rw[E1.out]|rw[E2.out]|rw[E3a.out]|rw[E3b.out]|rw[E3c.out]|rw[E3d.out]));refine wp_loop_rounds 5 ?_;rw[rounds_succ];go_wp2_with (go_at_call 75;refine(rwithin_any _ _ _ _).mono ?_;rintro e w' ⟨rfl,rfl⟩;(first|rw[E1.out]|rw[E2.out]|rw[E3a.out]|rw[E3b.out]|rw[E3c.out]|rw[E3d.out]));rw[rounds_succ];go_wp2_with (go_at_call 75;refine(rwithin_any _ _ _ _).mono ?_;rintro e w' ⟨rfl,rfl⟩;(first|rw[E1.out]|rw[E2.out]|rw[E3a.out]|rw[E3b.out]|rw[E3c.out]|rw[E3d.out]));rw[rounds_succ];go_wp2_with (go_at_call 75;refine(rwithin_any _ _ _ _).mono ?_;rintro e w' ⟨rfl,rfl⟩;(first|rw[E1.out]|rw[E2.out]|rw[E3a.out]|rw[E3b.out]|rw[E3c.out]|rw[E3d.out]));rw[rounds_succ];go_wp2_with (go_at_call 75;refine(rwithin_any _ _ _ _).mono ?_;rintro e w' ⟨rfl,rfl⟩;(first|rw[E1.out]|rw[E2.out]|rw[E3a.out]|rw[E3b.out]|rw[E3c.out]|rw[E3d.out]));rw[rounds_succ];go_wp2_with (go_at_call 75;refine(rwithin_any _ _ _ _).mono ?_;rintro e w' ⟨rfl,rfl⟩;(first|rw[E1.out]|rw[E2.out]|rw[E3a.out]|rw[E3b.out]|rw[E3c.out]|rw[E3d.out]));go_ret;exact⟨Z0u HE.out.symm,(Chg.refl [] w).alloc _⟩
 ·have HE:=hid hE
  clear hE;obtain⟨⟨h3a,h3b,h3c,h3d⟩,h3e⟩:=Z7s h3;clear h3;have bc0:=win_true.1 h3a;have bc1:=win_true.1 h3b;have bc2:=win_true.1 h3c;have bc3:=win_true.1 h3d;unfold Z0n at h3e;have E3a:=hid h3a;have E3b:=hid h3b;have E3c:=hid h3c;have E3d:=hid h3d;clear h3a h3b h3c h3d;have b1:=win_true.1 h1;have E1:=hid h1;have E2:=hid h2;have E4:=hid h4;clear h1 h2 h4;go_enter Tryz.func43,Tryz.ntmps43;go_wp2_with (go_at_call 75;refine(rwithin_any _ _ _ _).mono ?_;rintro e w' ⟨rfl,rfl⟩;(first|rw[E1.out]|rw[E2.out]|rw[E4.out]|rw[E3a.out]|rw[E3b.out]|rw[E3c.out]|rw[E3d.out]));refine wp_loop_rounds 5 ?_;rw[rounds_succ];go_wp2_with (go_at_call 75;refine(rwithin_any _ _ _ _).mono ?_;rintro e w' ⟨rfl,rfl⟩;(first|rw[E1.out]|rw[E2.out]|rw[E4.out]|rw[E3a.out]|rw[E3b.out]|rw[E3c.out]|rw[E3d.out]));rw[rounds_succ];go_wp2_with (go_at_call 75;refine(rwithin_any _ _ _ _).mono ?_;rintro e w' ⟨rfl,rfl⟩;(first|rw[E1.out]|rw[E2.out]|rw[E4.out]|rw[E3a.out]|rw[E3b.out]|rw[E3c.out]|rw[E3d.out]));rw[rounds_succ];go_wp2_with (go_at_call 75;refine(rwithin_any _ _ _ _).mono ?_;rintro e w' ⟨rfl,rfl⟩;(first|rw[E1.out]|rw[E2.out]|rw[E4.out]|rw[E3a.out]|rw[E3b.out]|rw[E3c.out]|rw[E3d.out]));rw[rounds_succ];go_wp2_with (go_at_call 75;refine(rwithin_any _ _ _ _).mono ?_;rintro e w' ⟨rfl,rfl⟩;(first|rw[E1.out]|rw[E2.out]|rw[E4.out]|rw[E3a.out]|rw[E3b.out]|rw[E3c.out]|rw[E3d.out]));rw[rounds_succ];go_wp2_with (go_at_call 75;refine(rwithin_any _ _ _ _).mono ?_;rintro e w' ⟨rfl,rfl⟩;(first|rw[E1.out]|rw[E2.out]|rw[E4.out]|rw[E3a.out]|rw[E3b.out]|rw[E3c.out]|rw[E3d.out]));go_ret;exact⟨Z0u HE.out.symm,(Chg.refl [] w).alloc _⟩
 ·have HE:=hid hE
  clear hE;obtain⟨⟨h3a,h3b,h3c,h3d⟩,h3e⟩:=Z7s h3;clear h3;have bc0:=win_true.1 h3a;have bc1:=win_true.1 h3b;have bc2:=win_true.1 h3c;have bc3:=win_true.1 h3d;unfold Z0n at h3e;have E3a:=hid h3a;have E3b:=hid h3b;have E3c:=hid h3c;have E3d:=hid h3d;clear h3a h3b h3c h3d;have b1:=win_true.1 h1;have b4:=win_true.1 h4;have b5:c.words<c.base+Z10 c:=by simpa using h5
  unfold Z10 at b5;clear h5;have E1:=hid h1;have E2:=hid h2;have E4:=hid h4;clear h1 h2 h4;go_enter Tryz.func43,Tryz.ntmps43;go_wp2_with (go_at_call 75;refine(rwithin_any _ _ _ _).mono ?_;rintro e w' ⟨rfl,rfl⟩;(first|rw[E1.out]|rw[E2.out]|rw[E4.out]|rw[E3a.out]|rw[E3b.out]|rw[E3c.out]|rw[E3d.out]));refine wp_loop_rounds 5 ?_;rw[rounds_succ];go_wp2_with (go_at_call 75;refine(rwithin_any _ _ _ _).mono ?_;rintro e w' ⟨rfl,rfl⟩;(first|rw[E1.out]|rw[E2.out]|rw[E4.out]|rw[E3a.out]|rw[E3b.out]|rw[E3c.out]|rw[E3d.out]));rw[rounds_succ];go_wp2_with (go_at_call 75;refine(rwithin_any _ _ _ _).mono ?_;rintro e w' ⟨rfl,rfl⟩;(first|rw[E1.out]|rw[E2.out]|rw[E4.out]|rw[E3a.out]|rw[E3b.out]|rw[E3c.out]|rw[E3d.out]));rw[rounds_succ];go_wp2_with (go_at_call 75;refine(rwithin_any _ _ _ _).mono ?_;rintro e w' ⟨rfl,rfl⟩;(first|rw[E1.out]|rw[E2.out]|rw[E4.out]|rw[E3a.out]|rw[E3b.out]|rw[E3c.out]|rw[E3d.out]));rw[rounds_succ];go_wp2_with (go_at_call 75;refine(rwithin_any _ _ _ _).mono ?_;rintro e w' ⟨rfl,rfl⟩;(first|rw[E1.out]|rw[E2.out]|rw[E4.out]|rw[E3a.out]|rw[E3b.out]|rw[E3c.out]|rw[E3d.out]));rw[rounds_succ];go_wp2_with (go_at_call 75;refine(rwithin_any _ _ _ _).mono ?_;rintro e w' ⟨rfl,rfl⟩;(first|rw[E1.out]|rw[E2.out]|rw[E4.out]|rw[E3a.out]|rw[E3b.out]|rw[E3c.out]|rw[E3d.out]));go_ret;exact⟨Z0u HE.out.symm,(Chg.refl [] w).alloc _⟩
 ·have HE:=hid hE
  clear hE;obtain⟨⟨h3a,h3b,h3c,h3d⟩,h3e⟩:=Z7s h3;clear h3;have bc0:=win_true.1 h3a;have bc1:=win_true.1 h3b;have bc2:=win_true.1 h3c;have bc3:=win_true.1 h3d;unfold Z0n at h3e;have E3a:=hid h3a;have E3b:=hid h3b;have E3c:=hid h3c;have E3d:=hid h3d;clear h3a h3b h3c h3d;have b1:=win_true.1 h1;have b4:=win_true.1 h4;have b5:c.base+Z10 c<=c.words:=by simpa using h5
  unfold Z10 at b5;clear h5;have E1:=hid h1;have E2:=hid h2;have E6:=hid h6;have E4:=hid h4;clear h1 h2 h6 h4;go_enter Tryz.func43,Tryz.ntmps43;go_wp2_with (go_at_call 75;refine(rwithin_any _ _ _ _).mono ?_;rintro e w' ⟨rfl,rfl⟩;(first|rw[E1.out]|rw[E2.out]|rw[E6.out]|rw[E4.out]|rw[E3a.out]|rw[E3b.out]|rw[E3c.out]|rw[E3d.out]));refine wp_loop_rounds 5 ?_;rw[rounds_succ];go_wp2_with (go_at_call 75;refine(rwithin_any _ _ _ _).mono ?_;rintro e w' ⟨rfl,rfl⟩;(first|rw[E1.out]|rw[E2.out]|rw[E6.out]|rw[E4.out]|rw[E3a.out]|rw[E3b.out]|rw[E3c.out]|rw[E3d.out]));rw[rounds_succ];go_wp2_with (go_at_call 75;refine(rwithin_any _ _ _ _).mono ?_;rintro e w' ⟨rfl,rfl⟩;(first|rw[E1.out]|rw[E2.out]|rw[E6.out]|rw[E4.out]|rw[E3a.out]|rw[E3b.out]|rw[E3c.out]|rw[E3d.out]));rw[rounds_succ];go_wp2_with (go_at_call 75;refine(rwithin_any _ _ _ _).mono ?_;rintro e w' ⟨rfl,rfl⟩;(first|rw[E1.out]|rw[E2.out]|rw[E6.out]|rw[E4.out]|rw[E3a.out]|rw[E3b.out]|rw[E3c.out]|rw[E3d.out]));rw[rounds_succ];go_wp2_with (go_at_call 75;refine(rwithin_any _ _ _ _).mono ?_;rintro e w' ⟨rfl,rfl⟩;(first|rw[E1.out]|rw[E2.out]|rw[E6.out]|rw[E4.out]|rw[E3a.out]|rw[E3b.out]|rw[E3c.out]|rw[E3d.out]));rw[rounds_succ];go_wp2_with (go_at_call 75;refine(rwithin_any _ _ _ _).mono ?_;rintro e w' ⟨rfl,rfl⟩;(first|rw[E1.out]|rw[E2.out]|rw[E6.out]|rw[E4.out]|rw[E3a.out]|rw[E3b.out]|rw[E3c.out]|rw[E3d.out]));go_ret;exact⟨Z0u HE.out.symm,(Chg.refl [] w).alloc _⟩
 ·have HE:=hid hE
  clear hE;obtain⟨⟨h3a,h3b,h3c,h3d⟩,h3e⟩:=Z7s h3;clear h3;have bc0:=win_true.1 h3a;have bc1:=win_true.1 h3b;have bc2:=win_true.1 h3c;have bc3:=win_true.1 h3d;unfold Z0n at h3e;have E3a:=hid h3a;have E3b:=hid h3b;have E3c:=hid h3c;have E3d:=hid h3d;clear h3a h3b h3c h3d;have b1:=win_true.1 h1;have b4:=win_true.1 h4;have b5:c.base+Z10 c<=c.words:=by simpa using h5
  unfold Z10 at b5;clear h5;have E1:=hid h1;have E2:=hid h2;have E6:=hid h6;have E7:=hid h7;have E4:=hid h4;clear h1 h2 h6 h7 h4;go_enter Tryz.func43,Tryz.ntmps43;go_wp2_with (go_at_call 75;refine(rwithin_any _ _ _ _).mono ?_;rintro e w' ⟨rfl,rfl⟩;(first|rw[E1.out]|rw[E2.out]|rw[E6.out]|rw[E7.out]|rw[E4.out]|rw[E3a.out]|rw[E3b.out]|rw[E3c.out]|rw[E3d.out]));refine wp_loop_rounds 5 ?_;rw[rounds_succ];go_wp2_with (go_at_call 75;refine(rwithin_any _ _ _ _).mono ?_;rintro e w' ⟨rfl,rfl⟩;(first|rw[E1.out]|rw[E2.out]|rw[E6.out]|rw[E7.out]|rw[E4.out]|rw[E3a.out]|rw[E3b.out]|rw[E3c.out]|rw[E3d.out]));rw[rounds_succ];go_wp2_with (go_at_call 75;refine(rwithin_any _ _ _ _).mono ?_;rintro e w' ⟨rfl,rfl⟩;(first|rw[E1.out]|rw[E2.out]|rw[E6.out]|rw[E7.out]|rw[E4.out]|rw[E3a.out]|rw[E3b.out]|rw[E3c.out]|rw[E3d.out]));rw[rounds_succ];go_wp2_with (go_at_call 75;refine(rwithin_any _ _ _ _).mono ?_;rintro e w' ⟨rfl,rfl⟩;(first|rw[E1.out]|rw[E2.out]|rw[E6.out]|rw[E7.out]|rw[E4.out]|rw[E3a.out]|rw[E3b.out]|rw[E3c.out]|rw[E3d.out]));rw[rounds_succ];go_wp2_with (go_at_call 75;refine(rwithin_any _ _ _ _).mono ?_;rintro e w' ⟨rfl,rfl⟩;(first|rw[E1.out]|rw[E2.out]|rw[E6.out]|rw[E7.out]|rw[E4.out]|rw[E3a.out]|rw[E3b.out]|rw[E3c.out]|rw[E3d.out]));rw[rounds_succ];go_wp2_with (go_at_call 75;refine(rwithin_any _ _ _ _).mono ?_;rintro e w' ⟨rfl,rfl⟩;(first|rw[E1.out]|rw[E2.out]|rw[E6.out]|rw[E7.out]|rw[E4.out]|rw[E3a.out]|rw[E3b.out]|rw[E3c.out]|rw[E3d.out]));go_ret;exact⟨Z0u HE.out.symm,(Chg.refl [] w).alloc _⟩
 ·have HE:=hid hE
  clear hE;obtain⟨⟨h3a,h3b,h3c,h3d⟩,h3e⟩:=Z7s h3;clear h3;have bc0:=win_true.1 h3a;have bc1:=win_true.1 h3b;have bc2:=win_true.1 h3c;have bc3:=win_true.1 h3d;unfold Z0n at h3e;have E3a:=hid h3a;have E3b:=hid h3b;have E3c:=hid h3c;have E3d:=hid h3d;clear h3a h3b h3c h3d;have b1:=win_true.1 h1;have b4:=win_true.1 h4;have b5:c.base+Z10 c<=c.words:=by simpa using h5
  unfold Z10 at b5;clear h5;have E1:=hid h1;have E2:=hid h2;have E6:=hid h6;have E7:=hid h7;have E8:=hid h8;have E4:=hid h4;clear h1 h2 h6 h7 h8 h4;go_enter Tryz.func43,Tryz.ntmps43;go_wp2_with (go_at_call 75;refine(rwithin_any _ _ _ _).mono ?_;rintro e w' ⟨rfl,rfl⟩;(first|rw[E1.out]|rw[E2.out]|rw[E6.out]|rw[E7.out]|rw[E8.out]|rw[E4.out]|rw[E3a.out]|rw[E3b.out]|rw[E3c.out]|rw[E3d.out]));refine wp_loop_rounds 5 ?_;rw[rounds_succ];go_wp2_with (go_at_call 75;refine(rwithin_any _ _ _ _).mono ?_;rintro e w' ⟨rfl,rfl⟩;(first|rw[E1.out]|rw[E2.out]|rw[E6.out]|rw[E7.out]|rw[E8.out]|rw[E4.out]|rw[E3a.out]|rw[E3b.out]|rw[E3c.out]|rw[E3d.out]));rw[rounds_succ];go_wp2_with (go_at_call 75;refine(rwithin_any _ _ _ _).mono ?_;rintro e w' ⟨rfl,rfl⟩;(first|rw[E1.out]|rw[E2.out]|rw[E6.out]|rw[E7.out]|rw[E8.out]|rw[E4.out]|rw[E3a.out]|rw[E3b.out]|rw[E3c.out]|rw[E3d.out]));rw[rounds_succ];go_wp2_with (go_at_call 75;refine(rwithin_any _ _ _ _).mono ?_;rintro e w' ⟨rfl,rfl⟩;(first|rw[E1.out]|rw[E2.out]|rw[E6.out]|rw[E7.out]|rw[E8.out]|rw[E4.out]|rw[E3a.out]|rw[E3b.out]|rw[E3c.out]|rw[E3d.out]));rw[rounds_succ];go_wp2_with (go_at_call 75;refine(rwithin_any _ _ _ _).mono ?_;rintro e w' ⟨rfl,rfl⟩;(first|rw[E1.out]|rw[E2.out]|rw[E6.out]|rw[E7.out]|rw[E8.out]|rw[E4.out]|rw[E3a.out]|rw[E3b.out]|rw[E3c.out]|rw[E3d.out]));rw[rounds_succ];go_wp2_with (go_at_call 75;refine(rwithin_any _ _ _ _).mono ?_;rintro e w' ⟨rfl,rfl⟩;(first|rw[E1.out]|rw[E2.out]|rw[E6.out]|rw[E7.out]|rw[E8.out]|rw[E4.out]|rw[E3a.out]|rw[E3b.out]|rw[E3c.out]|rw[E3d.out]));go_ret;exact⟨Z0u HE.out.symm,(Chg.refl [] w).alloc _⟩
 ·have HE:=hid hE
  clear hE;obtain⟨⟨h3a,h3b,h3c,h3d⟩,h3e⟩:=Z7s h3;clear h3;have bc0:=win_true.1 h3a;have bc1:=win_true.1 h3b;have bc2:=win_true.1 h3c;have bc3:=win_true.1 h3d;unfold Z0n at h3e;have E3a:=hid h3a;have E3b:=hid h3b;have E3c:=hid h3c;have E3d:=hid h3d;clear h3a h3b h3c h3d;have b1:=win_true.1 h1;have b4:=win_true.1 h4;have b5:c.base+Z10 c<=c.words:=by simpa using h5
  unfold Z10 at b5;clear h5;have E1:=hid h1;have E2:=hid h2;have E6:=hid h6;have E7:=hid h7;have E8:=hid h8;have E9:=hid h9;have E4:=hid h4;clear h1 h2 h6 h7 h8 h9 h4;go_enter Tryz.func43,Tryz.ntmps43;go_wp2_with (go_at_call 75;refine(rwithin_any _ _ _ _).mono ?_;rintro e w' ⟨rfl,rfl⟩;(first|rw[E1.out]|rw[E2.out]|rw[E6.out]|rw[E7.out]|rw[E8.out]|rw[E9.out]|rw[E4.out]|rw[E3a.out]|rw[E3b.out]|rw[E3c.out]|rw[E3d.out]));refine wp_loop_rounds 5 ?_;rw[rounds_succ];go_wp2_with (go_at_call 75;refine(rwithin_any _ _ _ _).mono ?_;rintro e w' ⟨rfl,rfl⟩;(first|rw[E1.out]|rw[E2.out]|rw[E6.out]|rw[E7.out]|rw[E8.out]|rw[E9.out]|rw[E4.out]|rw[E3a.out]|rw[E3b.out]|rw[E3c.out]|rw[E3d.out]));rw[rounds_succ];go_wp2_with (go_at_call 75;refine(rwithin_any _ _ _ _).mono ?_;rintro e w' ⟨rfl,rfl⟩;(first|rw[E1.out]|rw[E2.out]|rw[E6.out]|rw[E7.out]|rw[E8.out]|rw[E9.out]|rw[E4.out]|rw[E3a.out]|rw[E3b.out]|rw[E3c.out]|rw[E3d.out]));rw[rounds_succ];go_wp2_with (go_at_call 75;refine(rwithin_any _ _ _ _).mono ?_;rintro e w' ⟨rfl,rfl⟩;(first|rw[E1.out]|rw[E2.out]|rw[E6.out]|rw[E7.out]|rw[E8.out]|rw[E9.out]|rw[E4.out]|rw[E3a.out]|rw[E3b.out]|rw[E3c.out]|rw[E3d.out]));rw[rounds_succ];go_wp2_with (go_at_call 75;refine(rwithin_any _ _ _ _).mono ?_;rintro e w' ⟨rfl,rfl⟩;(first|rw[E1.out]|rw[E2.out]|rw[E6.out]|rw[E7.out]|rw[E8.out]|rw[E9.out]|rw[E4.out]|rw[E3a.out]|rw[E3b.out]|rw[E3c.out]|rw[E3d.out]));rw[rounds_succ];go_wp2_with (go_at_call 75;refine(rwithin_any _ _ _ _).mono ?_;rintro e w' ⟨rfl,rfl⟩;(first|rw[E1.out]|rw[E2.out]|rw[E6.out]|rw[E7.out]|rw[E8.out]|rw[E9.out]|rw[E4.out]|rw[E3a.out]|rw[E3b.out]|rw[E3c.out]|rw[E3d.out]));go_ret;exact⟨Z0u HE.out.symm,(Chg.refl [] w).alloc _⟩
 ·have HE:=hid hE
  clear hE;obtain⟨⟨h3a,h3b,h3c,h3d⟩,h3e⟩:=Z7s h3;clear h3;have bc0:=win_true.1 h3a;have bc1:=win_true.1 h3b;have bc2:=win_true.1 h3c;have bc3:=win_true.1 h3d;unfold Z0n at h3e;have E3a:=hid h3a;have E3b:=hid h3b;have E3c:=hid h3c;have E3d:=hid h3d;clear h3a h3b h3c h3d;have b1:=win_true.1 h1;have b4:=win_true.1 h4;have b5:c.base+Z10 c<=c.words:=by simpa using h5
  unfold Z10 at b5;clear h5;have E1:=hid h1;have E2:=hid h2;have E6:=hid h6;have E7:=hid h7;have E8:=hid h8;have E9:=hid h9;have E10:=hid h10;have E4:=hid h4;clear h1 h2 h6 h7 h8 h9 h10 h4;go_enter Tryz.func43,Tryz.ntmps43;go_wp2_with (go_at_call 75;refine(rwithin_any _ _ _ _).mono ?_;rintro e w' ⟨rfl,rfl⟩;(first|rw[E1.out]|rw[E2.out]|rw[E6.out]|rw[E7.out]|rw[E8.out]|rw[E9.out]|rw[E10.out]|rw[E4.out]|rw[E3a.out]|rw[E3b.out]|rw[E3c.out]|rw[E3d.out]));refine wp_loop_rounds 5 ?_;rw[rounds_succ];go_wp2_with (go_at_call 75;refine(rwithin_any _ _ _ _).mono ?_;rintro e w' ⟨rfl,rfl⟩;(first|rw[E1.out]|rw[E2.out]|rw[E6.out]|rw[E7.out]|rw[E8.out]|rw[E9.out]|rw[E10.out]|rw[E4.out]|rw[E3a.out]|rw[E3b.out]|rw[E3c.out]|rw[E3d.out]));rw[rounds_succ];go_wp2_with (go_at_call 75;refine(rwithin_any _ _ _ _).mono ?_;rintro e w' ⟨rfl,rfl⟩;(first|rw[E1.out]|rw[E2.out]|rw[E6.out]|rw[E7.out]|rw[E8.out]|rw[E9.out]|rw[E10.out]|rw[E4.out]|rw[E3a.out]|rw[E3b.out]|rw[E3c.out]|rw[E3d.out]));rw[rounds_succ];go_wp2_with (go_at_call 75;refine(rwithin_any _ _ _ _).mono ?_;rintro e w' ⟨rfl,rfl⟩;(first|rw[E1.out]|rw[E2.out]|rw[E6.out]|rw[E7.out]|rw[E8.out]|rw[E9.out]|rw[E10.out]|rw[E4.out]|rw[E3a.out]|rw[E3b.out]|rw[E3c.out]|rw[E3d.out]));rw[rounds_succ];go_wp2_with (go_at_call 75;refine(rwithin_any _ _ _ _).mono ?_;rintro e w' ⟨rfl,rfl⟩;(first|rw[E1.out]|rw[E2.out]|rw[E6.out]|rw[E7.out]|rw[E8.out]|rw[E9.out]|rw[E10.out]|rw[E4.out]|rw[E3a.out]|rw[E3b.out]|rw[E3c.out]|rw[E3d.out]));rw[rounds_succ];go_wp2_with (go_at_call 75;refine(rwithin_any _ _ _ _).mono ?_;rintro e w' ⟨rfl,rfl⟩;(first|rw[E1.out]|rw[E2.out]|rw[E6.out]|rw[E7.out]|rw[E8.out]|rw[E9.out]|rw[E10.out]|rw[E4.out]|rw[E3a.out]|rw[E3b.out]|rw[E3c.out]|rw[E3d.out]));go_ret;exact⟨Z0u HE.out.symm,(Chg.refl [] w).alloc _⟩
 ·have HE:=hid hE
  clear hE;obtain⟨⟨h3a,h3b,h3c,h3d⟩,h3e⟩:=Z7s h3;clear h3;have bc0:=win_true.1 h3a;have bc1:=win_true.1 h3b;have bc2:=win_true.1 h3c;have bc3:=win_true.1 h3d;unfold Z0n at h3e;have E3a:=hid h3a;have E3b:=hid h3b;have E3c:=hid h3c;have E3d:=hid h3d;clear h3a h3b h3c h3d;have b1:=win_true.1 h1;have b4:=win_true.1 h4;have b5:c.base+Z10 c<=c.words:=by simpa using h5
  unfold Z10 at b5;clear h5;have E1:=hid h1;have E2:=hid h2;have E6:=hid h6;have E7:=hid h7;have E8:=hid h8;have E9:=hid h9;have E10:=hid h10;have E4:=hid h4;clear h1 h2 h6 h7 h8 h9 h10 h4;go_enter Tryz.func43,Tryz.ntmps43;go_wp2_with (go_at_call 75;refine(rwithin_any _ _ _ _).mono ?_;rintro e w' ⟨rfl,rfl⟩;(first|rw[E1.out]|rw[E2.out]|rw[E6.out]|rw[E7.out]|rw[E8.out]|rw[E9.out]|rw[E10.out]|rw[E4.out]|rw[E3a.out]|rw[E3b.out]|rw[E3c.out]|rw[E3d.out]));refine wp_loop_rounds 5 ?_;rw[rounds_succ];go_wp2_with (go_at_call 75;refine(rwithin_any _ _ _ _).mono ?_;rintro e w' ⟨rfl,rfl⟩;(first|rw[E1.out]|rw[E2.out]|rw[E6.out]|rw[E7.out]|rw[E8.out]|rw[E9.out]|rw[E10.out]|rw[E4.out]|rw[E3a.out]|rw[E3b.out]|rw[E3c.out]|rw[E3d.out]));rw[rounds_succ];go_wp2_with (go_at_call 75;refine(rwithin_any _ _ _ _).mono ?_;rintro e w' ⟨rfl,rfl⟩;(first|rw[E1.out]|rw[E2.out]|rw[E6.out]|rw[E7.out]|rw[E8.out]|rw[E9.out]|rw[E10.out]|rw[E4.out]|rw[E3a.out]|rw[E3b.out]|rw[E3c.out]|rw[E3d.out]));rw[rounds_succ];go_wp2_with (go_at_call 75;refine(rwithin_any _ _ _ _).mono ?_;rintro e w' ⟨rfl,rfl⟩;(first|rw[E1.out]|rw[E2.out]|rw[E6.out]|rw[E7.out]|rw[E8.out]|rw[E9.out]|rw[E10.out]|rw[E4.out]|rw[E3a.out]|rw[E3b.out]|rw[E3c.out]|rw[E3d.out]));rw[rounds_succ];go_wp2_with (go_at_call 75;refine(rwithin_any _ _ _ _).mono ?_;rintro e w' ⟨rfl,rfl⟩;(first|rw[E1.out]|rw[E2.out]|rw[E6.out]|rw[E7.out]|rw[E8.out]|rw[E9.out]|rw[E10.out]|rw[E4.out]|rw[E3a.out]|rw[E3b.out]|rw[E3c.out]|rw[E3d.out]));rw[rounds_succ];go_wp2_with (go_at_call 75;refine(rwithin_any _ _ _ _).mono ?_;rintro e w' ⟨rfl,rfl⟩;(first|rw[E1.out]|rw[E2.out]|rw[E6.out]|rw[E7.out]|rw[E8.out]|rw[E9.out]|rw[E10.out]|rw[E4.out]|rw[E3a.out]|rw[E3b.out]|rw[E3c.out]|rw[E3d.out]));go_ret;exact⟨Z0u HE.out.symm,(Chg.refl [] w).alloc _⟩
end Go.Proofs.YtmlfangeanmmeaaGreatDoor
namespace Go.Proofs.YtmlfangeanmmeaaGreatDoor
open Go
structure InsR where
 op:Int
 a:Int
 b:Int
 c:Int
 imm:Int
abbrev InsR.cells (i:InsR):Array Value:=#[.int .i64 i.op,.int .i64 i.a,.int .i64 i.b,.int .i64 i.c,.int .i64 i.imm]
abbrev InsR.val (i:InsR):Value:=.agg i.cells
def upR (r:Nat->Int) (k:Nat) (v:Int):Nat->Int:=fun j=>if j=k then v else r j
def lgO (c:Cfg) (L:PL):List Int:=L.addrs.map fun a=>a%c.orecs
end Go.Proofs.YtmlfangeanmmeaaGreatDoor
namespace Go.Proofs.YtmlfangeanmmeaaGreatDoor
structure ObR where
 pc:Int
 kind:Int
 val:Int
end Go.Proofs.YtmlfangeanmmeaaGreatDoor
