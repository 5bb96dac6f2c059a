/-
 What the proof of TopAlone leans on, part 12 of 49: At. No statement of its own.
-/
import Derived.Test.YtmlfangeanmmeaaGreatDoorAm9
import Derived.Test.YtmlfangeanmmeaaGreatDoorAm10
import Derived.Test.YtmlfangeanmmeaaGreatDoorAm11
set_option maxHeartbeats 16000000
set_option maxRecDepth 8000
set_option linter.unusedVariables false
namespace Go.Proofs.YtmlfangeanmmeaaGreatDoor
open Go.RowKit
theorem Hold.Zm4 {w0 w:World} {R:Asr} {t:TypeId} {g n:Nat} {F G:Nat->Value} (h:Hold w0 w (fnA t g n F*R)) (e:fnA t g n F=fnA t g n G):Hold w0 w (fnA t g n G*R):=e ▸ h
structure AtR where
 set:Nat
 log:Nat
 seen:Value
 allocs:Value
 frees:Value
 enter:Value
 read:Value
 loads:Int
 pop:Value
 lock:Value
 turn:Value
 check:Value
 write:Value
 release:Value
 push:Value
 th:Int
 state:Int
 code:Int
 at_:Int
 then_:Value
 use_:Value
 addr:Int
 value:Int
 orecs:Value
 clock:Int
 decided:Bool
 pushed:Int
def atL (c:Cfg) (x:AtR):List Value:=[.pointer (some ⟨x.set,0,none⟩),.pointer (some ⟨x.log,0,none⟩),x.seen,x.allocs,x.frees,x.enter,x.read,.int .i64 x.loads,x.pop,x.lock,x.turn,x.check,x.write,x.release,x.push,.int .i64 c.words,.int .i64 c.orecs,.int .i64 c.base,.int .i64 c.c0,.int .i64 c.c1,.int .i64 c.c2,.int .i64 c.c3,.int .i64 c.reads,.int .i64 c.writes,.int .i64 c.allocs,.int .i64 c.frees,.int .i64 c.clock,.bool c.strong,.int .i64 x.th,.int .i64 x.state,.int .i64 x.code,.int .i64 x.at_,x.then_,x.use_,.int .i64 x.addr,.int .u64 x.value,x.orecs,.int .u64 x.clock,.bool x.decided,.int .i64 x.pushed]
def atF (c:Cfg) (x:AtR) (i:Nat):Value:=(atL c x).getD i undef
def atA (g:Nat) (c:Cfg) (x:AtR):Asr:=fnA 155 g 40 (atF c x)
section
variable {w0 w:World} {R:Asr} {g:Nat} {c:Cfg} {x:AtR}
theorem Hold.atZ (h:Hold w0 w (atA g c x*R)) (i:Nat):w.frozen? ⟨g,i,none⟩=false:=Z22 h i
theorem Hold.atNew (h:Hold w0 w R) (c:Cfg) (x:AtR):Hold w0 (w.alloc (.cells (atL c x).toArray 155)) (atA w.heap.size c x*R):=by
 have e:((List.range 40).map (atF c x)).toArray=(atL c x).toArray:=by kernel_rfl
 have h1:=Zhr h 155 40 (atF c x);rw[e] at h1;exact h1
theorem Hold.at_set (h:Hold w0 w (atA g c x*R)):w.cell? ⟨g,0,none⟩=some (.pointer (some ⟨x.set,0,none⟩)):=Z0g h (by decide)
theorem Hold.at_log (h:Hold w0 w (atA g c x*R)):w.cell? ⟨g,1,none⟩=some (.pointer (some ⟨x.log,0,none⟩)):=Z0g h (by decide)
theorem Hold.at_seen (h:Hold w0 w (atA g c x*R)):w.cell? ⟨g,2,none⟩=some (x.seen):=Z0g h (by decide)
theorem Hold.at_seen_set (h:Hold w0 w (atA g c x*R)) (v:Value):Hold w0 (w.setCell ⟨g,2,none⟩ (v)) (atA g c {x with seen:=v}*R):=(Z0p h (i:=2) (by decide) _).Zm4 (by kernel_rfl)
theorem Hold.at_allocs (h:Hold w0 w (atA g c x*R)):w.cell? ⟨g,3,none⟩=some (x.allocs):=Z0g h (by decide)
theorem Hold.at_allocs_set (h:Hold w0 w (atA g c x*R)) (v:Value):Hold w0 (w.setCell ⟨g,3,none⟩ (v)) (atA g c {x with allocs:=v}*R):=(Z0p h (i:=3) (by decide) _).Zm4 (by kernel_rfl)
theorem Hold.at_frees (h:Hold w0 w (atA g c x*R)):w.cell? ⟨g,4,none⟩=some (x.frees):=Z0g h (by decide)
theorem Hold.at_frees_set (h:Hold w0 w (atA g c x*R)) (v:Value):Hold w0 (w.setCell ⟨g,4,none⟩ (v)) (atA g c {x with frees:=v}*R):=(Z0p h (i:=4) (by decide) _).Zm4 (by kernel_rfl)
theorem Hold.at_enter (h:Hold w0 w (atA g c x*R)):w.cell? ⟨g,5,none⟩=some (x.enter):=Z0g h (by decide)
theorem Hold.at_enter_set (h:Hold w0 w (atA g c x*R)) (v:Value):Hold w0 (w.setCell ⟨g,5,none⟩ (v)) (atA g c {x with enter:=v}*R):=(Z0p h (i:=5) (by decide) _).Zm4 (by kernel_rfl)
theorem Hold.Zm0 (h:Hold w0 w (atA g c x*R)):w.cell? ⟨g,6,none⟩=some (x.read):=Z0g h (by decide)
theorem Hold.at_read_set (h:Hold w0 w (atA g c x*R)) (v:Value):Hold w0 (w.setCell ⟨g,6,none⟩ (v)) (atA g c {x with read:=v}*R):=(Z0p h (i:=6) (by decide) _).Zm4 (by kernel_rfl)
theorem Hold.Zm1 (h:Hold w0 w (atA g c x*R)):w.cell? ⟨g,7,none⟩=some (.int .i64 x.loads):=Z0g h (by decide)
theorem Hold.Zm2 (h:Hold w0 w (atA g c x*R)) (v:Int):Hold w0 (w.setCell ⟨g,7,none⟩ (.int .i64 v)) (atA g c {x with loads:=v}*R):=(Z0p h (i:=7) (by decide) _).Zm4 (by kernel_rfl)
theorem Hold.at_pop (h:Hold w0 w (atA g c x*R)):w.cell? ⟨g,8,none⟩=some (x.pop):=Z0g h (by decide)
theorem Hold.at_pop_set (h:Hold w0 w (atA g c x*R)) (v:Value):Hold w0 (w.setCell ⟨g,8,none⟩ (v)) (atA g c {x with pop:=v}*R):=(Z0p h (i:=8) (by decide) _).Zm4 (by kernel_rfl)
theorem Hold.at_lock (h:Hold w0 w (atA g c x*R)):w.cell? ⟨g,9,none⟩=some (x.lock):=Z0g h (by decide)
theorem Hold.at_lock_set (h:Hold w0 w (atA g c x*R)) (v:Value):Hold w0 (w.setCell ⟨g,9,none⟩ (v)) (atA g c {x with lock:=v}*R):=(Z0p h (i:=9) (by decide) _).Zm4 (by kernel_rfl)
theorem Hold.at_turn (h:Hold w0 w (atA g c x*R)):w.cell? ⟨g,10,none⟩=some (x.turn):=Z0g h (by decide)
theorem Hold.at_turn_set (h:Hold w0 w (atA g c x*R)) (v:Value):Hold w0 (w.setCell ⟨g,10,none⟩ (v)) (atA g c {x with turn:=v}*R):=(Z0p h (i:=10) (by decide) _).Zm4 (by kernel_rfl)
theorem Hold.Zm3 (h:Hold w0 w (atA g c x*R)):w.cell? ⟨g,11,none⟩=some (x.check):=Z0g h (by decide)
theorem Hold.at_check_set (h:Hold w0 w (atA g c x*R)) (v:Value):Hold w0 (w.setCell ⟨g,11,none⟩ (v)) (atA g c {x with check:=v}*R):=(Z0p h (i:=11) (by decide) _).Zm4 (by kernel_rfl)
theorem Hold.at_write (h:Hold w0 w (atA g c x*R)):w.cell? ⟨g,12,none⟩=some (x.write):=Z0g h (by decide)
theorem Hold.at_write_set (h:Hold w0 w (atA g c x*R)) (v:Value):Hold w0 (w.setCell ⟨g,12,none⟩ (v)) (atA g c {x with write:=v}*R):=(Z0p h (i:=12) (by decide) _).Zm4 (by kernel_rfl)
theorem Hold.at_release (h:Hold w0 w (atA g c x*R)):w.cell? ⟨g,13,none⟩=some (x.release):=Z0g h (by decide)
theorem Hold.at_release_set (h:Hold w0 w (atA g c x*R)) (v:Value):Hold w0 (w.setCell ⟨g,13,none⟩ (v)) (atA g c {x with release:=v}*R):=(Z0p h (i:=13) (by decide) _).Zm4 (by kernel_rfl)
theorem Hold.at_push (h:Hold w0 w (atA g c x*R)):w.cell? ⟨g,14,none⟩=some (x.push):=Z0g h (by decide)
theorem Hold.at_push_set (h:Hold w0 w (atA g c x*R)) (v:Value):Hold w0 (w.setCell ⟨g,14,none⟩ (v)) (atA g c {x with push:=v}*R):=(Z0p h (i:=14) (by decide) _).Zm4 (by kernel_rfl)
theorem Hold.at_words (h:Hold w0 w (atA g c x*R)):w.cell? ⟨g,15,none⟩=some (.int .i64 c.words):=Z0g h (by decide)
theorem Hold.at_allocn (h:Hold w0 w (atA g c x*R)):w.cell? ⟨g,24,none⟩=some (.int .i64 c.allocs):=Z0g h (by decide)
theorem Hold.at_clockn (h:Hold w0 w (atA g c x*R)):w.cell? ⟨g,26,none⟩=some (.int .i64 c.clock):=Z0g h (by decide)
theorem Hold.at_th (h:Hold w0 w (atA g c x*R)):w.cell? ⟨g,28,none⟩=some (.int .i64 x.th):=Z0g h (by decide)
theorem Hold.at_state (h:Hold w0 w (atA g c x*R)):w.cell? ⟨g,29,none⟩=some (.int .i64 x.state):=Z0g h (by decide)
theorem Hold.at_state_set (h:Hold w0 w (atA g c x*R)) (v:Int):Hold w0 (w.setCell ⟨g,29,none⟩ (.int .i64 v)) (atA g c {x with state:=v}*R):=(Z0p h (i:=29) (by decide) _).Zm4 (by kernel_rfl)
theorem Hold.at_code (h:Hold w0 w (atA g c x*R)):w.cell? ⟨g,30,none⟩=some (.int .i64 x.code):=Z0g h (by decide)
theorem Hold.at_code_set (h:Hold w0 w (atA g c x*R)) (v:Int):Hold w0 (w.setCell ⟨g,30,none⟩ (.int .i64 v)) (atA g c {x with code:=v}*R):=(Z0p h (i:=30) (by decide) _).Zm4 (by kernel_rfl)
theorem Hold.Zly (h:Hold w0 w (atA g c x*R)):w.cell? ⟨g,31,none⟩=some (.int .i64 x.at_):=Z0g h (by decide)
theorem Hold.Zlx (h:Hold w0 w (atA g c x*R)) (v:Int):Hold w0 (w.setCell ⟨g,31,none⟩ (.int .i64 v)) (atA g c {x with at_:=v}*R):=(Z0p h (i:=31) (by decide) _).Zm4 (by kernel_rfl)
theorem Hold.at_then_ (h:Hold w0 w (atA g c x*R)):w.cell? ⟨g,32,none⟩=some (x.then_):=Z0g h (by decide)
theorem Hold.at_use_ (h:Hold w0 w (atA g c x*R)):w.cell? ⟨g,33,none⟩=some (x.use_):=Z0g h (by decide)
theorem Hold.at_addr (h:Hold w0 w (atA g c x*R)):w.cell? ⟨g,34,none⟩=some (.int .i64 x.addr):=Z0g h (by decide)
theorem Hold.at_addr_set (h:Hold w0 w (atA g c x*R)) (v:Int):Hold w0 (w.setCell ⟨g,34,none⟩ (.int .i64 v)) (atA g c {x with addr:=v}*R):=(Z0p h (i:=34) (by decide) _).Zm4 (by kernel_rfl)
theorem Hold.at_value (h:Hold w0 w (atA g c x*R)):w.cell? ⟨g,35,none⟩=some (.int .u64 x.value):=Z0g h (by decide)
theorem Hold.at_value_set (h:Hold w0 w (atA g c x*R)) (v:Int):Hold w0 (w.setCell ⟨g,35,none⟩ (.int .u64 v)) (atA g c {x with value:=v}*R):=(Z0p h (i:=35) (by decide) _).Zm4 (by kernel_rfl)
theorem Hold.Zlz (h:Hold w0 w (atA g c x*R)):w.cell? ⟨g,36,none⟩=some (x.orecs):=Z0g h (by decide)
theorem Hold.at_orecs_set (h:Hold w0 w (atA g c x*R)) (v:Value):Hold w0 (w.setCell ⟨g,36,none⟩ (v)) (atA g c {x with orecs:=v}*R):=(Z0p h (i:=36) (by decide) _).Zm4 (by kernel_rfl)
theorem Hold.at_clock (h:Hold w0 w (atA g c x*R)):w.cell? ⟨g,37,none⟩=some (.int .u64 x.clock):=Z0g h (by decide)
theorem Hold.at_clock_set (h:Hold w0 w (atA g c x*R)) (v:Int):Hold w0 (w.setCell ⟨g,37,none⟩ (.int .u64 v)) (atA g c {x with clock:=v}*R):=(Z0p h (i:=37) (by decide) _).Zm4 (by kernel_rfl)
theorem Hold.at_decided (h:Hold w0 w (atA g c x*R)):w.cell? ⟨g,38,none⟩=some (.bool x.decided):=Z0g h (by decide)
theorem Hold.at_decided_set (h:Hold w0 w (atA g c x*R)) (v:Bool):Hold w0 (w.setCell ⟨g,38,none⟩ (.bool v)) (atA g c {x with decided:=v}*R):=(Z0p h (i:=38) (by decide) _).Zm4 (by kernel_rfl)
theorem Hold.at_pushed (h:Hold w0 w (atA g c x*R)):w.cell? ⟨g,39,none⟩=some (.int .i64 x.pushed):=Z0g h (by decide)
theorem Hold.at_pushed_set (h:Hold w0 w (atA g c x*R)) (v:Int):Hold w0 (w.setCell ⟨g,39,none⟩ (.int .i64 v)) (atA g c {x with pushed:=v}*R):=(Z0p h (i:=39) (by decide) _).Zm4 (by kernel_rfl)
end
structure ThR where
 attempt:Value
 begin_:Int
 saved:Nat->Int
 tries:Int
 seen:Value
 strong:Bool
 asked:Int
 fence:Value
 drain:Value
 id:Int
 threads:Int
 code:Value
 pc:Int
 regs:Nat->Int
 outcome:Int
 done:Bool
 limbo:Value
 obs:Value
 count:Int
def thL (c:Cfg) (x:ThR):List Value:=[x.attempt,.int .i64 x.begin_,.int .u64 (x.saved 0),.int .u64 (x.saved 1),.int .u64 (x.saved 2),.int .u64 (x.saved 3),.int .u64 (x.saved 4),.int .u64 (x.saved 5),.int .u64 (x.saved 6),.int .u64 (x.saved 7),.int .i64 x.tries,x.seen,.bool x.strong,.int .i64 x.asked,x.fence,x.drain,.int .i64 c.words,.int .i64 c.orecs,.int .i64 c.base,.int .i64 c.c0,.int .i64 c.c1,.int .i64 c.c2,.int .i64 c.c3,.int .i64 c.reads,.int .i64 c.writes,.int .i64 c.allocs,.int .i64 c.frees,.int .i64 c.clock,.bool c.strong,.int .i64 x.id,.int .i64 x.threads,x.code,.int .i64 x.pc,.int .u64 (x.regs 0),.int .u64 (x.regs 1),.int .u64 (x.regs 2),.int .u64 (x.regs 3),.int .u64 (x.regs 4),.int .u64 (x.regs 5),.int .u64 (x.regs 6),.int .u64 (x.regs 7),.int .i64 x.outcome,.bool x.done,x.limbo,x.obs,.int .i64 x.count]
def thF (c:Cfg) (x:ThR) (i:Nat):Value:=(thL c x).getD i undef
def thA (g:Nat) (c:Cfg) (x:ThR):Asr:=fnA 116 g 46 (thF c x)
section
variable {w0 w:World} {R:Asr} {g:Nat} {c:Cfg} {x:ThR}
theorem Hold.thZ (h:Hold w0 w (thA g c x*R)) (i:Nat):w.frozen? ⟨g,i,none⟩=false:=Z22 h i
theorem Hold.thNew (h:Hold w0 w R) (c:Cfg) (x:ThR):Hold w0 (w.alloc (.cells (thL c x).toArray 116)) (thA w.heap.size c x*R):=by
 have e:((List.range 46).map (thF c x)).toArray=(thL c x).toArray:=by kernel_rfl
 have h1:=Zhr h 116 46 (thF c x);rw[e] at h1;exact h1
theorem Hold.Zlw (h:Hold w0 w (thA g c x*R)):w.cell? ⟨g,0,none⟩=some (x.attempt):=Z0g h (by decide)
theorem Hold.th_attempt_set (h:Hold w0 w (thA g c x*R)) (v:Value):Hold w0 (w.setCell ⟨g,0,none⟩ (v)) (thA g c {x with attempt:=v}*R):=(Z0p h (i:=0) (by decide) _).Zm4 (by kernel_rfl)
theorem Hold.th_begin_ (h:Hold w0 w (thA g c x*R)):w.cell? ⟨g,1,none⟩=some (.int .i64 x.begin_):=Z0g h (by decide)
theorem Hold.th_begin__set (h:Hold w0 w (thA g c x*R)) (v:Int):Hold w0 (w.setCell ⟨g,1,none⟩ (.int .i64 v)) (thA g c {x with begin_:=v}*R):=(Z0p h (i:=1) (by decide) _).Zm4 (by kernel_rfl)
theorem Hold.th_tries (h:Hold w0 w (thA g c x*R)):w.cell? ⟨g,10,none⟩=some (.int .i64 x.tries):=Z0g h (by decide)
theorem Hold.th_tries_set (h:Hold w0 w (thA g c x*R)) (v:Int):Hold w0 (w.setCell ⟨g,10,none⟩ (.int .i64 v)) (thA g c {x with tries:=v}*R):=(Z0p h (i:=10) (by decide) _).Zm4 (by kernel_rfl)
theorem Hold.th_seen (h:Hold w0 w (thA g c x*R)):w.cell? ⟨g,11,none⟩=some (x.seen):=Z0g h (by decide)
theorem Hold.th_seen_set (h:Hold w0 w (thA g c x*R)) (v:Value):Hold w0 (w.setCell ⟨g,11,none⟩ (v)) (thA g c {x with seen:=v}*R):=(Z0p h (i:=11) (by decide) _).Zm4 (by kernel_rfl)
theorem Hold.th_strong (h:Hold w0 w (thA g c x*R)):w.cell? ⟨g,12,none⟩=some (.bool x.strong):=Z0g h (by decide)
theorem Hold.th_strong_set (h:Hold w0 w (thA g c x*R)) (v:Bool):Hold w0 (w.setCell ⟨g,12,none⟩ (.bool v)) (thA g c {x with strong:=v}*R):=(Z0p h (i:=12) (by decide) _).Zm4 (by kernel_rfl)
theorem Hold.th_asked (h:Hold w0 w (thA g c x*R)):w.cell? ⟨g,13,none⟩=some (.int .i64 x.asked):=Z0g h (by decide)
theorem Hold.th_asked_set (h:Hold w0 w (thA g c x*R)) (v:Int):Hold w0 (w.setCell ⟨g,13,none⟩ (.int .i64 v)) (thA g c {x with asked:=v}*R):=(Z0p h (i:=13) (by decide) _).Zm4 (by kernel_rfl)
theorem Hold.th_fence (h:Hold w0 w (thA g c x*R)):w.cell? ⟨g,14,none⟩=some (x.fence):=Z0g h (by decide)
theorem Hold.th_fence_set (h:Hold w0 w (thA g c x*R)) (v:Value):Hold w0 (w.setCell ⟨g,14,none⟩ (v)) (thA g c {x with fence:=v}*R):=(Z0p h (i:=14) (by decide) _).Zm4 (by kernel_rfl)
theorem Hold.th_drain (h:Hold w0 w (thA g c x*R)):w.cell? ⟨g,15,none⟩=some (x.drain):=Z0g h (by decide)
theorem Hold.th_drain_set (h:Hold w0 w (thA g c x*R)) (v:Value):Hold w0 (w.setCell ⟨g,15,none⟩ (v)) (thA g c {x with drain:=v}*R):=(Z0p h (i:=15) (by decide) _).Zm4 (by kernel_rfl)
theorem Hold.th_words (h:Hold w0 w (thA g c x*R)):w.cell? ⟨g,16,none⟩=some (.int .i64 c.words):=Z0g h (by decide)
theorem Hold.th_strongc (h:Hold w0 w (thA g c x*R)):w.cell? ⟨g,28,none⟩=some (.bool c.strong):=Z0g h (by decide)
theorem Hold.th_id (h:Hold w0 w (thA g c x*R)):w.cell? ⟨g,29,none⟩=some (.int .i64 x.id):=Z0g h (by decide)
theorem Hold.th_threads (h:Hold w0 w (thA g c x*R)):w.cell? ⟨g,30,none⟩=some (.int .i64 x.threads):=Z0g h (by decide)
theorem Hold.th_code (h:Hold w0 w (thA g c x*R)):w.cell? ⟨g,31,none⟩=some (x.code):=Z0g h (by decide)
theorem Hold.th_pc (h:Hold w0 w (thA g c x*R)):w.cell? ⟨g,32,none⟩=some (.int .i64 x.pc):=Z0g h (by decide)
theorem Hold.th_pc_set (h:Hold w0 w (thA g c x*R)) (v:Int):Hold w0 (w.setCell ⟨g,32,none⟩ (.int .i64 v)) (thA g c {x with pc:=v}*R):=(Z0p h (i:=32) (by decide) _).Zm4 (by kernel_rfl)
theorem Hold.th_outcome (h:Hold w0 w (thA g c x*R)):w.cell? ⟨g,41,none⟩=some (.int .i64 x.outcome):=Z0g h (by decide)
theorem Hold.th_outcome_set (h:Hold w0 w (thA g c x*R)) (v:Int):Hold w0 (w.setCell ⟨g,41,none⟩ (.int .i64 v)) (thA g c {x with outcome:=v}*R):=(Z0p h (i:=41) (by decide) _).Zm4 (by kernel_rfl)
theorem Hold.th_done (h:Hold w0 w (thA g c x*R)):w.cell? ⟨g,42,none⟩=some (.bool x.done):=Z0g h (by decide)
theorem Hold.th_done_set (h:Hold w0 w (thA g c x*R)) (v:Bool):Hold w0 (w.setCell ⟨g,42,none⟩ (.bool v)) (thA g c {x with done:=v}*R):=(Z0p h (i:=42) (by decide) _).Zm4 (by kernel_rfl)
theorem Hold.th_limbo (h:Hold w0 w (thA g c x*R)):w.cell? ⟨g,43,none⟩=some (x.limbo):=Z0g h (by decide)
theorem Hold.th_obs (h:Hold w0 w (thA g c x*R)):w.cell? ⟨g,44,none⟩=some (x.obs):=Z0g h (by decide)
theorem Hold.th_obs_set (h:Hold w0 w (thA g c x*R)) (v:Value):Hold w0 (w.setCell ⟨g,44,none⟩ (v)) (thA g c {x with obs:=v}*R):=(Z0p h (i:=44) (by decide) _).Zm4 (by kernel_rfl)
theorem Hold.th_count (h:Hold w0 w (thA g c x*R)):w.cell? ⟨g,45,none⟩=some (.int .i64 x.count):=Z0g h (by decide)
theorem Hold.th_count_set (h:Hold w0 w (thA g c x*R)) (v:Int):Hold w0 (w.setCell ⟨g,45,none⟩ (.int .i64 v)) (thA g c {x with count:=v}*R):=(Z0p h (i:=45) (by decide) _).Zm4 (by kernel_rfl)
theorem Hold.th_regs (h:Hold w0 w (thA g c x*R)) {k:Nat} (hk:k<8):w.cell? ⟨g,33+k,none⟩=some (.int .u64 (x.regs k)):=by
 have h1:=Z0g (i:=33+k) h (by omega);rw[h1]
 match k,hk with
 | 0,_=>rfl
 | 1,_=>rfl
 | 2,_=>rfl
 | 3,_=>rfl
 | 4,_=>rfl
 | 5,_=>rfl
 | 6,_=>rfl
 | 7,_=>rfl
theorem Hold.th_regs_set (h:Hold w0 w (thA g c x*R)) {k:Nat} (hk:k<8) (v:Int):Hold w0 (w.setCell ⟨g,33+k,none⟩ (.int .u64 v)) (thA g c {x with regs:=upR x.regs k v}*R):=by
 have h1:=Z0p (i:=33+k) h (by omega) (.int .u64 v)
 match k,hk with
 | 0,_=>exact h1.Zm4 (by kernel_rfl)
 | 1,_=>exact h1.Zm4 (by kernel_rfl)
 | 2,_=>exact h1.Zm4 (by kernel_rfl)
 | 3,_=>exact h1.Zm4 (by kernel_rfl)
 | 4,_=>exact h1.Zm4 (by kernel_rfl)
 | 5,_=>exact h1.Zm4 (by kernel_rfl)
 | 6,_=>exact h1.Zm4 (by kernel_rfl)
 | 7,_=>exact h1.Zm4 (by kernel_rfl)
end
end Go.Proofs.YtmlfangeanmmeaaGreatDoor
