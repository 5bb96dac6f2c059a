/-
 What the proof of TopAlone leans on, part 18 of 49: WordW. No statement of its own.
-/
import Derived.Test.YtmlfangeanmmeaaGreatDoorRows
import Derived.WalkKit
import Derived.WalkSpells
import Derived.WalkLawsBesides
set_option maxHeartbeats 16000000
set_option maxRecDepth 8000
set_option linter.unusedVariables false
namespace Go.Proofs.YtmlfangeanmmeaaGreatDoor.W
open Go.RowKit
section
variable (w:World)
theorem free_yes (v:Int) (h0:0<=v) (h1:v<=1099511627776) :
  Calls Tryz.prog 172 #[.int .i64 v] w fun e w'=>e = .returned (.tuple #[.int .u64 (v*64),.int .i64 0])/\w=w':=by
 go_enter Tryz.func172,Tryz.ntmps172;go_wp2
 go_ret2
 exact⟨rfl,rfl⟩
theorem holder_any (o:Int) (h0:0<=o) (h1:o<18446744073709551616) :
  Calls Tryz.prog 207 #[.int .u64 o] w fun e w'=>e = .returned (.int .i64 (o%64 - 1))/\w=w':=by
 go_enter Tryz.func207,Tryz.ntmps207;go_wp2;go_ret;exact⟨rfl,rfl⟩
theorem tag_any (o:Int) (h0:0<=o) (h1:o<18446744073709551616) :
  Calls Tryz.prog 205 #[.int .u64 o] w fun e w'=>e = .returned (.int .i64 (o / 65536))/\w=w':=by
 go_enter Tryz.func205,Tryz.ntmps205;go_wp2;go_ret;exact⟨rfl,rfl⟩
theorem top_any (o:Int) (h0:0<=o) (h1:o<18446744073709551616) :
  Calls Tryz.prog 138 #[.int .u64 o] w fun e w'=>e = .returned (.int .i64 (o%65536 - 1))/\w=w':=by
 go_enter Tryz.func138,Tryz.ntmps138;go_wp2;go_ret;exact⟨rfl,rfl⟩
theorem Zgi (g t:Int) (h0:0<=g) (h1:g<281474976710656) (h2:-1<=t) (h3:t<64) :
  Calls Tryz.prog 47 #[.int .i64 g,.int .i64 t] w fun e w'=>e = .returned (.tuple #[.int .u64 (g*65536+(t+1)),.int .i64 0])/\w=w':=by
 go_enter Tryz.func47,Tryz.ntmps47;go_wp2
 go_ret2
 exact⟨rfl,rfl⟩
theorem Zgk (g t:Int) (h0:g<0) :
  Calls Tryz.prog 47 #[.int .i64 g,.int .i64 t] w fun e w'=>e = .returned (.tuple #[.int .u64 0,.int .i64 2])/\w=w':=by
 go_enter Tryz.func47,Tryz.ntmps47;go_wp2
 go_ret2
 exact⟨rfl,rfl⟩
theorem Zej (g t:Int) (h0:0<=g) (h1:281474976710656<=g) :
  Calls Tryz.prog 47 #[.int .i64 g,.int .i64 t] w fun e w'=>e = .returned (.tuple #[.int .u64 0,.int .i64 2])/\w=w':=by
 go_enter Tryz.func47,Tryz.ntmps47;go_wp2
 go_ret2
 exact⟨rfl,rfl⟩
theorem Zgj (g t:Int) (h0:0<=g) (h1:g<281474976710656) (h2:t < -1) :
  Calls Tryz.prog 47 #[.int .i64 g,.int .i64 t] w fun e w'=>e = .returned (.tuple #[.int .u64 0,.int .i64 2])/\w=w':=by
 go_enter Tryz.func47,Tryz.ntmps47;go_wp2
 go_ret2
 exact⟨rfl,rfl⟩
theorem Zei (g t:Int) (h0:0<=g) (h1:g<281474976710656) (h2:-1<=t) (h3:64<=t) :
  Calls Tryz.prog 47 #[.int .i64 g,.int .i64 t] w fun e w'=>e = .returned (.tuple #[.int .u64 0,.int .i64 2])/\w=w':=by
 go_enter Tryz.func47,Tryz.ntmps47;go_wp2
 go_ret2
 exact⟨rfl,rfl⟩
def okG (g:Int):Bool:=decide (0<=g) && decide (g<281474976710656)
def okB (t:Int):Bool:=decide (-1<=t) && decide (t<64)
def errIf (b:Bool):Int:=if b then 0 else 2
def headW (g t:Int):Int:=if okG g && okB t then g*65536+(t+1) else 0
theorem head_any (v t:Int) :
  Calls Tryz.prog 47 #[.int .i64 v,.int .i64 t] w fun e w'=>e = .returned (.tuple #[.int .u64 (headW v t),.int .i64 (errIf (okG v && okB t))])/\w=w':=by
 by_cases h0:0<=v
 ·by_cases h1:v<281474976710656
  ·by_cases h2:-1<=t
   ·by_cases h3:t<64
    ·exact(Zgi w v t h0 h1 h2 h3).mono fun e w' h=>by simpa [headW,errIf,okG,okB,h0,h1,h2,h3] using h
    ·exact(Zei w v t h0 h1 h2 (by omega)).mono fun e w' h=>by simpa [headW,errIf,okG,okB,h0,h1,h2,h3] using h
   ·exact(Zgj w v t h0 h1 (by omega)).mono fun e w' h=>by simpa [headW,errIf,okG,okB,h0,h1,h2] using h
  ·exact(Zej w v t h0 (by omega)).mono fun e w' h=>by simpa [headW,errIf,okG,okB,h0,h1] using h
 ·exact(Zgk w v t (by omega)).mono fun e w' h=>by simpa [headW,errIf,okG,okB,h0] using h
theorem bump_any (o t:Int) (h0:0<=o) (h1:o<18446744073709551616) :
  Calls Tryz.prog 139 #[.int .u64 o,.int .i64 t] w fun e w'=>e = .returned (.tuple #[.int .u64 (headW ((o / 65536+1)%281474976710656) t),.int .i64 (errIf (okG ((o / 65536+1)%281474976710656) && okB t))])/\w=w':=by
 go_enter Tryz.func139,Tryz.ntmps139;go_wp2_with (first
  | (go_at_call 205;refine(tag_any _ _ h0 h1).mono ?_;rintro e w' ⟨rfl,rfl⟩)
  | (go_at_call 47;refine(head_any _ _ _).mono ?_;rintro e w' ⟨rfl,rfl⟩))
 go_ret2
 exact⟨rfl,rfl⟩
end
end Go.Proofs.YtmlfangeanmmeaaGreatDoor.W
