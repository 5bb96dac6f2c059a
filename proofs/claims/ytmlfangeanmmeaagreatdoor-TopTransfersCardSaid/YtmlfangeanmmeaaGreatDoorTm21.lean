/-
  What the proof of TopTransfers leans on, part 21 of 48: WordW. No statement of its own.
-/
import Derived.Test.YtmlfangeanmmeaaGreatDoorRows
import Derived.WalkKit
import Derived.WalkSpells
import Derived.WalkLawsBesides
namespace Go.Proofs.YtmlfangeanmmeaaGreatDoor.W
set_option maxRecDepth 8000
open Go.RowKit
set_option linter.unusedVariables false
section
variable (w:World)
theorem free_yes (v:Int) (h0:0≤v) (h1:v≤1099511627776) :
    Calls Tryz.prog 172 #[.int .i64 v] w fun e w'=>e = .returned (.tuple #[.int .u64 (v*64),.int .i64 0])∧w=w':=by
  go_enter Tryz.func172,Tryz.ntmps172
  go_wp2
  go_ret2
  exact ⟨rfl,rfl⟩
theorem holder_any (o:Int) (h0:0≤o) (h1:o < 18446744073709551616) :
    Calls Tryz.prog 207 #[.int .u64 o] w fun e w'=>e = .returned (.int .i64 (o % 64 - 1))∧w=w':=by
  go_enter Tryz.func207,Tryz.ntmps207
  go_wp2
  go_ret
  exact ⟨rfl,rfl⟩
theorem Zhf (g t:Int) (h0:0≤g) (h1:g < 281474976710656) (h2:-1≤t) (h3:t < 64) :
    Calls Tryz.prog 47 #[.int .i64 g,.int .i64 t] w fun e w'=>e = .returned (.tuple #[.int .u64 (g*65536 + (t + 1)),.int .i64 0])∧w=w':=by
  go_enter Tryz.func47,Tryz.ntmps47
  go_wp2
  go_ret2
  exact ⟨rfl,rfl⟩
theorem Zhh (g t:Int) (h0:g < 0) :
    Calls Tryz.prog 47 #[.int .i64 g,.int .i64 t] w fun e w'=>e = .returned (.tuple #[.int .u64 0,.int .i64 2])∧w=w':=by
  go_enter Tryz.func47,Tryz.ntmps47
  go_wp2
  go_ret2
  exact ⟨rfl,rfl⟩
theorem Zf4 (g t:Int) (h0:0≤g) (h1:281474976710656≤g) :
    Calls Tryz.prog 47 #[.int .i64 g,.int .i64 t] w fun e w'=>e = .returned (.tuple #[.int .u64 0,.int .i64 2])∧w=w':=by
  go_enter Tryz.func47,Tryz.ntmps47
  go_wp2
  go_ret2
  exact ⟨rfl,rfl⟩
theorem Zhg (g t:Int) (h0:0≤g) (h1:g < 281474976710656) (h2:t < -1) :
    Calls Tryz.prog 47 #[.int .i64 g,.int .i64 t] w fun e w'=>e = .returned (.tuple #[.int .u64 0,.int .i64 2])∧w=w':=by
  go_enter Tryz.func47,Tryz.ntmps47
  go_wp2
  go_ret2
  exact ⟨rfl,rfl⟩
theorem Zf3 (g t:Int) (h0:0≤g) (h1:g < 281474976710656) (h2:-1≤t) (h3:64≤t) :
    Calls Tryz.prog 47 #[.int .i64 g,.int .i64 t] w fun e w'=>e = .returned (.tuple #[.int .u64 0,.int .i64 2])∧w=w':=by
  go_enter Tryz.func47,Tryz.ntmps47
  go_wp2
  go_ret2
  exact ⟨rfl,rfl⟩
def okG (g:Int):Bool:=decide (0≤g) && decide (g < 281474976710656)
def okB (t:Int):Bool:=decide (-1≤t) && decide (t < 64)
def Zdm (b:Bool):Int:=if b then 0 else 2
def Zdk (g t:Int):Int:=if okG g && okB t then g*65536 + (t + 1) else 0
theorem head_any (v t:Int) :
    Calls Tryz.prog 47 #[.int .i64 v,.int .i64 t] w fun e w'=>e = .returned (.tuple #[.int .u64 (Zdk v t),.int .i64 (Zdm (okG v && okB t))])∧w=w':=by
  by_cases h0:0≤v
  · by_cases h1:v < 281474976710656
    · by_cases h2:-1≤t
      · by_cases h3:t < 64
        · exact (Zhf w v t h0 h1 h2 h3).mono fun e w' h=>by simpa [Zdk,Zdm,okG,okB,h0,h1,h2,h3] using h
        · exact (Zf3 w v t h0 h1 h2 (by omega)).mono fun e w' h=>by simpa [Zdk,Zdm,okG,okB,h0,h1,h2,h3] using h
      · exact (Zhg w v t h0 h1 (by omega)).mono fun e w' h=>by simpa [Zdk,Zdm,okG,okB,h0,h1,h2] using h
    · exact (Zf4 w v t h0 (by omega)).mono fun e w' h=>by simpa [Zdk,Zdm,okG,okB,h0,h1] using h
  · exact (Zhh w v t (by omega)).mono fun e w' h=>by simpa [Zdk,Zdm,okG,okB,h0] using h
end
end Go.Proofs.YtmlfangeanmmeaaGreatDoor.W
