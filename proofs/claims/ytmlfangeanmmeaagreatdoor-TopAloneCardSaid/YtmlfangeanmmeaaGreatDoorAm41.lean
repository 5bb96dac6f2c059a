/-
 What the proof of TopAlone leans on, part 41 of 49: Nd. No statement of its own.
-/
import Derived.Test.YtmlfangeanmmeaaGreatDoorAm32
import Derived.WalkLawsBesides
import Derived.Laws.Externs
set_option maxHeartbeats 16000000
set_option maxRecDepth 8000
set_option linter.unusedVariables false
namespace Go.Proofs.YtmlfangeanmmeaaGreatDoor
open Go.RowKit
def AluQ (w:World) (e:Ending) (w':World):Prop:=∃v:Int,e = .returned (.tuple #[.int .u64 v,.int .i64 0])/\(w'=w\/w'=w.drew)
def OneQ (w:World) (e:Ending) (w':World):Prop:=∃v:Int,e = .returned (.int .u64 v)/\(w'=w\/w'=w.drew)
theorem Zf5 (w:World) (b:Bool):Calls Tryz.prog 223 #[.bool b] w fun e w'=>∃v:Int,e = .returned (.int .u64 v)/\w'=w:=by
 go_enter Tryz.func223,Tryz.ntmps223
 cases b
 all_goals (
  go_wp2_with fail;go_ret;exact⟨_,rfl,rfl⟩)
theorem Zh7 (w:World) (fn x y:Int) (h:fn=0\/fn=1\/fn=5\/fn=8\/fn=11):Calls Tryz.prog 203 #[.int .i64 fn,.int .u64 x,.int .u64 y] w fun e w'=>∃v:Int,e = .returned (.int .u64 v)/\w'=w:=by
 have HT:∀b,Hid (Calls Tryz.prog 223 #[.bool b] w fun e w'=>∃v:Int,e = .returned (.int .u64 v)/\w'=w):=fun b=>hid (Zf5 w b);go_enter Tryz.func203,Tryz.ntmps203;rcases h with rfl|rfl|rfl|rfl|rfl
 ·go_wp2_with fail
  go_ret;exact⟨_,rfl,rfl⟩
 ·go_wp2_with fail
  go_ret;exact⟨_,rfl,rfl⟩
 ·go_wp2_with fail
  go_ret;exact⟨_,rfl,rfl⟩
 ·go_wp2_with fail
  refine(HT _).out.mono ?_;rintro e w' ⟨v,rfl,rfl⟩;go_wp2_with fail;go_ret;exact⟨_,rfl,rfl⟩
 ·go_wp2_with fail
  refine(HT _).out.mono ?_;rintro e w' ⟨v,rfl,rfl⟩;go_wp2_with fail;go_ret;exact⟨_,rfl,rfl⟩
theorem Z6h (w:World) (b:Nat):Calls Tryz.prog 221 #[.float .f64 b] w fun e w'=>∃v:Bool,e = .returned (.bool v)/\w'=w:=by
 go_enter Tryz.func221,Tryz.ntmps221;go_wp2_with fail;go_ret;exact⟨_,rfl,rfl⟩
theorem Z9x (w:World) (b:Nat):(callFunc 199 #[.float .f64 b]).run Tryz.prog w = .ok (.value (.int .u64 b)) w:=by
 rw[run_callFunc_extern Tryz.func199 (by kernel_rfl) (by kernel_rfl) (by kernel_rfl) (e:=Extern.MathFloatBits.float64bits) (by kernel_rfl)];rfl
theorem Z60 (w:World) (n:Int):(callFunc 201 #[.int .u64 n]).run Tryz.prog w = .ok (.value (.float .f64 n.toNat)) w:=by
 rw[run_callFunc_extern Tryz.func201 (by kernel_rfl) (by kernel_rfl) (by kernel_rfl) (e:=Extern.MathFloatBits.float64frombits) (by kernel_rfl)];rfl
theorem Zf6 (w:World) (b:Nat):Calls Tryz.prog 222 #[.float .f64 b] w fun e w'=>∃v:Int,e = .returned (.int .u64 v)/\w'=w:=by
 have HN:=hid (Z6h w b);have hx:=fun w=>Z9x w b;go_enter Tryz.func222,Tryz.ntmps222;go_wp2_with fail;refine HN.out.mono ?_;rintro e w' ⟨v,rfl,rfl⟩
 cases v with
 | true =>
  go_wp2_with fail;go_ret;exact⟨_,rfl,rfl⟩
 | false =>
  go_wp2_with fail;go_ret;exact⟨_,rfl,rfl⟩
theorem Zft (P:Program) (w:World) (t:TypeId) (x y:Nat):∃r w',(binOp .add t (.float .f64 x) (.float .f64 y)).run P w = .ok (.float .f64 r) w'/\(w'=w\/w'=w.drew):=by
 cases h:FloatKind.f64.format.add x y with
 | some r=>exact⟨r,w,by simp[binOp,Op.floatArith,h],.inl rfl⟩
 | none=>exact⟨_,w.drew,by simp[binOp,Op.floatArith,h,Question.forced];rfl,.inr rfl⟩
theorem Zcu (w:World) (x y:Nat):Calls Tryz.prog 202 #[.int .i64 12,.float .f64 x,.float .f64 y] w (OneQ w):=by
 have H1:=hid (Z6h w x);have H2:=hid (Z6h w y);have HP:∀w b,Hid (Calls Tryz.prog 222 #[.float .f64 b] w fun e w'=>∃v:Int,e = .returned (.int .u64 v)/\w'=w):=fun w b=>hid (Zf6 w b);obtain⟨r,w',hr,hw⟩:=Zft Tryz.prog w 238 x y;unfold OneQ;go_enter Tryz.func202,Tryz.ntmps202;go_wp2_with fail;refine H1.out.mono ?_;rintro e w2 ⟨v,rfl,rfl⟩;have HPP:=HP w' r;have HW:=hid hw;clear HP hw H1
 cases v with
 | true =>
  go_wp2_with fail;refine HPP.out.mono ?_;rintro e w3 ⟨v,rfl,rfl⟩;go_wp2_with fail;go_ret;exact⟨_,rfl,HW.out⟩
 | false =>
  go_wp2_with fail;refine H2.out.mono ?_;rintro e w3 ⟨v,rfl,rfl⟩
  cases v
  all_goals (
   go_wp2_with fail;refine HPP.out.mono ?_;rintro e w3 ⟨v,rfl,rfl⟩;go_wp2_with fail;go_ret;exact⟨_,rfl,HW.out⟩)
theorem alu_any (w:World) (fn x y:Int) (h:fn=0\/fn=1\/fn=5\/fn=8\/fn=11\/fn=12):Calls Tryz.prog 124 #[.int .i64 fn,.int .u64 x,.int .u64 y] w (AluQ w):=by
 have HI:Hid (fn≠12->Calls Tryz.prog 203 #[.int .i64 fn,.int .u64 x,.int .u64 y] w fun e w'=>∃v:Int,e = .returned (.int .u64 v)/\w'=w):=hid (fun h1=>Zh7 w fn x y (by omega));have HL:=hid (Zcu w x.toNat y.toNat);have hx:=fun w=>Z60 w x;have hy:=fun w=>Z60 w y;unfold AluQ;go_enter Tryz.func124,Tryz.ntmps124;rcases h with rfl|rfl|rfl|rfl|rfl|rfl
 case inr.inr.inr.inr.inr =>
  go_wp2_with fail;refine HL.out.mono ?_;rintro e w3 ⟨v,rfl,hw⟩;have HW:=hid hw;clear hw;go_wp2_with fail
  go_ret2
  exact⟨_,rfl,HW.out⟩
 all_goals (
  have HI:=hid (HI.out (by decide));go_wp2_with fail;refine HI.out.mono ?_;rintro e w3 ⟨v,rfl,rfl⟩;go_wp2_with fail
  go_ret2
  exact⟨_,rfl,.inl rfl⟩)
end Go.Proofs.YtmlfangeanmmeaaGreatDoor
