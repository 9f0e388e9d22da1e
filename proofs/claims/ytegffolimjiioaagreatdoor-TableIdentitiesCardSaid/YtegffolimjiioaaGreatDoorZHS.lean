/- Contracts that tell nothing: the functions of numbers of more digits, which the closed examples do not reach. -/
import Derived.Test.YtegffolimjiioaaGreatDoorZPBx0
namespace Go.Proofs.YtegffolimjiioaaGreatDoor.PB
open Go.RowKit Go.Proofs.YtegffolimjiioaaGreatDoorW.PrintWords Go.Proofs.YtegffolimjiioaaGreatDoorW.PrintLast Go.Proofs.YtegffolimjiioaaGreatDoorW.PrintMore
set_option linter.unusedVariables false
def decimal_Mul.f (k : Nat) (a0 : ByteArray) (a1 : ByteArray) : Option (ByteArray) := none
theorem decimal_Mul.calls (k : Nat) (a0 : ByteArray) (a1 : ByteArray) (r : ByteArray) (w : World)  (hG : GW w) (h : decimal_Mul.f k a0 a1 = some r) :
  Calls Tryz.prog 156 #[.string a0, .string a1] w fun e w' => e = .returned (.string r) ∧ Below w.heap.size w w' := nomatch h
def decimal_Add.f (k : Nat) (a0 : ByteArray) (a1 : ByteArray) : Option (ByteArray) := none
theorem decimal_Add.calls (k : Nat) (a0 : ByteArray) (a1 : ByteArray) (r : ByteArray) (w : World)  (hG : GW w) (h : decimal_Add.f k a0 a1 = some r) :
  Calls Tryz.prog 179 #[.string a0, .string a1] w fun e w' => e = .returned (.string r) ∧ Below w.heap.size w w' := nomatch h
def decimal_Sub.f (k : Nat) (a0 : ByteArray) (a1 : ByteArray) : Option (ByteArray × Int) := none
theorem decimal_Sub.calls (k : Nat) (a0 : ByteArray) (a1 : ByteArray) (r1 : ByteArray) (r2 : Int) (w : World)  (hG : GW w) (h : decimal_Sub.f k a0 a1 = some (r1, r2)) :
  Calls Tryz.prog 181 #[.string a0, .string a1] w fun e w' => e = .returned (.tuple #[.string r1, .int .i64 r2]) ∧ Below w.heap.size w w' := nomatch h
def decimal_DivMod.f (k : Nat) (a0 : ByteArray) (a1 : ByteArray) : Option (ByteArray × ByteArray × Int) := none
theorem decimal_DivMod.calls (k : Nat) (a0 : ByteArray) (a1 : ByteArray) (r1 : ByteArray) (r2 : ByteArray) (r3 : Int) (w : World)  (hG : GW w) (h : decimal_DivMod.f k a0 a1 = some (r1, r2, r3)) :
  Calls Tryz.prog 184 #[.string a0, .string a1] w fun e w' => e = .returned (.tuple #[.string r1, .string r2, .int .i64 r3]) ∧ Below w.heap.size w w' := nomatch h
def decimal_Gcd.f (k : Nat) (a0 : ByteArray) (a1 : ByteArray) : Option (ByteArray) := none
theorem decimal_Gcd.calls (k : Nat) (a0 : ByteArray) (a1 : ByteArray) (r : ByteArray) (w : World)  (hG : GW w) (h : decimal_Gcd.f k a0 a1 = some r) :
  Calls Tryz.prog 229 #[.string a0, .string a1] w fun e w' => e = .returned (.string r) ∧ Below w.heap.size w w' := nomatch h
def decimal_Compare.f (a0 : ByteArray) (a1 : ByteArray) : Option (Int) := none
theorem decimal_Compare.calls (a0 : ByteArray) (a1 : ByteArray) (r : Int) (w : World)  (h : decimal_Compare.f a0 a1 = some r) :
  Calls Tryz.prog 180 #[.string a0, .string a1] w fun e w' => e = .returned (.int .i64 r) ∧ Below w.heap.size w w' := nomatch h
def schismaref02_divide.f (k : Nat) (l0 : List Int) (l1 : List Int) : Option ((List Int) × (List Int)) := none
theorem schismaref02_divide.calls (k : Nat) (A0 : Option Addr) (c0 : Nat) (l0 : List Int) (A1 : Option Addr) (c1 : Nat) (l1 : List Int) (r1 : List Int) (r2 : List Int) (w : World) (hr0 : Kd.C (Kd.int .i64) w A0 l0.length l0) (hc0 : l0.length ≤ c0) (hr1 : Kd.C (Kd.int .i64) w A1 l1.length l1) (hc1 : l1.length ≤ c1) (h : schismaref02_divide.f k l0 l1 = some (r1, r2)) :
  Calls Tryz.prog 216 #[.slice A0 l0.length c0, .slice A1 l1.length c1] w fun e w' => ∃ v0_ v1_ : Value, e = .returned (.tuple #[v0_, v1_]) ∧ Kd.R (Kd.int .i64) 3 w' w.heap.size (fun k_ => some k_ ≠ (v1_ : Value).ownBlock) v0_ r1 ∧ Kd.R (Kd.int .i64) 3 w' w.heap.size (fun k_ => some k_ ≠ (v0_ : Value).ownBlock) v1_ r2 ∧ Below w.heap.size w w' := nomatch h
def schismaref02_split.f (k : Nat) (a0 : ByteArray) : Option ((List Int)) := none
theorem schismaref02_split.calls (k : Nat) (a0 : ByteArray) (r : List Int) (w : World)  (h : schismaref02_split.f k a0 = some r) :
  Calls Tryz.prog 198 #[.string a0] w fun e w' => ∃ v0_ : Value, e = .returned (v0_) ∧ Kd.R (Kd.int .i64) 3 w' w.heap.size (fun _ => True) v0_ r ∧ Below w.heap.size w w' := nomatch h
def schismaref02_signed.f (k : Nat) (a0 : Bool) (l1 : List Int) : Option (ByteArray) := none
theorem schismaref02_signed.calls (k : Nat) (a0 : Bool) (A1 : Option Addr) (c1 : Nat) (l1 : List Int) (r : ByteArray) (w : World) (hr1 : Kd.C (Kd.int .i64) w A1 l1.length l1) (hc1 : l1.length ≤ c1) (hG : GW w) (h : schismaref02_signed.f k a0 l1 = some r) :
  Calls Tryz.prog 200 #[.bool a0, .slice A1 l1.length c1] w fun e w' => e = .returned (.string r) ∧ Below w.heap.size w w' := nomatch h
def schismaref02_Sub.f (k : Nat) (a0 : ByteArray) (a1 : ByteArray) : Option (ByteArray) := none
theorem schismaref02_Sub.calls (k : Nat) (a0 : ByteArray) (a1 : ByteArray) (r : ByteArray) (w : World)  (hG : GW w) (h : schismaref02_Sub.f k a0 a1 = some r) :
  Calls Tryz.prog 217 #[.string a0, .string a1] w fun e w' => e = .returned (.string r) ∧ Below w.heap.size w w' := nomatch h
def schismaref02_Add.f (k : Nat) (a0 : ByteArray) (a1 : ByteArray) : Option (ByteArray) := none
theorem schismaref02_Add.calls (k : Nat) (a0 : ByteArray) (a1 : ByteArray) (r : ByteArray) (w : World)  (hG : GW w) (h : schismaref02_Add.f k a0 a1 = some r) :
  Calls Tryz.prog 143 #[.string a0, .string a1] w fun e w' => e = .returned (.string r) ∧ Below w.heap.size w w' := nomatch h
def schismaref02_side.f (a0 : ByteArray) : Option (Int) := none
theorem schismaref02_side.calls (a0 : ByteArray) (r : Int) (w : World)  (h : schismaref02_side.f a0 = some r) :
  Calls Tryz.prog 199 #[.string a0] w fun e w' => e = .returned (.int .i64 r) ∧ Below w.heap.size w w' := nomatch h
end Go.Proofs.YtegffolimjiioaaGreatDoor.PB
