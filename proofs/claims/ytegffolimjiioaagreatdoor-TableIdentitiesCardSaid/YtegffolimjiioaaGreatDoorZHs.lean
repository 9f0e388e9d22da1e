/- strconv's functions at base 10, and the program's wraps of them, as the printed texts call them. -/
import Derived.Test.YtegffolimjiioaaGreatDoorZHFa
import Derived.Test.YtegffolimjiioaaGreatDoorZPBx0
import Derived.Test.YtegffolimjiioaaGreatDoorZGw
import Derived.Test.YtegffolimjiioaaGreatDoorZGsh
import Derived.Lib.Walk
import Derived.Lib.ItoaMem
import Derived.BigCall
import Derived.BigGuard
namespace Go.Proofs.YtegffolimjiioaaGreatDoor.PB
open Go.RowKit Go.Lib Go.Sort Go.Proofs.YtegffolimjiioaaGreatDoorW.PrintWords Go.Proofs.YtegffolimjiioaaGreatDoorW.PrintLast Go.Proofs.YtegffolimjiioaaGreatDoorW.PrintMore
set_option linter.unusedVariables false
set_option linter.unusedSimpArgs false
theorem strconv_Itoa.calls (a0 : Int) (r : ByteArray) (w : World) (hG : GW w) (h : strconv_Itoa.f a0 = some r) :
  Calls Tryz.prog 173 #[.int .i64 a0] w fun e w' => e = .returned (.string r) ∧ Below w.heap.size w w' := by
 unfold strconv_Itoa.f at h
 split at h
 ·rename_i hr
  obtain ⟨h0, h1⟩ := (in64_iff _).1 hr
  obtain rfl := Option.some.inj h
  refine (Tryz.strconv_Itoa a0 h0 h1 w hG.tab).mono ?_
  rintro e w' ⟨rfl, k, os, rfl⟩
  exact ⟨rfl, below_grow _ _ (Nat.le_refl _) _ _⟩
 ·cases h
theorem below_bytes (w : World) (e : TypeId) (t : ByteArray) : Below w.heap.size w (Lib.bytesWorld w e t) := bytes_below (Below.refl _ _) (Nat.le_refl _) e t
theorem whole_little.calls (a0 : ByteArray) (a1 : Int) (r1 : Int) (r2 : Bool) (w : World) (hG : GW w) (h : whole_little.f a0 a1 = some (r1, r2)) :
  Calls Tryz.prog 153 #[.string a0, .int .i64 a1] w fun e w' => e = .returned (.tuple #[.int .i64 r1, .bool r2]) ∧ Below w.heap.size w w' := by
 unfold whole_little.f at h
 clear hG
 by_cases c : (a0.size : Int) > a1
 ·rw [if_pos c] at h
  obtain ⟨rfl, rfl⟩ := Prod.mk.inj (Option.some.inj h)
  have c0 : decide (a1 < (a0.size : Int)) = true := decide_eq_true c
  clear c h
  go_enter Tryz.func153, Tryz.ntmps153
  go_wp2
  go_ret2
  exact ⟨rfl, Below.refl _ _⟩
 ·rw [if_neg c] at h
  have c0 : decide (a1 < (a0.size : Int)) = false := decide_eq_false c
  clear c
  split at h
  ·cases h
  ·rename_i hl
   split at h
   ·rename_i v hv
    obtain ⟨rfl, rfl⟩ := Prod.mk.inj (Option.some.inj h)
    have HV := Aside0.mk hv
    have HL := Aside0.mk hl
    clear hv h hl
    go_enter Tryz.func153, Tryz.ntmps153
    go_wp2_with (go_at_call 206; (refine (Tryz.strconv_Atoi_ok a0 (by have := HL.out; omega) _ HV.out _).mono ?_); rintro e w1 ⟨rfl, hw⟩)
    have hb : Below w.heap.size w w1 := by
     rcases hw with rfl | ⟨t, rfl⟩
     ·exact Below.refl _ _
     ·exact below_bytes _ _ _
    have HB := Aside0.mk hb
    clear hb hw
    go_wp2
    go_quiet (fail)
    go_wp2
    go_ret2
    exact ⟨rfl, pw_below_drewN HB.out _⟩
   ·cases h
theorem fraction_little.calls (a0 : ByteArray) (r1 : Int) (r2 : Bool) (w : World) (hG : GW w) (h : fraction_little.f a0 = some (r1, r2)) :
  Calls Tryz.prog 205 #[.string a0] w fun e w' => e = .returned (.tuple #[.int .i64 r1, .bool r2]) ∧ Below w.heap.size w w' := by
 unfold fraction_little.f at h
 clear hG
 by_cases c : (a0.size : Int) > 9
 ·rw [if_pos c] at h
  obtain ⟨rfl, rfl⟩ := Prod.mk.inj (Option.some.inj h)
  have c0 : decide (9 < (a0.size : Int)) = true := decide_eq_true c
  have c1 : decide (9 < a0.size) = true := decide_eq_true (by omega)
  clear c h
  go_enter Tryz.func205, Tryz.ntmps205
  go_wp2
  go_ret2
  exact ⟨rfl, Below.refl _ _⟩
 ·rw [if_neg c] at h
  have c0 : decide (9 < (a0.size : Int)) = false := decide_eq_false c
  have c1 : decide (9 < a0.size) = false := decide_eq_false (by omega)
  split at h
  ·rename_i v hv
   obtain ⟨rfl, rfl⟩ := Prod.mk.inj (Option.some.inj h)
   have HV := Aside0.mk hv
   have HL := Aside0.mk c
   clear hv h c
   go_enter Tryz.func205, Tryz.ntmps205
   go_wp2_with (go_at_call 206; (refine (Tryz.strconv_Atoi_ok a0 (by have := HL.out; omega) _ HV.out _).mono ?_); rintro e w1 ⟨rfl, hw⟩)
   have hb : Below w.heap.size w w1 := by
    rcases hw with rfl | ⟨t, rfl⟩
    ·exact Below.refl _ _
    ·exact below_bytes _ _ _
   have HB := Aside0.mk hb
   clear hb hw
   go_wp2
   go_quiet (fail)
   go_wp2
   go_ret2
   exact ⟨rfl, pw_below_drewN HB.out _⟩
  ·cases h
end Go.Proofs.YtegffolimjiioaaGreatDoor.PB
