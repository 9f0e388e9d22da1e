/- Walks and contracts of the program's functions: printed for this claim. -/
import Derived.Test.YtegffolimjiioaaGreatDoorZX0
import Derived.Test.YtegffolimjiioaaGreatDoorZPBx0
import Derived.Test.YtegffolimjiioaaGreatDoorZPBx2
import Derived.Test.YtegffolimjiioaaGreatDoorZPBx6
import Derived.Test.YtegffolimjiioaaGreatDoorZHS
import Derived.Test.YtegffolimjiioaaGreatDoorZHs
namespace Go.Proofs.YtegffolimjiioaaGreatDoor.PB
open Go.RowKit Go.Proofs.YtegffolimjiioaaGreatDoorW.PrintWords Go.Proofs.YtegffolimjiioaaGreatDoorW.PrintLast Go.Proofs.YtegffolimjiioaaGreatDoorW.PrintMore
attribute [local go_sem] max2_int min2_int max_two min_two
set_option linter.unusedVariables false
set_option linter.unusedSimpArgs false
mutual
def whole_DivMod.j1 : Nat → ByteArray → ByteArray → Option (ByteArray × ByteArray × Int)
 | 0, _, _ => none
 | k + 1, x0, x1 => (whole_split.f x0).bind fun bt135 => ((whole_split.f x1).bind fun bt137 => ((decimal_DivMod.f k bt135.2 bt137.2).bind fun bt139 => (if bt139.2.2 = 0 then (if (bt135.1 != bt137.1) = true then (whole_DivMod.j2 k bt135.1 bt137.1 bt137.2 bt139.1 bt139.2.1 (bt139.2.1.toList != ([48] : List UInt8))) else (whole_DivMod.j2 k bt135.1 bt137.1 bt137.2 bt139.1 bt139.2.1 false)) else (some ((⟨#[]⟩ : ByteArray), (⟨#[]⟩ : ByteArray), bt139.2.2)))))
def whole_DivMod.j2 : Nat → Bool → Bool → ByteArray → ByteArray → ByteArray → Bool → Option (ByteArray × ByteArray × Int)
 | 0, _, _, _, _, _, _ => none
 | k + 1, x13, x15, x16, x17, x18, x83 => if x83 = true then ((decimal_Add.f k x17 (⟨#[49]⟩ : ByteArray)).bind fun t142 => ((decimal_Sub.f k x16 x18).bind fun bt143 => ((whole_join.f (x13 != x15) t142).bind fun t145 => ((whole_join.f x15 bt143.1).bind fun t146 => (some (t145, t146, 0)))))) else ((whole_join.f (x13 != x15) x17).bind fun t147 => ((whole_join.f x15 x18).bind fun t148 => (some (t147, t148, 0))))
def whole_DivMod.j0 : Nat → Int → Int → Int → Bool → Option (ByteArray × ByteArray × Int)
 | 0, _, _, _, _ => none
 | k + 1, x9, x11, x12, x47 => if x47 = true then ((whole_Of.f (wrap64 (x11 - 1))).bind fun t131 => ((whole_Of.f (wrap64 (x12 + x9))).bind fun t132 => (some (t131, t132, 0)))) else ((whole_Of.f x11).bind fun t133 => ((whole_Of.f x12).bind fun t134 => (some (t133, t134, 0))))
end
def whole_DivMod.f (k : Nat) (a0 : ByteArray) (a1 : ByteArray) : Option (ByteArray × ByteArray × Int) := if a1.toList = ([48] : List UInt8) then (some ((⟨#[]⟩ : ByteArray), (⟨#[]⟩ : ByteArray), 17)) else ((whole_little.f a0 18).bind fun bt127 => (if bt127.2 = true then ((whole_little.f a1 18).bind fun bt129 => (if bt129.2 = true then (if bt129.1 = 0 then (none) else (if (Int.tmod bt127.1 bt129.1) = 0 then (whole_DivMod.j0 k bt129.1 (wrap64 (Int.tdiv bt127.1 bt129.1)) (Int.tmod bt127.1 bt129.1) false) else (whole_DivMod.j0 k bt129.1 (wrap64 (Int.tdiv bt127.1 bt129.1)) (Int.tmod bt127.1 bt129.1) ((decide ((Int.tmod bt127.1 bt129.1) < 0)) != (decide (bt129.1 < 0)))))) else (whole_DivMod.j1 k a0 a1))) else (whole_DivMod.j1 k a0 a1)))
set_option maxHeartbeats 8000000 in
set_option maxRecDepth 100000 in
theorem whole_DivMod.calls (k : Nat) (a0 : ByteArray) (a1 : ByteArray) (r1 : ByteArray) (r2 : ByteArray) (r3 : Int) (w : World) (hG : GW w) (h : whole_DivMod.f k a0 a1 = some (r1, r2, r3)) :
  Calls Tryz.prog 129 #[.string a0, .string a1] w fun e w' => e = .returned (.tuple #[.string r1, .string r2, .int .i64 r3]) ∧ Below w.heap.size w w' := by
 have HG := Aside0.mk hG
 clear hG
 have HB := Aside0.mk (Below.refl w.heap.size w)
 have H : (if a1.toList = ([48] : List UInt8) then (some ((⟨#[]⟩ : ByteArray), (⟨#[]⟩ : ByteArray), 17)) else ((whole_little.f a0 18).bind fun bt127 => (if bt127.2 = true then ((whole_little.f a1 18).bind fun bt129 => (if bt129.2 = true then (if bt129.1 = 0 then (none) else (if (Int.tmod bt127.1 bt129.1) = 0 then (whole_DivMod.j0 k bt129.1 (wrap64 (Int.tdiv bt127.1 bt129.1)) (Int.tmod bt127.1 bt129.1) false) else (whole_DivMod.j0 k bt129.1 (wrap64 (Int.tdiv bt127.1 bt129.1)) (Int.tmod bt127.1 bt129.1) ((decide ((Int.tmod bt127.1 bt129.1) < 0)) != (decide (bt129.1 < 0)))))) else (whole_DivMod.j1 k a0 a1))) else (whole_DivMod.j1 k a0 a1)))) = some (r1, r2, r3) := h
 clear h
 by_cases c3 : a1.toList = ([48] : List UInt8)
 ·rw [if_pos c3] at H
  have c3b0 : (a1.toList == ([48] : List UInt8)) = true := beq_iff_eq.mpr c3
  have c3b1 : (a1.toList != ([48] : List UInt8)) = false := bne_eq_false_iff_eq.mpr c3
  clear c3
  simp only [Option.some.injEq, Prod.mk.injEq] at H
  obtain ⟨rfl, rfl, rfl⟩ := H
  go_enter Tryz.func129, Tryz.ntmps129
  go_wp2
  repeat (go_quiet (fail); try go_wp2)
  go_ret3
  exact ⟨by first | rfl | (simp [errW_none, errW_some] <;> rfl) | (simp [*, errW_none, errW_some] <;> rfl), by repeat (first | (with_reducible first | exact HB.out | apply below_alloc | apply pw_below_drewN | apply below_drew1) | exact HB.out)⟩
 ·rw [if_neg c3] at H
  have c3b0 : (a1.toList == ([48] : List UInt8)) = false := beq_eq_false_iff_ne.mpr c3
  have c3b1 : (a1.toList != ([48] : List UInt8)) = true := bne_iff_ne.mpr c3
  replace H := Option.bind_eq_some_iff.mp H
  obtain ⟨⟨t127, t128⟩, A40, H⟩ := H
  replace H : (if t128 = true then ((whole_little.f a1 18).bind fun bt129 => (if bt129.2 = true then (if bt129.1 = 0 then (none) else (if (Int.tmod t127 bt129.1) = 0 then (whole_DivMod.j0 k bt129.1 (wrap64 (Int.tdiv t127 bt129.1)) (Int.tmod t127 bt129.1) false) else (whole_DivMod.j0 k bt129.1 (wrap64 (Int.tdiv t127 bt129.1)) (Int.tmod t127 bt129.1) ((decide ((Int.tmod t127 bt129.1) < 0)) != (decide (bt129.1 < 0)))))) else (whole_DivMod.j1 k a0 a1))) else (whole_DivMod.j1 k a0 a1)) = some (r1, r2, r3) := H
  have A4 := Aside0.mk A40
  clear A40
  have HC5 := Aside0.mk H
  clear H
  go_enter Tryz.func129, Tryz.ntmps129
  go_upto_if 26 with (first | (go_at_call 153; (with_reducible refine (whole_little.calls a0 18 t127 t128 _ ?gG A4.out).mono ?_); (case gG => exact gw HG.out HB.out); rintro e w6 ⟨rfl, hb⟩; have n0_ := Aside0.mk (below_step (bl HB.out) hb); clear HB; have HB := n0_; clear n0_; (try clear hb); (try clear hb2); (try clear hk); (try clear hi)))
  repeat (go_quiet (first | (go_at_call 153; (with_reducible refine (whole_little.calls a0 18 t127 t128 _ ?gG A4.out).mono ?_); (case gG => exact gw HG.out HB.out); rintro e w6 ⟨rfl, hb⟩; have n0_ := Aside0.mk (below_step (bl HB.out) hb); clear HB; have HB := n0_; clear n0_; (try clear hb); (try clear hb2); (try clear hk); (try clear hi))); go_upto_if 26 with (first | (go_at_call 153; (with_reducible refine (whole_little.calls a0 18 t127 t128 _ ?gG A4.out).mono ?_); (case gG => exact gw HG.out HB.out); rintro e w6 ⟨rfl, hb⟩; have n0_ := Aside0.mk (below_step (bl HB.out) hb); clear HB; have HB := n0_; clear n0_; (try clear hb); (try clear hb2); (try clear hk); (try clear hi))))
  (try simp only [Act.put, List.setIfInBounds_toArray, List.set_cons_zero, List.set_cons_succ])
  go_cut [] (fun wc => ∃ (kq : Nat), Aside0 (whole_DivMod.j1 kq a0 a1 = some (r1, r2, r3)) ∧ Aside0 (kq ≤ k) ∧ Aside0 (Below w.heap.size w wc))
  case first =>
   have H := HC5.out
   clear HC5
   by_cases c7 : t128 = true
   ·subst c7
    have H1 : ((whole_little.f a1 18).bind fun bt129 => (if bt129.2 = true then (if bt129.1 = 0 then (none) else (if (Int.tmod t127 bt129.1) = 0 then (whole_DivMod.j0 k bt129.1 (wrap64 (Int.tdiv t127 bt129.1)) (Int.tmod t127 bt129.1) false) else (whole_DivMod.j0 k bt129.1 (wrap64 (Int.tdiv t127 bt129.1)) (Int.tmod t127 bt129.1) ((decide ((Int.tmod t127 bt129.1) < 0)) != (decide (bt129.1 < 0)))))) else (whole_DivMod.j1 k a0 a1))) = some (r1, r2, r3) := by rw [if_pos rfl] at H; exact H
    clear H
    have H := H1
    clear H1
    replace H := Option.bind_eq_some_iff.mp H
    obtain ⟨⟨t129, t130⟩, A80, H⟩ := H
    replace H : (if t130 = true then (if t129 = 0 then (none) else (if (Int.tmod t127 t129) = 0 then (whole_DivMod.j0 k t129 (wrap64 (Int.tdiv t127 t129)) (Int.tmod t127 t129) false) else (whole_DivMod.j0 k t129 (wrap64 (Int.tdiv t127 t129)) (Int.tmod t127 t129) ((decide ((Int.tmod t127 t129) < 0)) != (decide (t129 < 0)))))) else (whole_DivMod.j1 k a0 a1)) = some (r1, r2, r3) := H
    have A8 := Aside0.mk A80
    clear A80
    by_cases c9 : t130 = true
    ·subst c9
     have H1 : (if t129 = 0 then (none) else (if (Int.tmod t127 t129) = 0 then (whole_DivMod.j0 k t129 (wrap64 (Int.tdiv t127 t129)) (Int.tmod t127 t129) false) else (whole_DivMod.j0 k t129 (wrap64 (Int.tdiv t127 t129)) (Int.tmod t127 t129) ((decide ((Int.tmod t127 t129) < 0)) != (decide (t129 < 0)))))) = some (r1, r2, r3) := by rw [if_pos rfl] at H; exact H
     clear H
     have H := H1
     clear H1
     by_cases c10 : t129 = 0
     ·rw [if_pos c10] at H
      exact absurd H (by simp)
     ·rw [if_neg c10] at H
      have c10b0 : (t129 == 0) = false := beq_eq_false_iff_ne.mpr c10
      have c10b1 : (t129 != 0) = true := bne_iff_ne.mpr c10
      (first | rw [c10b0] | (simp only [i64_w, i32_w]; rw [c10b0]) | skip)
      have HC11 := Aside0.mk H
      clear H
      go_upto_region 8 with (first | (go_at_call 153; (with_reducible refine (whole_little.calls a1 18 t129 true _ ?gG A8.out).mono ?_); (case gG => exact gw HG.out HB.out); rintro e w12 ⟨rfl, hb⟩; have n0_ := Aside0.mk (below_step (bl HB.out) hb); clear HB; have HB := n0_; clear n0_; (try clear hb); (try clear hb2); (try clear hk); (try clear hi)))
      repeat (go_quiet (first | (go_at_call 153; (with_reducible refine (whole_little.calls a1 18 t129 true _ ?gG A8.out).mono ?_); (case gG => exact gw HG.out HB.out); rintro e w12 ⟨rfl, hb⟩; have n0_ := Aside0.mk (below_step (bl HB.out) hb); clear HB; have HB := n0_; clear n0_; (try clear hb); (try clear hb2); (try clear hk); (try clear hi))); go_upto_region 8 with (first | (go_at_call 153; (with_reducible refine (whole_little.calls a1 18 t129 true _ ?gG A8.out).mono ?_); (case gG => exact gw HG.out HB.out); rintro e w12 ⟨rfl, hb⟩; have n0_ := Aside0.mk (below_step (bl HB.out) hb); clear HB; have HB := n0_; clear n0_; (try clear hb); (try clear hb2); (try clear hk); (try clear hi))))
      (try simp only [Act.put, List.setIfInBounds_toArray, List.set_cons_zero, List.set_cons_succ])
      go_cut [47] (fun v47 wc => ∃ (kq : Nat) (x47_10 : Bool), v47 = .bool x47_10 ∧ Aside0 (whole_DivMod.j0 kq t129 (wrap64 (Int.tdiv t127 t129)) (Int.tmod t127 t129) x47_10 = some (r1, r2, r3)) ∧ Aside0 (kq ≤ k) ∧ Aside0 (Below w.heap.size w wc))
      case first =>
       have H := HC11.out
       clear HC11
       by_cases c13 : (Int.tmod t127 t129) = 0
       ·rw [if_pos c13] at H
        have c13b0 : ((Int.tmod t127 t129) == 0) = true := beq_iff_eq.mpr c13
        have c13b1 : ((Int.tmod t127 t129) != 0) = false := bne_eq_false_iff_eq.mpr c13
        clear c13
        (first | rw [c13b0] | (simp only [i64_w, i32_w]; rw [c13b0]) | skip)
        have H' := Aside0.mk H
        clear H
        go_wp2
        repeat (go_quiet (fail); try go_wp2)
        go_meet
        case rel => exact ⟨_, (false), (by first | rfl | (simp; done) | (simp [*]; done)), H', ⟨by first | omega | exact Nat.le_refl _⟩, ⟨by repeat (first | (with_reducible first | exact HB.out | apply below_alloc | apply pw_below_drewN | apply below_drew1) | exact HB.out)⟩⟩
       ·rw [if_neg c13] at H
        have c13b0 : ((Int.tmod t127 t129) == 0) = false := beq_eq_false_iff_ne.mpr c13
        have c13b1 : ((Int.tmod t127 t129) != 0) = true := bne_iff_ne.mpr c13
        (first | rw [c13b0] | (simp only [i64_w, i32_w]; rw [c13b0]) | skip)
        have H' := Aside0.mk H
        clear H
        go_wp2
        repeat (go_quiet (fail); try go_wp2)
        go_meet
        case rel => exact ⟨_, (((decide ((Int.tmod t127 t129) < 0)) != (decide (t129 < 0)))), (by first | rfl | (simp; done) | (simp [*]; done)), H', ⟨by first | omega | exact Nat.le_refl _⟩, ⟨by repeat (first | (with_reducible first | exact HB.out | apply below_alloc | apply pw_below_drewN | apply below_drew1) | exact HB.out)⟩⟩
      case rest =>
       clear HC11
       try clear c1
       try clear p2
       try clear c3
       try clear c3b0
       try clear c3b1
       try clear p6
       try clear c7
       try clear c9
       try clear c10
       try clear c10b0
       try clear c10b1
       try clear c12
       try clear c13
       try clear c13b0
       try clear c13b1
       obtain ⟨kq, x47_10, rfl, HA, HJ10, HB⟩ := hcut
       cases kq with
       | zero => exact absurd HA.out (by simp [whole_DivMod.j0])
       | succ kj10 =>
        have H := HA.out
        clear HA
        simp only [whole_DivMod.j0] at H
        by_cases c14 : x47_10 = true
        ·subst c14
         have H1 : ((whole_Of.f (wrap64 ((wrap64 (Int.tdiv t127 t129)) - 1))).bind fun t131 => ((whole_Of.f (wrap64 ((Int.tmod t127 t129) + t129))).bind fun t132 => (some (t131, t132, 0)))) = some (r1, r2, r3) := by rw [if_pos rfl] at H; exact H
         clear H
         have H := H1
         clear H1
         replace H := Option.bind_eq_some_iff.mp H
         obtain ⟨t131, A150, H⟩ := H
         replace H : ((whole_Of.f (wrap64 ((Int.tmod t127 t129) + t129))).bind fun t132 => (some (t131, t132, 0))) = some (r1, r2, r3) := H
         have A15 := Aside0.mk A150
         clear A150
         replace H := Option.bind_eq_some_iff.mp H
         obtain ⟨t132, A160, H⟩ := H
         replace H : (some (t131, t132, 0)) = some (r1, r2, r3) := H
         have A16 := Aside0.mk A160
         clear A160
         simp only [Option.some.injEq, Prod.mk.injEq] at H
         obtain ⟨rfl, rfl, rfl⟩ := H
         go_wp2_with (first | (go_at_call 111; (with_reducible refine (whole_Of.calls (wrap64 ((wrap64 (Int.tdiv t127 t129)) - 1)) t131 _ ?gG A15.out).mono ?_); (case gG => exact gw HG.out HB.out); rintro e w17 ⟨rfl, hb⟩; have n0_ := Aside0.mk (below_step (bl HB.out) hb); clear HB; have HB := n0_; clear n0_; (try clear hb); (try clear hb2); (try clear hk); (try clear hi)) | (go_at_call 111; (with_reducible refine (whole_Of.calls (wrap64 ((Int.tmod t127 t129) + t129)) t132 _ ?gG A16.out).mono ?_); (case gG => exact gw HG.out HB.out); rintro e w18 ⟨rfl, hb⟩; have n0_ := Aside0.mk (below_step (bl HB.out) hb); clear HB; have HB := n0_; clear n0_; (try clear hb); (try clear hb2); (try clear hk); (try clear hi)))
         repeat (go_quiet (first | (go_at_call 111; (with_reducible refine (whole_Of.calls (wrap64 ((wrap64 (Int.tdiv t127 t129)) - 1)) t131 _ ?gG A15.out).mono ?_); (case gG => exact gw HG.out HB.out); rintro e w17 ⟨rfl, hb⟩; have n0_ := Aside0.mk (below_step (bl HB.out) hb); clear HB; have HB := n0_; clear n0_; (try clear hb); (try clear hb2); (try clear hk); (try clear hi)) | (go_at_call 111; (with_reducible refine (whole_Of.calls (wrap64 ((Int.tmod t127 t129) + t129)) t132 _ ?gG A16.out).mono ?_); (case gG => exact gw HG.out HB.out); rintro e w18 ⟨rfl, hb⟩; have n0_ := Aside0.mk (below_step (bl HB.out) hb); clear HB; have HB := n0_; clear n0_; (try clear hb); (try clear hb2); (try clear hk); (try clear hi))); try go_wp2_with (first | (go_at_call 111; (with_reducible refine (whole_Of.calls (wrap64 ((wrap64 (Int.tdiv t127 t129)) - 1)) t131 _ ?gG A15.out).mono ?_); (case gG => exact gw HG.out HB.out); rintro e w17 ⟨rfl, hb⟩; have n0_ := Aside0.mk (below_step (bl HB.out) hb); clear HB; have HB := n0_; clear n0_; (try clear hb); (try clear hb2); (try clear hk); (try clear hi)) | (go_at_call 111; (with_reducible refine (whole_Of.calls (wrap64 ((Int.tmod t127 t129) + t129)) t132 _ ?gG A16.out).mono ?_); (case gG => exact gw HG.out HB.out); rintro e w18 ⟨rfl, hb⟩; have n0_ := Aside0.mk (below_step (bl HB.out) hb); clear HB; have HB := n0_; clear n0_; (try clear hb); (try clear hb2); (try clear hk); (try clear hi))))
         go_ret3
         exact ⟨by first | rfl | (simp [errW_none, errW_some] <;> rfl) | (simp [*, errW_none, errW_some] <;> rfl), by repeat (first | (with_reducible first | exact HB.out | apply below_alloc | apply pw_below_drewN | apply below_drew1) | exact HB.out)⟩
        ·replace c14 := Bool.eq_false_iff.mpr c14
         subst c14
         have H1 : ((whole_Of.f (wrap64 (Int.tdiv t127 t129))).bind fun t133 => ((whole_Of.f (Int.tmod t127 t129)).bind fun t134 => (some (t133, t134, 0)))) = some (r1, r2, r3) := by rw [if_neg (show ¬ (false = true) by decide)] at H; exact H
         clear H
         have H := H1
         clear H1
         replace H := Option.bind_eq_some_iff.mp H
         obtain ⟨t133, A190, H⟩ := H
         replace H : ((whole_Of.f (Int.tmod t127 t129)).bind fun t134 => (some (t133, t134, 0))) = some (r1, r2, r3) := H
         have A19 := Aside0.mk A190
         clear A190
         replace H := Option.bind_eq_some_iff.mp H
         obtain ⟨t134, A200, H⟩ := H
         replace H : (some (t133, t134, 0)) = some (r1, r2, r3) := H
         have A20 := Aside0.mk A200
         clear A200
         simp only [Option.some.injEq, Prod.mk.injEq] at H
         obtain ⟨rfl, rfl, rfl⟩ := H
         go_wp2_with (first | (go_at_call 111; (with_reducible refine (whole_Of.calls (wrap64 (Int.tdiv t127 t129)) t133 _ ?gG A19.out).mono ?_); (case gG => exact gw HG.out HB.out); rintro e w21 ⟨rfl, hb⟩; have n0_ := Aside0.mk (below_step (bl HB.out) hb); clear HB; have HB := n0_; clear n0_; (try clear hb); (try clear hb2); (try clear hk); (try clear hi)) | (go_at_call 111; (with_reducible refine (whole_Of.calls (Int.tmod t127 t129) t134 _ ?gG A20.out).mono ?_); (case gG => exact gw HG.out HB.out); rintro e w22 ⟨rfl, hb⟩; have n0_ := Aside0.mk (below_step (bl HB.out) hb); clear HB; have HB := n0_; clear n0_; (try clear hb); (try clear hb2); (try clear hk); (try clear hi)))
         repeat (go_quiet (first | (go_at_call 111; (with_reducible refine (whole_Of.calls (wrap64 (Int.tdiv t127 t129)) t133 _ ?gG A19.out).mono ?_); (case gG => exact gw HG.out HB.out); rintro e w21 ⟨rfl, hb⟩; have n0_ := Aside0.mk (below_step (bl HB.out) hb); clear HB; have HB := n0_; clear n0_; (try clear hb); (try clear hb2); (try clear hk); (try clear hi)) | (go_at_call 111; (with_reducible refine (whole_Of.calls (Int.tmod t127 t129) t134 _ ?gG A20.out).mono ?_); (case gG => exact gw HG.out HB.out); rintro e w22 ⟨rfl, hb⟩; have n0_ := Aside0.mk (below_step (bl HB.out) hb); clear HB; have HB := n0_; clear n0_; (try clear hb); (try clear hb2); (try clear hk); (try clear hi))); try go_wp2_with (first | (go_at_call 111; (with_reducible refine (whole_Of.calls (wrap64 (Int.tdiv t127 t129)) t133 _ ?gG A19.out).mono ?_); (case gG => exact gw HG.out HB.out); rintro e w21 ⟨rfl, hb⟩; have n0_ := Aside0.mk (below_step (bl HB.out) hb); clear HB; have HB := n0_; clear n0_; (try clear hb); (try clear hb2); (try clear hk); (try clear hi)) | (go_at_call 111; (with_reducible refine (whole_Of.calls (Int.tmod t127 t129) t134 _ ?gG A20.out).mono ?_); (case gG => exact gw HG.out HB.out); rintro e w22 ⟨rfl, hb⟩; have n0_ := Aside0.mk (below_step (bl HB.out) hb); clear HB; have HB := n0_; clear n0_; (try clear hb); (try clear hb2); (try clear hk); (try clear hi))))
         go_ret3
         exact ⟨by first | rfl | (simp [errW_none, errW_some] <;> rfl) | (simp [*, errW_none, errW_some] <;> rfl), by repeat (first | (with_reducible first | exact HB.out | apply below_alloc | apply pw_below_drewN | apply below_drew1) | exact HB.out)⟩
    ·replace c9 := Bool.eq_false_iff.mpr c9
     subst c9
     have H1 : (whole_DivMod.j1 k a0 a1) = some (r1, r2, r3) := by rw [if_neg (show ¬ (false = true) by decide)] at H; exact H
     clear H
     have H := H1
     clear H1
     have H' := Aside0.mk H
     clear H
     go_wp2_with (first | (go_at_call 153; (with_reducible refine (whole_little.calls a1 18 t129 false _ ?gG A8.out).mono ?_); (case gG => exact gw HG.out HB.out); rintro e w23 ⟨rfl, hb⟩; have n0_ := Aside0.mk (below_step (bl HB.out) hb); clear HB; have HB := n0_; clear n0_; (try clear hb); (try clear hb2); (try clear hk); (try clear hi)))
     repeat (go_quiet (first | (go_at_call 153; (with_reducible refine (whole_little.calls a1 18 t129 false _ ?gG A8.out).mono ?_); (case gG => exact gw HG.out HB.out); rintro e w23 ⟨rfl, hb⟩; have n0_ := Aside0.mk (below_step (bl HB.out) hb); clear HB; have HB := n0_; clear n0_; (try clear hb); (try clear hb2); (try clear hk); (try clear hi))); try go_wp2_with (first | (go_at_call 153; (with_reducible refine (whole_little.calls a1 18 t129 false _ ?gG A8.out).mono ?_); (case gG => exact gw HG.out HB.out); rintro e w23 ⟨rfl, hb⟩; have n0_ := Aside0.mk (below_step (bl HB.out) hb); clear HB; have HB := n0_; clear n0_; (try clear hb); (try clear hb2); (try clear hk); (try clear hi))))
     go_meet
     case rel => exact ⟨_, H', ⟨by first | omega | exact Nat.le_refl _⟩, ⟨by repeat (first | (with_reducible first | exact HB.out | apply below_alloc | apply pw_below_drewN | apply below_drew1) | exact HB.out)⟩⟩
   ·replace c7 := Bool.eq_false_iff.mpr c7
    subst c7
    have H1 : (whole_DivMod.j1 k a0 a1) = some (r1, r2, r3) := by rw [if_neg (show ¬ (false = true) by decide)] at H; exact H
    clear H
    have H := H1
    clear H1
    have H' := Aside0.mk H
    clear H
    go_wp2
    repeat (go_quiet (fail); try go_wp2)
    go_meet
    case rel => exact ⟨_, H', ⟨by first | omega | exact Nat.le_refl _⟩, ⟨by repeat (first | (with_reducible first | exact HB.out | apply below_alloc | apply pw_below_drewN | apply below_drew1) | exact HB.out)⟩⟩
  case rest =>
   clear HC5
   try clear c1
   try clear p2
   try clear c3
   try clear c3b0
   try clear c3b1
   try clear p6
   try clear c7
   try clear c9
   try clear c10
   try clear c10b0
   try clear c10b1
   try clear c12
   try clear c13
   try clear c13b0
   try clear c13b1
   try clear c14
   try clear p2
   try clear p6
   obtain ⟨kq, HA, HJ4, HB⟩ := hcut
   cases kq with
   | zero => exact absurd HA.out (by simp [whole_DivMod.j1])
   | succ kj4 =>
    have H := HA.out
    clear HA
    simp only [whole_DivMod.j1] at H
    replace H := Option.bind_eq_some_iff.mp H
    obtain ⟨⟨t135, t136⟩, A240, H⟩ := H
    replace H : ((whole_split.f a1).bind fun bt137 => ((decimal_DivMod.f kj4 t136 bt137.2).bind fun bt139 => (if bt139.2.2 = 0 then (if (t135 != bt137.1) = true then (whole_DivMod.j2 kj4 t135 bt137.1 bt137.2 bt139.1 bt139.2.1 (bt139.2.1.toList != ([48] : List UInt8))) else (whole_DivMod.j2 kj4 t135 bt137.1 bt137.2 bt139.1 bt139.2.1 false)) else (some ((⟨#[]⟩ : ByteArray), (⟨#[]⟩ : ByteArray), bt139.2.2))))) = some (r1, r2, r3) := H
    have A24 := Aside0.mk A240
    clear A240
    replace H := Option.bind_eq_some_iff.mp H
    obtain ⟨⟨t137, t138⟩, A250, H⟩ := H
    replace H : ((decimal_DivMod.f kj4 t136 t138).bind fun bt139 => (if bt139.2.2 = 0 then (if (t135 != t137) = true then (whole_DivMod.j2 kj4 t135 t137 t138 bt139.1 bt139.2.1 (bt139.2.1.toList != ([48] : List UInt8))) else (whole_DivMod.j2 kj4 t135 t137 t138 bt139.1 bt139.2.1 false)) else (some ((⟨#[]⟩ : ByteArray), (⟨#[]⟩ : ByteArray), bt139.2.2)))) = some (r1, r2, r3) := H
    have A25 := Aside0.mk A250
    clear A250
    replace H := Option.bind_eq_some_iff.mp H
    obtain ⟨_, A_, -⟩ := H
    exact nomatch A_
def whole_Gcd.f (k : Nat) (a0 : ByteArray) (a1 : ByteArray) : Option (ByteArray) := (whole_Abs.f a0).bind fun t151 => ((whole_Abs.f a1).bind fun t152 => ((whole_little.f t151 18).bind fun bt153 => (if bt153.2 = true then ((whole_little.f t152 18).bind fun bt155 => (if bt155.2 = true then ((whole_gcd.f k bt153.1 bt155.1).bind fun t157 => ((whole_Of.f t157).bind fun t158 => (some t158))) else ((decimal_Gcd.f k t151 t152).bind fun t159 => (some t159)))) else ((decimal_Gcd.f k t151 t152).bind fun t160 => (some t160)))))
set_option maxHeartbeats 8000000 in
set_option maxRecDepth 100000 in
theorem whole_Gcd.calls (k : Nat) (a0 : ByteArray) (a1 : ByteArray) (r : ByteArray) (w : World) (hG : GW w) (h : whole_Gcd.f k a0 a1 = some r) :
  Calls Tryz.prog 183 #[.string a0, .string a1] w fun e w' => e = .returned (.string r) ∧ Below w.heap.size w w' := by
 have HG := Aside0.mk hG
 clear hG
 have HB := Aside0.mk (Below.refl w.heap.size w)
 have H : ((whole_Abs.f a0).bind fun t151 => ((whole_Abs.f a1).bind fun t152 => ((whole_little.f t151 18).bind fun bt153 => (if bt153.2 = true then ((whole_little.f t152 18).bind fun bt155 => (if bt155.2 = true then ((whole_gcd.f k bt153.1 bt155.1).bind fun t157 => ((whole_Of.f t157).bind fun t158 => (some t158))) else ((decimal_Gcd.f k t151 t152).bind fun t159 => (some t159)))) else ((decimal_Gcd.f k t151 t152).bind fun t160 => (some t160)))))) = some r := h
 clear h
 replace H := Option.bind_eq_some_iff.mp H
 obtain ⟨t151, A30, H⟩ := H
 replace H : ((whole_Abs.f a1).bind fun t152 => ((whole_little.f t151 18).bind fun bt153 => (if bt153.2 = true then ((whole_little.f t152 18).bind fun bt155 => (if bt155.2 = true then ((whole_gcd.f k bt153.1 bt155.1).bind fun t157 => ((whole_Of.f t157).bind fun t158 => (some t158))) else ((decimal_Gcd.f k t151 t152).bind fun t159 => (some t159)))) else ((decimal_Gcd.f k t151 t152).bind fun t160 => (some t160))))) = some r := H
 have A3 := Aside0.mk A30
 clear A30
 replace H := Option.bind_eq_some_iff.mp H
 obtain ⟨t152, A40, H⟩ := H
 replace H : ((whole_little.f t151 18).bind fun bt153 => (if bt153.2 = true then ((whole_little.f t152 18).bind fun bt155 => (if bt155.2 = true then ((whole_gcd.f k bt153.1 bt155.1).bind fun t157 => ((whole_Of.f t157).bind fun t158 => (some t158))) else ((decimal_Gcd.f k t151 t152).bind fun t159 => (some t159)))) else ((decimal_Gcd.f k t151 t152).bind fun t160 => (some t160)))) = some r := H
 have A4 := Aside0.mk A40
 clear A40
 replace H := Option.bind_eq_some_iff.mp H
 obtain ⟨⟨t153, t154⟩, A50, H⟩ := H
 replace H : (if t154 = true then ((whole_little.f t152 18).bind fun bt155 => (if bt155.2 = true then ((whole_gcd.f k t153 bt155.1).bind fun t157 => ((whole_Of.f t157).bind fun t158 => (some t158))) else ((decimal_Gcd.f k t151 t152).bind fun t159 => (some t159)))) else ((decimal_Gcd.f k t151 t152).bind fun t160 => (some t160))) = some r := H
 have A5 := Aside0.mk A50
 clear A50
 by_cases c6 : t154 = true
 ·subst c6
  have H1 : ((whole_little.f t152 18).bind fun bt155 => (if bt155.2 = true then ((whole_gcd.f k t153 bt155.1).bind fun t157 => ((whole_Of.f t157).bind fun t158 => (some t158))) else ((decimal_Gcd.f k t151 t152).bind fun t159 => (some t159)))) = some r := by rw [if_pos rfl] at H; exact H
  clear H
  have H := H1
  clear H1
  replace H := Option.bind_eq_some_iff.mp H
  obtain ⟨⟨t155, t156⟩, A70, H⟩ := H
  replace H : (if t156 = true then ((whole_gcd.f k t153 t155).bind fun t157 => ((whole_Of.f t157).bind fun t158 => (some t158))) else ((decimal_Gcd.f k t151 t152).bind fun t159 => (some t159))) = some r := H
  have A7 := Aside0.mk A70
  clear A70
  by_cases c8 : t156 = true
  ·subst c8
   have H1 : ((whole_gcd.f k t153 t155).bind fun t157 => ((whole_Of.f t157).bind fun t158 => (some t158))) = some r := by rw [if_pos rfl] at H; exact H
   clear H
   have H := H1
   clear H1
   replace H := Option.bind_eq_some_iff.mp H
   obtain ⟨t157, A90, H⟩ := H
   replace H : ((whole_Of.f t157).bind fun t158 => (some t158)) = some r := H
   have A9 := Aside0.mk A90
   clear A90
   replace H := Option.bind_eq_some_iff.mp H
   obtain ⟨t158, A100, H⟩ := H
   replace H : (some t158) = some r := H
   have A10 := Aside0.mk A100
   clear A100
   obtain rfl := Option.some.inj H
   go_enter Tryz.func183, Tryz.ntmps183
   go_wp2_with (first | ((with_reducible refine gate_callee (f := 191) rfl ?_); refine goesL_ (some 12) rfl rfl Tryz.func191 (by kernel_rfl) rfl #[.string a0] rfl (by (try simp only [List.map_toArray, List.map_cons, List.map_nil]); first | done | rfl | (simp only [List.length_drop, List.length_take]; rfl)) ?_; (with_reducible refine (whole_Abs.calls a0 t151 _ A3.out).mono ?_); rintro e w' ⟨rfl, ⟨nd, rfl⟩⟩; refine ⟨_, rfl, ?_⟩) | ((with_reducible refine gate_callee (f := 191) rfl ?_); refine goesL_ (some 14) rfl rfl Tryz.func191 (by kernel_rfl) rfl #[.string a1] rfl (by (try simp only [List.map_toArray, List.map_cons, List.map_nil]); first | done | rfl | (simp only [List.length_drop, List.length_take]; rfl)) ?_; (with_reducible refine (whole_Abs.calls a1 t152 _ A4.out).mono ?_); rintro e w' ⟨rfl, ⟨nd, rfl⟩⟩; refine ⟨_, rfl, ?_⟩) | ((with_reducible refine gate_callee (f := 153) rfl ?_); refine goesL_ (some 17) rfl rfl Tryz.func153 (by kernel_rfl) rfl #[.string t151, .int .i64 18] rfl (by (try simp only [List.map_toArray, List.map_cons, List.map_nil]); first | done | rfl | (simp only [List.length_drop, List.length_take]; rfl)) ?_; (with_reducible refine (whole_little.calls t151 18 t153 true _ ?gG A5.out).mono ?_); (case gG => exact gw HG.out HB.out); rintro e w11 ⟨rfl, hb⟩; refine ⟨_, rfl, ?_⟩; have n0_ := Aside0.mk (below_step (bl HB.out) hb); clear HB; have HB := n0_; clear n0_; (try clear hb); (try clear hb2); (try clear hk); (try clear hi)) | ((with_reducible refine gate_callee (f := 153) rfl ?_); refine goesL_ (some 23) rfl rfl Tryz.func153 (by kernel_rfl) rfl #[.string t152, .int .i64 18] rfl (by (try simp only [List.map_toArray, List.map_cons, List.map_nil]); first | done | rfl | (simp only [List.length_drop, List.length_take]; rfl)) ?_; (with_reducible refine (whole_little.calls t152 18 t155 true _ ?gG A7.out).mono ?_); (case gG => exact gw HG.out HB.out); rintro e w12 ⟨rfl, hb⟩; refine ⟨_, rfl, ?_⟩; have n0_ := Aside0.mk (below_step (bl HB.out) hb); clear HB; have HB := n0_; clear n0_; (try clear hb); (try clear hb2); (try clear hk); (try clear hi)) | ((with_reducible refine gate_callee (f := 228) rfl ?_); refine goesL_ (some 29) rfl rfl Tryz.func228 (by kernel_rfl) rfl #[.int .i64 t153, .int .i64 t155] rfl (by (try simp only [List.map_toArray, List.map_cons, List.map_nil]); first | done | rfl | (simp only [List.length_drop, List.length_take]; rfl)) ?_; (with_reducible refine (whole_gcd.calls k t153 t155 t157 _ A9.out).mono ?_); rintro e w' ⟨rfl, ⟨nd, rfl⟩⟩; refine ⟨_, rfl, ?_⟩) | ((with_reducible refine gate_callee (f := 111) rfl ?_); refine goesL_ (some 30) rfl rfl Tryz.func111 (by kernel_rfl) rfl #[.int .i64 t157] rfl (by (try simp only [List.map_toArray, List.map_cons, List.map_nil]); first | done | rfl | (simp only [List.length_drop, List.length_take]; rfl)) ?_; (with_reducible refine (whole_Of.calls t157 t158 _ ?gG A10.out).mono ?_); (case gG => exact gw HG.out HB.out); rintro e w13 ⟨rfl, hb⟩; refine ⟨_, rfl, ?_⟩; have n0_ := Aside0.mk (below_step (bl HB.out) hb); clear HB; have HB := n0_; clear n0_; (try clear hb); (try clear hb2); (try clear hk); (try clear hi)))
   go_ret
   exact ⟨by first | rfl | (simp [errW_none, errW_some] <;> rfl) | (simp [*, errW_none, errW_some] <;> rfl), by repeat (first | (with_reducible first | exact HB.out | apply below_alloc | apply pw_below_drewN | apply below_drew1) | exact HB.out)⟩
  ·replace c8 := Bool.eq_false_iff.mpr c8
   subst c8
   have H1 : ((decimal_Gcd.f k t151 t152).bind fun t159 => (some t159)) = some r := by rw [if_neg (show ¬ (false = true) by decide)] at H; exact H
   clear H
   have H := H1
   clear H1
   replace H := Option.bind_eq_some_iff.mp H
   obtain ⟨_, A_, -⟩ := H
   exact nomatch A_
 ·replace c6 := Bool.eq_false_iff.mpr c6
  subst c6
  have H1 : ((decimal_Gcd.f k t151 t152).bind fun t160 => (some t160)) = some r := by rw [if_neg (show ¬ (false = true) by decide)] at H; exact H
  clear H
  have H := H1
  clear H1
  replace H := Option.bind_eq_some_iff.mp H
  obtain ⟨_, A_, -⟩ := H
  exact nomatch A_
def fraction_lowest.j0 : Nat → ByteArray → ByteArray → Option (ByteArray × ByteArray)
 | 0, _, _ => none
 | k + 1, x0, x1 => (whole_Gcd.f k x0 x1).bind fun t165 => (if t165.toList = ([49] : List UInt8) then (some (x0, x1)) else ((whole_DivMod.f k x0 t165).bind fun bt166 => ((whole_DivMod.f k x1 t165).bind fun bt169 => (some (bt166.1, bt169.1)))))
def fraction_lowest.f (k : Nat) (a0 : ByteArray) (a1 : ByteArray) : Option (ByteArray × ByteArray) := (whole_Sign.f a1).bind fun t162 => (if t162 < 0 then ((whole_Neg.f a0).bind fun t163 => ((whole_Neg.f a1).bind fun t164 => (fraction_lowest.j0 k t163 t164))) else (fraction_lowest.j0 k a0 a1))
set_option maxHeartbeats 8000000 in
set_option maxRecDepth 100000 in
theorem fraction_lowest.calls (k : Nat) (a0 : ByteArray) (a1 : ByteArray) (r1 : ByteArray) (r2 : ByteArray) (w : World) (hG : GW w) (h : fraction_lowest.f k a0 a1 = some (r1, r2)) :
  Calls Tryz.prog 152 #[.string a0, .string a1] w fun e w' => e = .returned (.agg #[.string r1, .string r2]) ∧ Below w.heap.size w w' := by
 have HG := Aside0.mk hG
 clear hG
 have hu103 := Tryz.underlying103
 have HB := Aside0.mk (Below.refl w.heap.size w)
 have H : ((whole_Sign.f a1).bind fun t162 => (if t162 < 0 then ((whole_Neg.f a0).bind fun t163 => ((whole_Neg.f a1).bind fun t164 => (fraction_lowest.j0 k t163 t164))) else (fraction_lowest.j0 k a0 a1))) = some (r1, r2) := h
 clear h
 replace H := Option.bind_eq_some_iff.mp H
 obtain ⟨t162, A30, H⟩ := H
 replace H : (if t162 < 0 then ((whole_Neg.f a0).bind fun t163 => ((whole_Neg.f a1).bind fun t164 => (fraction_lowest.j0 k t163 t164))) else (fraction_lowest.j0 k a0 a1)) = some (r1, r2) := H
 have A3 := Aside0.mk A30
 clear A30
 have HC4 := Aside0.mk H
 clear H
 go_enter Tryz.func152, Tryz.ntmps152
 go_upto_if 8 with (first | ((with_reducible refine gate_dst (N := 4) rfl ?_); refine box_event ?hg (N := 4) ?hd (cs := #[.string (⟨#[]⟩ : ByteArray), .string (⟨#[]⟩ : ByteArray)]) (t := 103) ?hr ?_; (case hd => rfl); (case hg => rfl); (case hr => first | (go_simp; done) | (go_simp; rfl)); intro gb161 hg w5 hbox hb; have n0_ := Aside0.mk (below_step (bl HB.out) hb); have n1_ := Aside0.mk (hbox); have n2_ := Aside0.mk ((by rw [hg]; exact (below_size (bl HB.out)) : w.heap.size ≤ gb161)); have n3_ := Aside0.mk ((by rw [hg]; exact (below_size (bl HB.out)) : w.heap.size ≤ gb161)); clear HB; have HB := n0_; have BK161 := n1_; have GW161 := n2_; have GE161 := n3_; clear n0_ n1_ n2_ n3_; clear hb hbox hg) | ((with_reducible refine gate_callee (f := 128) rfl ?_); refine goesL_ (some 7) rfl rfl Tryz.func128 (by kernel_rfl) rfl #[.string a1] rfl (by (try simp only [List.map_toArray, List.map_cons, List.map_nil]); first | done | rfl | (simp only [List.length_drop, List.length_take]; rfl)) ?_; (with_reducible refine (whole_Sign.calls a1 t162 _ A3.out).mono ?_); rintro e w' ⟨rfl, ⟨nd, rfl⟩⟩; refine ⟨_, rfl, ?_⟩))
 (try simp only [Act.put, List.setIfInBounds_toArray, List.set_cons_zero, List.set_cons_succ])
 go_cut [0, 1] (fun v0 v1 wc => ∃ (kq : Nat) (x0_3 : ByteArray) (x1_3 : ByteArray), v0 = .string x0_3 ∧ v1 = .string x1_3 ∧ Aside0 (fraction_lowest.j0 kq x0_3 x1_3 = some (r1, r2)) ∧ Aside0 (kq ≤ k) ∧ Aside0 (wc.heap[gb161]? = some (.cells #[.string (⟨#[]⟩ : ByteArray), .string (⟨#[]⟩ : ByteArray)] 103 (0, 0))) ∧ Aside0 (Below w.heap.size w wc))
 case first =>
  have H := HC4.out
  clear HC4
  by_cases c6 : t162 < 0
  ·rw [if_pos c6] at H
   have c6b0 : decide (t162 < 0) = true := decide_eq_true c6
   clear c6
   (first | rw [c6b0] | (simp only [i64_w, i32_w]; rw [c6b0]) | skip)
   replace H := Option.bind_eq_some_iff.mp H
   obtain ⟨t163, A70, H⟩ := H
   replace H : ((whole_Neg.f a1).bind fun t164 => (fraction_lowest.j0 k t163 t164)) = some (r1, r2) := H
   have A7 := Aside0.mk A70
   clear A70
   replace H := Option.bind_eq_some_iff.mp H
   obtain ⟨t164, A80, H⟩ := H
   replace H : (fraction_lowest.j0 k t163 t164) = some (r1, r2) := H
   have A8 := Aside0.mk A80
   clear A80
   have H' := Aside0.mk H
   clear H
   go_wp2_with (first | ((with_reducible refine gate_callee (f := 78) rfl ?_); refine goesL_ (some 10) rfl rfl Tryz.func78 (by kernel_rfl) rfl #[.string a0] rfl (by (try simp only [List.map_toArray, List.map_cons, List.map_nil]); first | done | rfl | (simp only [List.length_drop, List.length_take]; rfl)) ?_; (with_reducible refine (whole_Neg.calls a0 t163 _ A7.out).mono ?_); rintro e w' ⟨rfl, ⟨nd, rfl⟩⟩; refine ⟨_, rfl, ?_⟩) | ((with_reducible refine gate_callee (f := 78) rfl ?_); refine goesL_ (some 12) rfl rfl Tryz.func78 (by kernel_rfl) rfl #[.string a1] rfl (by (try simp only [List.map_toArray, List.map_cons, List.map_nil]); first | done | rfl | (simp only [List.length_drop, List.length_take]; rfl)) ?_; (with_reducible refine (whole_Neg.calls a1 t164 _ A8.out).mono ?_); rintro e w' ⟨rfl, ⟨nd, rfl⟩⟩; refine ⟨_, rfl, ?_⟩))
   go_meet
   case rel => exact ⟨_, (t163), (t164), (by first | rfl | (simp; done) | (simp [*]; done)), (by first | rfl | (simp; done) | (simp [*]; done)), H', ⟨by first | omega | exact Nat.le_refl _⟩, ⟨by (with_reducible repeat (first | refine blk_drewN ?_ _ | refine blk_drew ?_ | refine blk_alloc ?_ _)); exact BK161.out⟩, ⟨by repeat (first | (with_reducible first | exact HB.out | apply below_alloc | apply pw_below_drewN | apply below_drew1 | refine below_set ?_ GE161.out) | exact HB.out)⟩⟩
  ·rw [if_neg c6] at H
   have c6b0 : decide (t162 < 0) = false := decide_eq_false c6
   clear c6
   (first | rw [c6b0] | (simp only [i64_w, i32_w]; rw [c6b0]) | skip)
   have H' := Aside0.mk H
   clear H
   go_wp2
   go_meet
   case rel => exact ⟨_, (a0), (a1), (by first | rfl | (simp; done) | (simp [*]; done)), (by first | rfl | (simp; done) | (simp [*]; done)), H', ⟨by first | omega | exact Nat.le_refl _⟩, ⟨by (with_reducible repeat (first | refine blk_drewN ?_ _ | refine blk_drew ?_ | refine blk_alloc ?_ _)); exact BK161.out⟩, ⟨by repeat (first | (with_reducible first | exact HB.out | apply below_alloc | apply pw_below_drewN | apply below_drew1 | refine below_set ?_ GE161.out) | exact HB.out)⟩⟩
 case rest =>
  clear HC4
  try clear c1
  try clear p2
  try clear c6
  try clear c6b0
  try clear c7
  obtain ⟨kq, x0_3, x1_3, rfl, rfl, HA, HJ3, BK161, HB⟩ := hcut
  cases kq with
  | zero => exact absurd HA.out (by simp [fraction_lowest.j0])
  | succ kj3 =>
   have H := HA.out
   clear HA
   simp only [fraction_lowest.j0] at H
   replace H := Option.bind_eq_some_iff.mp H
   obtain ⟨t165, A90, H⟩ := H
   replace H : (if t165.toList = ([49] : List UInt8) then (some (x0_3, x1_3)) else ((whole_DivMod.f kj3 x0_3 t165).bind fun bt166 => ((whole_DivMod.f kj3 x1_3 t165).bind fun bt169 => (some (bt166.1, bt169.1))))) = some (r1, r2) := H
   have A9 := Aside0.mk A90
   clear A90
   by_cases c10 : t165.toList = ([49] : List UInt8)
   ·rw [if_pos c10] at H
    have c10b0 : (t165.toList == ([49] : List UInt8)) = true := beq_iff_eq.mpr c10
    have c10b1 : (t165.toList != ([49] : List UInt8)) = false := bne_eq_false_iff_eq.mpr c10
    clear c10
    simp only [Option.some.injEq, Prod.mk.injEq] at H
    obtain ⟨rfl, rfl⟩ := H
    go_wp2_with (first | ((with_reducible refine gate_callee (f := 183) rfl ?_); refine goesL_ (some 15) rfl rfl Tryz.func183 (by kernel_rfl) rfl #[.string x0_3, .string x1_3] rfl (by (try simp only [List.map_toArray, List.map_cons, List.map_nil]); first | done | rfl | (simp only [List.length_drop, List.length_take]; rfl)) ?_; (with_reducible refine (whole_Gcd.calls kj3 x0_3 x1_3 t165 _ ?gG A9.out).mono ?_); (case gG => first | exact HG.out | exact GW.below HG.out (by repeat (first | (with_reducible first | exact HB.out | apply below_alloc | apply pw_below_drewN | apply below_drew1 | refine below_set ?_ GE161.out) | exact HB.out))); rintro e w11 ⟨rfl, hb⟩; refine ⟨_, rfl, ?_⟩; have n0_ := Aside0.mk (blk_below (g := gb161) (o := .cells #[.string (⟨#[]⟩ : ByteArray), .string (⟨#[]⟩ : ByteArray)] 103 (0, 0)) (bx BK161.out) hb); have n1_ := Aside0.mk (below_step (by repeat (first | (with_reducible first | exact HB.out | apply below_alloc | apply pw_below_drewN | apply below_drew1 | refine below_set ?_ GE161.out) | exact HB.out)) hb); clear BK161; clear HB; have BK161 := n0_; have HB := n1_; clear n0_ n1_; (try clear hb); (try clear hb2); (try clear hk); (try clear hi); have hcz12_0 : w11.cell? ⟨gb161, 0, none⟩ = some (.string (⟨#[]⟩ : ByteArray)) := (blk_cell BK161.out 0).trans rfl; have hcz12_1 : w11.cell? ⟨gb161, 1, none⟩ = some (.string (⟨#[]⟩ : ByteArray)) := (blk_cell BK161.out 1).trans rfl; have hfz12_0 := blk_frozen BK161.out 0; have hfz12_1 := blk_frozen BK161.out 1))
    refine bodyPost_ret (results_cell_row rfl _ _ gb161 103 #[.string x0_3, .string x1_3] (0, 0) _ rfl (by (with_reducible repeat (first | refine blk_drewN ?_ _ | refine blk_drew ?_ | refine blk_alloc ?_ _)); refine blk_put (cs := #[.string x0_3, .string (⟨#[]⟩ : ByteArray)]) ?_ 1 _ rfl; (with_reducible repeat (first | refine blk_drewN ?_ _ | refine blk_drew ?_ | refine blk_alloc ?_ _)); refine blk_put (cs := #[.string (⟨#[]⟩ : ByteArray), .string (⟨#[]⟩ : ByteArray)]) ?_ 0 _ rfl; (with_reducible repeat (first | refine blk_drewN ?_ _ | refine blk_drew ?_ | refine blk_alloc ?_ _)); exact BK161.out) Tryz.underlying103 rfl (by kernel_rfl)) rfl ?_
    exact ⟨by first | rfl | (simp [errW_none, errW_some] <;> rfl) | (simp [*, errW_none, errW_some] <;> rfl), by repeat (first | (with_reducible first | exact HB.out | apply below_alloc | apply pw_below_drewN | apply below_drew1 | refine below_set ?_ GE161.out) | exact HB.out)⟩
   ·rw [if_neg c10] at H
    have c10b0 : (t165.toList == ([49] : List UInt8)) = false := beq_eq_false_iff_ne.mpr c10
    have c10b1 : (t165.toList != ([49] : List UInt8)) = true := bne_iff_ne.mpr c10
    replace H := Option.bind_eq_some_iff.mp H
    obtain ⟨⟨t166, t167, t168⟩, A130, H⟩ := H
    replace H : ((whole_DivMod.f kj3 x1_3 t165).bind fun bt169 => (some (t166, bt169.1))) = some (r1, r2) := H
    have A13 := Aside0.mk A130
    clear A130
    replace H := Option.bind_eq_some_iff.mp H
    obtain ⟨⟨t169, t170, t171⟩, A140, H⟩ := H
    replace H : (some (t166, t169)) = some (r1, r2) := H
    have A14 := Aside0.mk A140
    clear A140
    simp only [Option.some.injEq, Prod.mk.injEq] at H
    obtain ⟨rfl, rfl⟩ := H
    go_wp2_with (first | ((with_reducible refine gate_callee (f := 183) rfl ?_); refine goesL_ (some 15) rfl rfl Tryz.func183 (by kernel_rfl) rfl #[.string x0_3, .string x1_3] rfl (by (try simp only [List.map_toArray, List.map_cons, List.map_nil]); first | done | rfl | (simp only [List.length_drop, List.length_take]; rfl)) ?_; (with_reducible refine (whole_Gcd.calls kj3 x0_3 x1_3 t165 _ ?gG A9.out).mono ?_); (case gG => first | exact HG.out | exact GW.below HG.out (by repeat (first | (with_reducible first | exact HB.out | apply below_alloc | apply pw_below_drewN | apply below_drew1 | refine below_set ?_ GE161.out) | exact HB.out))); rintro e w15 ⟨rfl, hb⟩; refine ⟨_, rfl, ?_⟩; have n0_ := Aside0.mk (blk_below (g := gb161) (o := .cells #[.string (⟨#[]⟩ : ByteArray), .string (⟨#[]⟩ : ByteArray)] 103 (0, 0)) (bx BK161.out) hb); have n1_ := Aside0.mk (below_step (by repeat (first | (with_reducible first | exact HB.out | apply below_alloc | apply pw_below_drewN | apply below_drew1 | refine below_set ?_ GE161.out) | exact HB.out)) hb); clear BK161; clear HB; have BK161 := n0_; have HB := n1_; clear n0_ n1_; (try clear hb); (try clear hb2); (try clear hk); (try clear hi)) | ((with_reducible refine gate_callee (f := 129) rfl ?_); refine goesL_ (some 21) rfl rfl Tryz.func129 (by kernel_rfl) rfl #[.string x0_3, .string t165] rfl (by (try simp only [List.map_toArray, List.map_cons, List.map_nil]); first | done | rfl | (simp only [List.length_drop, List.length_take]; rfl)) ?_; (with_reducible refine (whole_DivMod.calls kj3 x0_3 t165 t166 t167 t168 _ ?gG A13.out).mono ?_); (case gG => first | exact HG.out | exact GW.below HG.out (by repeat (first | (with_reducible first | exact HB.out | apply below_alloc | apply pw_below_drewN | apply below_drew1 | refine below_set ?_ GE161.out) | exact HB.out))); rintro e w16 ⟨rfl, hb⟩; refine ⟨_, rfl, ?_⟩; have n0_ := Aside0.mk (blk_below (g := gb161) (o := .cells #[.string (⟨#[]⟩ : ByteArray), .string (⟨#[]⟩ : ByteArray)] 103 (0, 0)) (bx BK161.out) hb); have n1_ := Aside0.mk (below_step (by repeat (first | (with_reducible first | exact HB.out | apply below_alloc | apply pw_below_drewN | apply below_drew1 | refine below_set ?_ GE161.out) | exact HB.out)) hb); clear BK161; clear HB; have BK161 := n0_; have HB := n1_; clear n0_ n1_; (try clear hb); (try clear hb2); (try clear hk); (try clear hi)) | ((with_reducible refine gate_callee (f := 129) rfl ?_); refine goesL_ (some 28) rfl rfl Tryz.func129 (by kernel_rfl) rfl #[.string x1_3, .string t165] rfl (by (try simp only [List.map_toArray, List.map_cons, List.map_nil]); first | done | rfl | (simp only [List.length_drop, List.length_take]; rfl)) ?_; (with_reducible refine (whole_DivMod.calls kj3 x1_3 t165 t169 t170 t171 _ ?gG A14.out).mono ?_); (case gG => first | exact HG.out | exact GW.below HG.out (by repeat (first | (with_reducible first | exact HB.out | apply below_alloc | apply pw_below_drewN | apply below_drew1 | refine below_set ?_ GE161.out) | exact HB.out))); rintro e w17 ⟨rfl, hb⟩; refine ⟨_, rfl, ?_⟩; have n0_ := Aside0.mk (blk_below (g := gb161) (o := .cells #[.string (⟨#[]⟩ : ByteArray), .string (⟨#[]⟩ : ByteArray)] 103 (0, 0)) (bx BK161.out) hb); have n1_ := Aside0.mk (below_step (by repeat (first | (with_reducible first | exact HB.out | apply below_alloc | apply pw_below_drewN | apply below_drew1 | refine below_set ?_ GE161.out) | exact HB.out)) hb); clear BK161; clear HB; have BK161 := n0_; have HB := n1_; clear n0_ n1_; (try clear hb); (try clear hb2); (try clear hk); (try clear hi); have hcz18_0 : w17.cell? ⟨gb161, 0, none⟩ = some (.string (⟨#[]⟩ : ByteArray)) := (blk_cell BK161.out 0).trans rfl; have hcz18_1 : w17.cell? ⟨gb161, 1, none⟩ = some (.string (⟨#[]⟩ : ByteArray)) := (blk_cell BK161.out 1).trans rfl; have hfz18_0 := blk_frozen BK161.out 0; have hfz18_1 := blk_frozen BK161.out 1))
    refine bodyPost_ret (results_cell_row rfl _ _ gb161 103 #[.string t166, .string t169] (0, 0) _ rfl (by (with_reducible repeat (first | refine blk_drewN ?_ _ | refine blk_drew ?_ | refine blk_alloc ?_ _)); refine blk_put (cs := #[.string t166, .string (⟨#[]⟩ : ByteArray)]) ?_ 1 _ rfl; (with_reducible repeat (first | refine blk_drewN ?_ _ | refine blk_drew ?_ | refine blk_alloc ?_ _)); refine blk_put (cs := #[.string (⟨#[]⟩ : ByteArray), .string (⟨#[]⟩ : ByteArray)]) ?_ 0 _ rfl; (with_reducible repeat (first | refine blk_drewN ?_ _ | refine blk_drew ?_ | refine blk_alloc ?_ _)); exact BK161.out) Tryz.underlying103 rfl (by kernel_rfl)) rfl ?_
    exact ⟨by first | rfl | (simp [errW_none, errW_some] <;> rfl) | (simp [*, errW_none, errW_some] <;> rfl), by repeat (first | (with_reducible first | exact HB.out | apply below_alloc | apply pw_below_drewN | apply below_drew1 | refine below_set ?_ GE161.out) | exact HB.out)⟩
end Go.Proofs.YtegffolimjiioaaGreatDoor.PB
