/- Walks and contracts of the program's functions: printed for this claim. -/
import Derived.Test.YtegffolimjiioaaGreatDoorZX0
import Derived.Test.YtegffolimjiioaaGreatDoorZPBx0
import Derived.Test.YtegffolimjiioaaGreatDoorZPBx2
import Derived.Test.YtegffolimjiioaaGreatDoorZPBx3
import Derived.Test.YtegffolimjiioaaGreatDoorZHS
import Derived.Test.YtegffolimjiioaaGreatDoorZHs
namespace Go.Proofs.YtegffolimjiioaaGreatDoor.PB
open Go.RowKit Go.Proofs.YtegffolimjiioaaGreatDoorW.PrintWords Go.Proofs.YtegffolimjiioaaGreatDoorW.PrintLast Go.Proofs.YtegffolimjiioaaGreatDoorW.PrintMore
attribute [local go_sem] max2_int min2_int max_two min_two
set_option linter.unusedVariables false
set_option linter.unusedSimpArgs false
def schismaref02_Of.f (a0 : Int) : Option (ByteArray) := (strconv_Itoa.f a0).bind fun t299 => (some t299)
set_option maxHeartbeats 8000000 in
set_option maxRecDepth 100000 in
theorem schismaref02_Of.calls (a0 : Int) (r : ByteArray) (w : World) (hG : GW w) (h : schismaref02_Of.f a0 = some r) :
  Calls Tryz.prog 113 #[.int .i64 a0] w fun e w' => e = .returned (.string r) ∧ Below w.heap.size w w' := by
 have HG := Aside0.mk hG
 clear hG
 have HB := Aside0.mk (Below.refl w.heap.size w)
 have H : ((strconv_Itoa.f a0).bind fun t299 => (some t299)) = some r := h
 clear h
 replace H := Option.bind_eq_some_iff.mp H
 obtain ⟨t299, A20, H⟩ := H
 replace H : (some t299) = some r := H
 have A2 := Aside0.mk A20
 clear A20
 obtain rfl := Option.some.inj H
 go_enter Tryz.func113, Tryz.ntmps113
 go_wp2_with (first | ((with_reducible refine gate_callee (f := 173) rfl ?_); refine goesL_ (some 4) rfl rfl Tryz.func173 (by kernel_rfl) rfl #[.int .i64 a0] rfl (by (try simp only [List.map_toArray, List.map_cons, List.map_nil]); first | done | rfl | (simp only [List.length_drop, List.length_take]; rfl)) ?_; (with_reducible refine (strconv_Itoa.calls a0 t299 _ ?gG A2.out).mono ?_); (case gG => exact gw HG.out HB.out); rintro e w3 ⟨rfl, hb⟩; refine ⟨_, rfl, ?_⟩; have n0_ := Aside0.mk (below_step (bl HB.out) hb); clear HB; have HB := n0_; clear n0_; (try clear hb); (try clear hb2); (try clear hk); (try clear hi)))
 go_ret
 exact ⟨by first | rfl | (simp [errW_none, errW_some] <;> rfl) | (simp [*, errW_none, errW_some] <;> rfl), by repeat (first | (with_reducible first | exact HB.out | apply below_alloc | apply pw_below_drewN | apply below_drew1) | exact HB.out)⟩
mutual
def schismaref02_DivMod.j0 : Nat → ByteArray → ByteArray → Int → Int → Bool → Option (ByteArray × ByteArray)
 | 0, _, _, _, _, _ => none
 | k + 1, x0, x1, x6, x8, x29 => if x29 = true then (if x8 = 0 then (none) else (if (Int.tmod x6 x8) = 0 then (schismaref02_DivMod.j1 k x8 (wrap64 (Int.tdiv x6 x8)) (Int.tmod x6 x8) false) else (schismaref02_DivMod.j1 k x8 (wrap64 (Int.tdiv x6 x8)) (Int.tmod x6 x8) ((decide ((Int.tmod x6 x8) < 0)) != (decide (x8 < 0)))))) else ((schismaref02_digits.f x0).bind fun t311 => ((schismaref02_split.f k t311).bind fun t312 => ((schismaref02_digits.f x1).bind fun t315 => ((schismaref02_split.f k t315).bind fun t316 => ((schismaref02_divide.f k t312 t316).bind fun bt319 => ((schismaref02_side.f x0).bind fun t325 => ((schismaref02_side.f x1).bind fun t326 => ((schismaref02_signed.f k (t325 != t326) bt319.1).bind fun t327 => ((schismaref02_side.f x0).bind fun t328 => ((schismaref02_signed.f k (decide (t328 < 0)) bt319.2).bind fun t329 => (if t329.toList = ([48] : List UInt8) then (schismaref02_DivMod.j2 k x1 t327 t329 false) else ((schismaref02_side.f x0).bind fun t330 => ((schismaref02_side.f x1).bind fun t331 => (schismaref02_DivMod.j2 k x1 t327 t329 (t330 != t331)))))))))))))))
def schismaref02_DivMod.j1 : Nat → Int → Int → Int → Bool → Option (ByteArray × ByteArray)
 | 0, _, _, _, _ => none
 | k + 1, x8, x10, x11, x44 => if x44 = true then ((schismaref02_Of.f (wrap64 (x10 - 1))).bind fun t307 => ((schismaref02_Of.f (wrap64 (x11 + x8))).bind fun t308 => (some (t307, t308)))) else ((schismaref02_Of.f x10).bind fun t309 => ((schismaref02_Of.f x11).bind fun t310 => (some (t309, t310))))
def schismaref02_DivMod.j2 : Nat → ByteArray → ByteArray → ByteArray → Bool → Option (ByteArray × ByteArray)
 | 0, _, _, _, _ => none
 | k + 1, x1, x14, x15, x84 => if x84 = true then ((schismaref02_Sub.f k x14 (⟨#[49]⟩ : ByteArray)).bind fun t332 => ((schismaref02_Add.f k x15 x1).bind fun t333 => (some (t332, t333)))) else (some (x14, x15))
end
def schismaref02_DivMod.f (k : Nat) (a0 : ByteArray) (a1 : ByteArray) : Option (ByteArray × ByteArray) := (schismaref02_quick.f k a0).bind fun bt303 => ((schismaref02_quick.f k a1).bind fun bt305 => (if bt303.2 = true then (schismaref02_DivMod.j0 k a0 a1 bt303.1 bt305.1 bt305.2) else (schismaref02_DivMod.j0 k a0 a1 bt303.1 bt305.1 false)))
set_option maxHeartbeats 8000000 in
set_option maxRecDepth 100000 in
theorem schismaref02_DivMod.calls (k : Nat) (a0 : ByteArray) (a1 : ByteArray) (r1 : ByteArray) (r2 : ByteArray) (w : World) (hG : GW w) (h : schismaref02_DivMod.f k a0 a1 = some (r1, r2)) :
  Calls Tryz.prog 164 #[.string a0, .string a1] w fun e w' => e = .returned (.tuple #[.string r1, .string r2]) ∧ Below w.heap.size w w' := by
 have HG := Aside0.mk hG
 clear hG
 have HB := Aside0.mk (Below.refl w.heap.size w)
 have H : ((schismaref02_quick.f k a0).bind fun bt303 => ((schismaref02_quick.f k a1).bind fun bt305 => (if bt303.2 = true then (schismaref02_DivMod.j0 k a0 a1 bt303.1 bt305.1 bt305.2) else (schismaref02_DivMod.j0 k a0 a1 bt303.1 bt305.1 false)))) = some (r1, r2) := h
 clear h
 replace H := Option.bind_eq_some_iff.mp H
 obtain ⟨⟨t303, t304⟩, A30, H⟩ := H
 replace H : ((schismaref02_quick.f k a1).bind fun bt305 => (if t304 = true then (schismaref02_DivMod.j0 k a0 a1 t303 bt305.1 bt305.2) else (schismaref02_DivMod.j0 k a0 a1 t303 bt305.1 false))) = some (r1, r2) := H
 have A3 := Aside0.mk A30
 clear A30
 replace H := Option.bind_eq_some_iff.mp H
 obtain ⟨⟨t305, t306⟩, A40, H⟩ := H
 replace H : (if t304 = true then (schismaref02_DivMod.j0 k a0 a1 t303 t305 t306) else (schismaref02_DivMod.j0 k a0 a1 t303 t305 false)) = some (r1, r2) := H
 have A4 := Aside0.mk A40
 clear A40
 have HC5 := Aside0.mk H
 clear H
 go_enter Tryz.func164, Tryz.ntmps164
 go_upto_region 3 with (first | (go_at_call 197; (with_reducible refine (schismaref02_quick.calls k a0 t303 t304 _ A3.out).mono ?_); rintro e w' ⟨rfl, ⟨nd, rfl⟩⟩; (try first | exact ⟨rfl, _, World.drewN_drewN _ _ _⟩ | exact ⟨rfl, _, Eq.trans (World.drewN_drewN _ _ _) (congrArg (World.drewN _) (Nat.add_assoc _ _ _))⟩)) | (go_at_call 197; (with_reducible refine (schismaref02_quick.calls k a1 t305 t306 _ A4.out).mono ?_); rintro e w' ⟨rfl, ⟨nd, rfl⟩⟩; (try first | exact ⟨rfl, _, World.drewN_drewN _ _ _⟩ | exact ⟨rfl, _, Eq.trans (World.drewN_drewN _ _ _) (congrArg (World.drewN _) (Nat.add_assoc _ _ _))⟩)))
 repeat (go_quiet (first | (go_at_call 197; (with_reducible refine (schismaref02_quick.calls k a0 t303 t304 _ A3.out).mono ?_); rintro e w' ⟨rfl, ⟨nd, rfl⟩⟩; (try first | exact ⟨rfl, _, World.drewN_drewN _ _ _⟩ | exact ⟨rfl, _, Eq.trans (World.drewN_drewN _ _ _) (congrArg (World.drewN _) (Nat.add_assoc _ _ _))⟩)) | (go_at_call 197; (with_reducible refine (schismaref02_quick.calls k a1 t305 t306 _ A4.out).mono ?_); rintro e w' ⟨rfl, ⟨nd, rfl⟩⟩; (try first | exact ⟨rfl, _, World.drewN_drewN _ _ _⟩ | exact ⟨rfl, _, Eq.trans (World.drewN_drewN _ _ _) (congrArg (World.drewN _) (Nat.add_assoc _ _ _))⟩))); go_upto_region 3 with (first | (go_at_call 197; (with_reducible refine (schismaref02_quick.calls k a0 t303 t304 _ A3.out).mono ?_); rintro e w' ⟨rfl, ⟨nd, rfl⟩⟩; (try first | exact ⟨rfl, _, World.drewN_drewN _ _ _⟩ | exact ⟨rfl, _, Eq.trans (World.drewN_drewN _ _ _) (congrArg (World.drewN _) (Nat.add_assoc _ _ _))⟩)) | (go_at_call 197; (with_reducible refine (schismaref02_quick.calls k a1 t305 t306 _ A4.out).mono ?_); rintro e w' ⟨rfl, ⟨nd, rfl⟩⟩; (try first | exact ⟨rfl, _, World.drewN_drewN _ _ _⟩ | exact ⟨rfl, _, Eq.trans (World.drewN_drewN _ _ _) (congrArg (World.drewN _) (Nat.add_assoc _ _ _))⟩))))
 (try simp only [Act.put, List.setIfInBounds_toArray, List.set_cons_zero, List.set_cons_succ])
 go_cut [29] (fun v29 wc => ∃ (kq : Nat) (x29_4 : Bool), v29 = .bool x29_4 ∧ Aside0 (schismaref02_DivMod.j0 kq a0 a1 t303 t305 x29_4 = some (r1, r2)) ∧ Aside0 (kq ≤ k) ∧ Aside0 (Below w.heap.size w wc))
 case first =>
  have H := HC5.out
  clear HC5
  by_cases c6 : t304 = true
  ·subst c6
   have H1 : (schismaref02_DivMod.j0 k a0 a1 t303 t305 t306) = some (r1, r2) := by rw [if_pos rfl] at H; exact H
   clear H
   have H := H1
   clear H1
   have H' := Aside0.mk H
   clear H
   go_wp2
   repeat (go_quiet (fail); try go_wp2)
   go_meet
   case rel => exact ⟨_, (t306), (by first | rfl | (simp; done) | (simp [*]; done)), H', ⟨by first | omega | exact Nat.le_refl _⟩, ⟨by repeat (first | (with_reducible first | exact HB.out | apply below_alloc | apply pw_below_drewN | apply below_drew1) | exact HB.out)⟩⟩
  ·replace c6 := Bool.eq_false_iff.mpr c6
   subst c6
   have H1 : (schismaref02_DivMod.j0 k a0 a1 t303 t305 false) = some (r1, r2) := by rw [if_neg (show ¬ (false = true) by decide)] at H; exact H
   clear H
   have H := H1
   clear H1
   have H' := Aside0.mk H
   clear H
   go_wp2
   repeat (go_quiet (fail); try go_wp2)
   go_meet
   case rel => exact ⟨_, (false), (by first | rfl | (simp; done) | (simp [*]; done)), H', ⟨by first | omega | exact Nat.le_refl _⟩, ⟨by repeat (first | (with_reducible first | exact HB.out | apply below_alloc | apply pw_below_drewN | apply below_drew1) | exact HB.out)⟩⟩
 case rest =>
  clear HC5
  try clear c1
  try clear p2
  try clear c6
  obtain ⟨kq, x29_4, rfl, HA, HJ4, HB⟩ := hcut
  cases kq with
  | zero => exact absurd HA.out (by simp [schismaref02_DivMod.j0])
  | succ kj4 =>
   have H := HA.out
   clear HA
   simp only [schismaref02_DivMod.j0] at H
   by_cases c7 : x29_4 = true
   ·subst c7
    have H1 : (if t305 = 0 then (none) else (if (Int.tmod t303 t305) = 0 then (schismaref02_DivMod.j1 kj4 t305 (wrap64 (Int.tdiv t303 t305)) (Int.tmod t303 t305) false) else (schismaref02_DivMod.j1 kj4 t305 (wrap64 (Int.tdiv t303 t305)) (Int.tmod t303 t305) ((decide ((Int.tmod t303 t305) < 0)) != (decide (t305 < 0)))))) = some (r1, r2) := by rw [if_pos rfl] at H; exact H
    clear H
    have H := H1
    clear H1
    by_cases c8 : t305 = 0
    ·rw [if_pos c8] at H
     exact absurd H (by simp)
    ·rw [if_neg c8] at H
     have c8b0 : (t305 == 0) = false := beq_eq_false_iff_ne.mpr c8
     have c8b1 : (t305 != 0) = true := bne_iff_ne.mpr c8
     have HC9 := Aside0.mk H
     clear H
     go_upto_region 5 with (fail)
     repeat (go_quiet (fail); go_upto_region 5 with (fail))
     go_cut [44] (fun v44 wc => ∃ (kq : Nat) (x44_8 : Bool), v44 = .bool x44_8 ∧ Aside0 (schismaref02_DivMod.j1 kq t305 (wrap64 (Int.tdiv t303 t305)) (Int.tmod t303 t305) x44_8 = some (r1, r2)) ∧ Aside0 (kq ≤ kj4) ∧ Aside0 (Below w.heap.size w wc))
     case first =>
      have H := HC9.out
      clear HC9
      by_cases c10 : (Int.tmod t303 t305) = 0
      ·rw [if_pos c10] at H
       have c10b0 : ((Int.tmod t303 t305) == 0) = true := beq_iff_eq.mpr c10
       have c10b1 : ((Int.tmod t303 t305) != 0) = false := bne_eq_false_iff_eq.mpr c10
       clear c10
       (first | rw [c10b0] | (simp only [i64_w, i32_w]; rw [c10b0]) | skip)
       have H' := Aside0.mk H
       clear H
       go_wp2
       repeat (go_quiet (fail); try go_wp2)
       go_meet
       case rel => exact ⟨_, (false), (by first | rfl | (simp; done) | (simp [*]; done)), H', ⟨by have := HJ4.out; first | omega | exact Nat.le_refl _⟩, ⟨by repeat (first | (with_reducible first | exact HB.out | apply below_alloc | apply pw_below_drewN | apply below_drew1) | exact HB.out)⟩⟩
      ·rw [if_neg c10] at H
       have c10b0 : ((Int.tmod t303 t305) == 0) = false := beq_eq_false_iff_ne.mpr c10
       have c10b1 : ((Int.tmod t303 t305) != 0) = true := bne_iff_ne.mpr c10
       (first | rw [c10b0] | (simp only [i64_w, i32_w]; rw [c10b0]) | skip)
       have H' := Aside0.mk H
       clear H
       go_wp2
       repeat (go_quiet (fail); try go_wp2)
       go_meet
       case rel => exact ⟨_, (((decide ((Int.tmod t303 t305) < 0)) != (decide (t305 < 0)))), (by first | rfl | (simp; done) | (simp [*]; done)), H', ⟨by have := HJ4.out; first | omega | exact Nat.le_refl _⟩, ⟨by repeat (first | (with_reducible first | exact HB.out | apply below_alloc | apply pw_below_drewN | apply below_drew1) | exact HB.out)⟩⟩
     case rest =>
      clear HC9
      try clear c1
      try clear p2
      try clear c6
      try clear p6
      try clear c7
      try clear c8
      try clear c8b0
      try clear c8b1
      try clear c10
      try clear c10b0
      try clear c10b1
      try clear p2
      obtain ⟨kq, x44_8, rfl, HA, HJ8, HB⟩ := hcut
      cases kq with
      | zero => exact absurd HA.out (by simp [schismaref02_DivMod.j1])
      | succ kj8 =>
       have H := HA.out
       clear HA
       simp only [schismaref02_DivMod.j1] at H
       by_cases c11 : x44_8 = true
       ·subst c11
        have H1 : ((schismaref02_Of.f (wrap64 ((wrap64 (Int.tdiv t303 t305)) - 1))).bind fun t307 => ((schismaref02_Of.f (wrap64 ((Int.tmod t303 t305) + t305))).bind fun t308 => (some (t307, t308)))) = some (r1, r2) := by rw [if_pos rfl] at H; exact H
        clear H
        have H := H1
        clear H1
        replace H := Option.bind_eq_some_iff.mp H
        obtain ⟨t307, A120, H⟩ := H
        replace H : ((schismaref02_Of.f (wrap64 ((Int.tmod t303 t305) + t305))).bind fun t308 => (some (t307, t308))) = some (r1, r2) := H
        have A12 := Aside0.mk A120
        clear A120
        replace H := Option.bind_eq_some_iff.mp H
        obtain ⟨t308, A130, H⟩ := H
        replace H : (some (t307, t308)) = some (r1, r2) := H
        have A13 := Aside0.mk A130
        clear A130
        simp only [Option.some.injEq, Prod.mk.injEq] at H
        obtain ⟨rfl, rfl⟩ := H
        go_wp2_with (first | (go_at_call 113; (with_reducible refine (schismaref02_Of.calls (wrap64 ((wrap64 (Int.tdiv t303 t305)) - 1)) t307 _ ?gG A12.out).mono ?_); (case gG => exact gw HG.out HB.out); rintro e w14 ⟨rfl, hb⟩; have n0_ := Aside0.mk (below_step (bl HB.out) hb); clear HB; have HB := n0_; clear n0_; (try clear hb); (try clear hb2); (try clear hk); (try clear hi)) | (go_at_call 113; (with_reducible refine (schismaref02_Of.calls (wrap64 ((Int.tmod t303 t305) + t305)) t308 _ ?gG A13.out).mono ?_); (case gG => exact gw HG.out HB.out); rintro e w15 ⟨rfl, hb⟩; have n0_ := Aside0.mk (below_step (bl HB.out) hb); clear HB; have HB := n0_; clear n0_; (try clear hb); (try clear hb2); (try clear hk); (try clear hi)))
        repeat (go_quiet (first | (go_at_call 113; (with_reducible refine (schismaref02_Of.calls (wrap64 ((wrap64 (Int.tdiv t303 t305)) - 1)) t307 _ ?gG A12.out).mono ?_); (case gG => exact gw HG.out HB.out); rintro e w14 ⟨rfl, hb⟩; have n0_ := Aside0.mk (below_step (bl HB.out) hb); clear HB; have HB := n0_; clear n0_; (try clear hb); (try clear hb2); (try clear hk); (try clear hi)) | (go_at_call 113; (with_reducible refine (schismaref02_Of.calls (wrap64 ((Int.tmod t303 t305) + t305)) t308 _ ?gG A13.out).mono ?_); (case gG => exact gw HG.out HB.out); rintro e w15 ⟨rfl, hb⟩; have n0_ := Aside0.mk (below_step (bl HB.out) hb); clear HB; have HB := n0_; clear n0_; (try clear hb); (try clear hb2); (try clear hk); (try clear hi))); try go_wp2_with (first | (go_at_call 113; (with_reducible refine (schismaref02_Of.calls (wrap64 ((wrap64 (Int.tdiv t303 t305)) - 1)) t307 _ ?gG A12.out).mono ?_); (case gG => exact gw HG.out HB.out); rintro e w14 ⟨rfl, hb⟩; have n0_ := Aside0.mk (below_step (bl HB.out) hb); clear HB; have HB := n0_; clear n0_; (try clear hb); (try clear hb2); (try clear hk); (try clear hi)) | (go_at_call 113; (with_reducible refine (schismaref02_Of.calls (wrap64 ((Int.tmod t303 t305) + t305)) t308 _ ?gG A13.out).mono ?_); (case gG => exact gw HG.out HB.out); rintro e w15 ⟨rfl, hb⟩; have n0_ := Aside0.mk (below_step (bl HB.out) hb); clear HB; have HB := n0_; clear n0_; (try clear hb); (try clear hb2); (try clear hk); (try clear hi))))
        go_ret2
        exact ⟨by first | rfl | (simp [errW_none, errW_some] <;> rfl) | (simp [*, errW_none, errW_some] <;> rfl), by repeat (first | (with_reducible first | exact HB.out | apply below_alloc | apply pw_below_drewN | apply below_drew1) | exact HB.out)⟩
       ·replace c11 := Bool.eq_false_iff.mpr c11
        subst c11
        have H1 : ((schismaref02_Of.f (wrap64 (Int.tdiv t303 t305))).bind fun t309 => ((schismaref02_Of.f (Int.tmod t303 t305)).bind fun t310 => (some (t309, t310)))) = some (r1, r2) := by rw [if_neg (show ¬ (false = true) by decide)] at H; exact H
        clear H
        have H := H1
        clear H1
        replace H := Option.bind_eq_some_iff.mp H
        obtain ⟨t309, A160, H⟩ := H
        replace H : ((schismaref02_Of.f (Int.tmod t303 t305)).bind fun t310 => (some (t309, t310))) = some (r1, r2) := H
        have A16 := Aside0.mk A160
        clear A160
        replace H := Option.bind_eq_some_iff.mp H
        obtain ⟨t310, A170, H⟩ := H
        replace H : (some (t309, t310)) = some (r1, r2) := H
        have A17 := Aside0.mk A170
        clear A170
        simp only [Option.some.injEq, Prod.mk.injEq] at H
        obtain ⟨rfl, rfl⟩ := H
        go_wp2_with (first | (go_at_call 113; (with_reducible refine (schismaref02_Of.calls (wrap64 (Int.tdiv t303 t305)) t309 _ ?gG A16.out).mono ?_); (case gG => exact gw HG.out HB.out); rintro e w18 ⟨rfl, hb⟩; have n0_ := Aside0.mk (below_step (bl HB.out) hb); clear HB; have HB := n0_; clear n0_; (try clear hb); (try clear hb2); (try clear hk); (try clear hi)) | (go_at_call 113; (with_reducible refine (schismaref02_Of.calls (Int.tmod t303 t305) t310 _ ?gG A17.out).mono ?_); (case gG => exact gw HG.out HB.out); rintro e w19 ⟨rfl, hb⟩; have n0_ := Aside0.mk (below_step (bl HB.out) hb); clear HB; have HB := n0_; clear n0_; (try clear hb); (try clear hb2); (try clear hk); (try clear hi)))
        repeat (go_quiet (first | (go_at_call 113; (with_reducible refine (schismaref02_Of.calls (wrap64 (Int.tdiv t303 t305)) t309 _ ?gG A16.out).mono ?_); (case gG => exact gw HG.out HB.out); rintro e w18 ⟨rfl, hb⟩; have n0_ := Aside0.mk (below_step (bl HB.out) hb); clear HB; have HB := n0_; clear n0_; (try clear hb); (try clear hb2); (try clear hk); (try clear hi)) | (go_at_call 113; (with_reducible refine (schismaref02_Of.calls (Int.tmod t303 t305) t310 _ ?gG A17.out).mono ?_); (case gG => exact gw HG.out HB.out); rintro e w19 ⟨rfl, hb⟩; have n0_ := Aside0.mk (below_step (bl HB.out) hb); clear HB; have HB := n0_; clear n0_; (try clear hb); (try clear hb2); (try clear hk); (try clear hi))); try go_wp2_with (first | (go_at_call 113; (with_reducible refine (schismaref02_Of.calls (wrap64 (Int.tdiv t303 t305)) t309 _ ?gG A16.out).mono ?_); (case gG => exact gw HG.out HB.out); rintro e w18 ⟨rfl, hb⟩; have n0_ := Aside0.mk (below_step (bl HB.out) hb); clear HB; have HB := n0_; clear n0_; (try clear hb); (try clear hb2); (try clear hk); (try clear hi)) | (go_at_call 113; (with_reducible refine (schismaref02_Of.calls (Int.tmod t303 t305) t310 _ ?gG A17.out).mono ?_); (case gG => exact gw HG.out HB.out); rintro e w19 ⟨rfl, hb⟩; have n0_ := Aside0.mk (below_step (bl HB.out) hb); clear HB; have HB := n0_; clear n0_; (try clear hb); (try clear hb2); (try clear hk); (try clear hi))))
        go_ret2
        exact ⟨by first | rfl | (simp [errW_none, errW_some] <;> rfl) | (simp [*, errW_none, errW_some] <;> rfl), by repeat (first | (with_reducible first | exact HB.out | apply below_alloc | apply pw_below_drewN | apply below_drew1) | exact HB.out)⟩
   ·replace c7 := Bool.eq_false_iff.mpr c7
    subst c7
    have H1 : ((schismaref02_digits.f a0).bind fun t311 => ((schismaref02_split.f kj4 t311).bind fun t312 => ((schismaref02_digits.f a1).bind fun t315 => ((schismaref02_split.f kj4 t315).bind fun t316 => ((schismaref02_divide.f kj4 t312 t316).bind fun bt319 => ((schismaref02_side.f a0).bind fun t325 => ((schismaref02_side.f a1).bind fun t326 => ((schismaref02_signed.f kj4 (t325 != t326) bt319.1).bind fun t327 => ((schismaref02_side.f a0).bind fun t328 => ((schismaref02_signed.f kj4 (decide (t328 < 0)) bt319.2).bind fun t329 => (if t329.toList = ([48] : List UInt8) then (schismaref02_DivMod.j2 kj4 a1 t327 t329 false) else ((schismaref02_side.f a0).bind fun t330 => ((schismaref02_side.f a1).bind fun t331 => (schismaref02_DivMod.j2 kj4 a1 t327 t329 (t330 != t331))))))))))))))) = some (r1, r2) := by rw [if_neg (show ¬ (false = true) by decide)] at H; exact H
    clear H
    have H := H1
    clear H1
    replace H := Option.bind_eq_some_iff.mp H
    obtain ⟨t311, A200, H⟩ := H
    replace H : ((schismaref02_split.f kj4 t311).bind fun t312 => ((schismaref02_digits.f a1).bind fun t315 => ((schismaref02_split.f kj4 t315).bind fun t316 => ((schismaref02_divide.f kj4 t312 t316).bind fun bt319 => ((schismaref02_side.f a0).bind fun t325 => ((schismaref02_side.f a1).bind fun t326 => ((schismaref02_signed.f kj4 (t325 != t326) bt319.1).bind fun t327 => ((schismaref02_side.f a0).bind fun t328 => ((schismaref02_signed.f kj4 (decide (t328 < 0)) bt319.2).bind fun t329 => (if t329.toList = ([48] : List UInt8) then (schismaref02_DivMod.j2 kj4 a1 t327 t329 false) else ((schismaref02_side.f a0).bind fun t330 => ((schismaref02_side.f a1).bind fun t331 => (schismaref02_DivMod.j2 kj4 a1 t327 t329 (t330 != t331)))))))))))))) = some (r1, r2) := H
    have A20 := Aside0.mk A200
    clear A200
    replace H := Option.bind_eq_some_iff.mp H
    obtain ⟨_, A_, -⟩ := H
    exact nomatch A_
def schismaref02_Gcd.l0 : Nat → ByteArray → ByteArray → Option (ByteArray)
 | 0, _, _ => none
 | k + 1, x0, x1 => if x1.toList = ([48] : List UInt8) then (some x0) else ((schismaref02_DivMod.f k x0 x1).bind fun bt337 => (schismaref02_Gcd.l0 k x1 bt337.2))
def schismaref02_Gcd.f (k : Nat) (a0 : ByteArray) (a1 : ByteArray) : Option (ByteArray) := (schismaref02_Abs.f a0).bind fun t335 => ((schismaref02_Abs.f a1).bind fun t336 => (schismaref02_Gcd.l0 k t335 t336))
set_option maxHeartbeats 8000000 in
set_option maxRecDepth 100000 in
theorem schismaref02_Gcd.calls (k : Nat) (a0 : ByteArray) (a1 : ByteArray) (r : ByteArray) (w : World) (hG : GW w) (h : schismaref02_Gcd.f k a0 a1 = some r) :
  Calls Tryz.prog 165 #[.string a0, .string a1] w fun e w' => e = .returned (.string r) ∧ Below w.heap.size w w' := by
 have HG := Aside0.mk hG
 clear hG
 have HB := Aside0.mk (Below.refl w.heap.size w)
 have H : ((schismaref02_Abs.f a0).bind fun t335 => ((schismaref02_Abs.f a1).bind fun t336 => (schismaref02_Gcd.l0 k t335 t336))) = some r := h
 clear h
 replace H := Option.bind_eq_some_iff.mp H
 obtain ⟨t335, A30, H⟩ := H
 replace H : ((schismaref02_Abs.f a1).bind fun t336 => (schismaref02_Gcd.l0 k t335 t336)) = some r := H
 have A3 := Aside0.mk A30
 clear A30
 replace H := Option.bind_eq_some_iff.mp H
 obtain ⟨t336, A40, H⟩ := H
 replace H : (schismaref02_Gcd.l0 k t335 t336) = some r := H
 have A4 := Aside0.mk A40
 clear A40
 have H' := Aside0.mk H
 clear H
 go_enter Tryz.func165, Tryz.ntmps165
 go_wp2_with (first | ((with_reducible refine gate_callee (f := 218) rfl ?_); refine goesL_ (some 8) rfl rfl Tryz.func218 (by kernel_rfl) rfl #[.string a0] rfl (by (try simp only [List.map_toArray, List.map_cons, List.map_nil]); first | done | rfl | (simp only [List.length_drop, List.length_take]; rfl)) ?_; (with_reducible refine (schismaref02_Abs.calls a0 t335 _ A3.out).mono ?_); rintro e w' ⟨rfl, ⟨nd, rfl⟩⟩; refine ⟨_, rfl, ?_⟩) | ((with_reducible refine gate_callee (f := 218) rfl ?_); refine goesL_ (some 10) rfl rfl Tryz.func218 (by kernel_rfl) rfl #[.string a1] rfl (by (try simp only [List.map_toArray, List.map_cons, List.map_nil]); first | done | rfl | (simp only [List.length_drop, List.length_take]; rfl)) ?_; (with_reducible refine (schismaref02_Abs.calls a1 t336 _ A4.out).mono ?_); rintro e w' ⟨rfl, ⟨nd, rfl⟩⟩; refine ⟨_, rfl, ?_⟩))
 go_loopg [0, 1] k (fun kq v0 v1 w' => ∃ (x0_1 : ByteArray) (x1_1 : ByteArray), v0 = .string x0_1 ∧ v1 = .string x1_1 ∧ Aside0 (schismaref02_Gcd.l0 kq x0_1 x1_1 = some r) ∧ Aside0 (kq ≤ k) ∧ Aside0 (Below w.heap.size w w'))
 case atStart => exact ⟨(t335), (t336), (by first | rfl | (simp; done) | (simp [*]; done)), (by first | rfl | (simp; done) | (simp [*]; done)), H', ⟨Nat.le_refl _⟩, ⟨by repeat (first | (with_reducible first | exact HB.out | apply below_alloc | apply pw_below_drewN | apply below_drew1) | exact HB.out)⟩⟩
 case round =>
  clear H'
  try clear c1
  try clear c2
  try clear p2
  obtain ⟨x0_1, x1_1, rfl, rfl, HA, HK1, HB⟩ := hrel
  cases gk with
  | zero => exact absurd HA.out (by simp [schismaref02_Gcd.l0])
  | succ k1 =>
   have H := HA.out
   clear HA
   simp only [schismaref02_Gcd.l0] at H
   by_cases c5 : x1_1.toList = ([48] : List UInt8)
   ·rw [if_pos c5] at H
    have c5b0 : (x1_1.toList == ([48] : List UInt8)) = true := beq_iff_eq.mpr c5
    have c5b1 : (x1_1.toList != ([48] : List UInt8)) = false := bne_eq_false_iff_eq.mpr c5
    clear c5
    obtain rfl := Option.some.inj H
    go_wp2
    go_ret
    exact ⟨by first | rfl | (simp [errW_none, errW_some] <;> rfl) | (simp [*, errW_none, errW_some] <;> rfl), by repeat (first | (with_reducible first | exact HB.out | apply below_alloc | apply pw_below_drewN | apply below_drew1) | exact HB.out)⟩
   ·rw [if_neg c5] at H
    have c5b0 : (x1_1.toList == ([48] : List UInt8)) = false := beq_eq_false_iff_ne.mpr c5
    have c5b1 : (x1_1.toList != ([48] : List UInt8)) = true := bne_iff_ne.mpr c5
    replace H := Option.bind_eq_some_iff.mp H
    obtain ⟨⟨t337, t338⟩, A60, H⟩ := H
    replace H : (schismaref02_Gcd.l0 k1 x1_1 t338) = some r := H
    have A6 := Aside0.mk A60
    clear A60
    have H' := Aside0.mk H
    clear H
    go_wp2_with (first | ((with_reducible refine gate_callee (f := 164) rfl ?_); refine goesL_ (some 16) rfl rfl Tryz.func164 (by kernel_rfl) rfl #[.string x0_1, .string x1_1] rfl (by (try simp only [List.map_toArray, List.map_cons, List.map_nil]); first | done | rfl | (simp only [List.length_drop, List.length_take]; rfl)) ?_; (with_reducible refine (schismaref02_DivMod.calls k1 x0_1 x1_1 t337 t338 _ ?gG A6.out).mono ?_); (case gG => exact gw HG.out HB.out); rintro e w7 ⟨rfl, hb⟩; refine ⟨_, rfl, ?_⟩; have n0_ := Aside0.mk (below_step (bl HB.out) hb); clear HB; have HB := n0_; clear n0_; (try clear hb); (try clear hb2); (try clear hk); (try clear hi)))
    go_roundg k1
    case measure => have := HK1.out; omega
    case rel => exact ⟨(x1_1), (t338), (by first | rfl | (simp; done) | (simp [*]; done)), (by first | rfl | (simp; done) | (simp [*]; done)), H', ⟨by have := HK1.out; omega⟩, ⟨by repeat (first | (with_reducible first | exact HB.out | apply below_alloc | apply pw_below_drewN | apply below_drew1) | exact HB.out)⟩⟩
def schismaref06_Fraction.f (k : Nat) (a0 : ByteArray) (a1 : ByteArray) : Option (ByteArray × ByteArray) := (schismaref02_Sign.f a1).bind fun t340 => (if t340 < 0 then ((schismaref02_Neg.f a0).bind fun t341 => ((schismaref02_Neg.f a1).bind fun t342 => ((schismaref02_Gcd.f k t341 t342).bind fun t343 => ((schismaref02_DivMod.f k t341 t343).bind fun bt344 => ((schismaref02_DivMod.f k t342 t343).bind fun bt346 => (some (bt344.1, bt346.1))))))) else ((schismaref02_Gcd.f k a0 a1).bind fun t348 => ((schismaref02_DivMod.f k a0 t348).bind fun bt349 => ((schismaref02_DivMod.f k a1 t348).bind fun bt351 => (some (bt349.1, bt351.1))))))
set_option maxHeartbeats 8000000 in
set_option maxRecDepth 100000 in
theorem schismaref06_Fraction.calls (k : Nat) (a0 : ByteArray) (a1 : ByteArray) (r1 : ByteArray) (r2 : ByteArray) (w : World) (hG : GW w) (h : schismaref06_Fraction.f k a0 a1 = some (r1, r2)) :
  Calls Tryz.prog 104 #[.string a0, .string a1] w fun e w' => e = .returned (.agg #[.string r1, .string r2]) ∧ Below w.heap.size w w' := by
 have HG := Aside0.mk hG
 clear hG
 have hu103 := Tryz.underlying103
 have HB := Aside0.mk (Below.refl w.heap.size w)
 have H : ((schismaref02_Sign.f a1).bind fun t340 => (if t340 < 0 then ((schismaref02_Neg.f a0).bind fun t341 => ((schismaref02_Neg.f a1).bind fun t342 => ((schismaref02_Gcd.f k t341 t342).bind fun t343 => ((schismaref02_DivMod.f k t341 t343).bind fun bt344 => ((schismaref02_DivMod.f k t342 t343).bind fun bt346 => (some (bt344.1, bt346.1))))))) else ((schismaref02_Gcd.f k a0 a1).bind fun t348 => ((schismaref02_DivMod.f k a0 t348).bind fun bt349 => ((schismaref02_DivMod.f k a1 t348).bind fun bt351 => (some (bt349.1, bt351.1))))))) = some (r1, r2) := h
 clear h
 replace H := Option.bind_eq_some_iff.mp H
 obtain ⟨t340, A30, H⟩ := H
 replace H : (if t340 < 0 then ((schismaref02_Neg.f a0).bind fun t341 => ((schismaref02_Neg.f a1).bind fun t342 => ((schismaref02_Gcd.f k t341 t342).bind fun t343 => ((schismaref02_DivMod.f k t341 t343).bind fun bt344 => ((schismaref02_DivMod.f k t342 t343).bind fun bt346 => (some (bt344.1, bt346.1))))))) else ((schismaref02_Gcd.f k a0 a1).bind fun t348 => ((schismaref02_DivMod.f k a0 t348).bind fun bt349 => ((schismaref02_DivMod.f k a1 t348).bind fun bt351 => (some (bt349.1, bt351.1)))))) = some (r1, r2) := H
 have A3 := Aside0.mk A30
 clear A30
 by_cases c4 : t340 < 0
 ·rw [if_pos c4] at H
  have c4b0 : decide (t340 < 0) = true := decide_eq_true c4
  clear c4
  replace H := Option.bind_eq_some_iff.mp H
  obtain ⟨t341, A50, H⟩ := H
  replace H : ((schismaref02_Neg.f a1).bind fun t342 => ((schismaref02_Gcd.f k t341 t342).bind fun t343 => ((schismaref02_DivMod.f k t341 t343).bind fun bt344 => ((schismaref02_DivMod.f k t342 t343).bind fun bt346 => (some (bt344.1, bt346.1)))))) = some (r1, r2) := H
  have A5 := Aside0.mk A50
  clear A50
  replace H := Option.bind_eq_some_iff.mp H
  obtain ⟨t342, A60, H⟩ := H
  replace H : ((schismaref02_Gcd.f k t341 t342).bind fun t343 => ((schismaref02_DivMod.f k t341 t343).bind fun bt344 => ((schismaref02_DivMod.f k t342 t343).bind fun bt346 => (some (bt344.1, bt346.1))))) = some (r1, r2) := H
  have A6 := Aside0.mk A60
  clear A60
  replace H := Option.bind_eq_some_iff.mp H
  obtain ⟨t343, A70, H⟩ := H
  replace H : ((schismaref02_DivMod.f k t341 t343).bind fun bt344 => ((schismaref02_DivMod.f k t342 t343).bind fun bt346 => (some (bt344.1, bt346.1)))) = some (r1, r2) := H
  have A7 := Aside0.mk A70
  clear A70
  replace H := Option.bind_eq_some_iff.mp H
  obtain ⟨⟨t344, t345⟩, A80, H⟩ := H
  replace H : ((schismaref02_DivMod.f k t342 t343).bind fun bt346 => (some (t344, bt346.1))) = some (r1, r2) := H
  have A8 := Aside0.mk A80
  clear A80
  replace H := Option.bind_eq_some_iff.mp H
  obtain ⟨⟨t346, t347⟩, A90, H⟩ := H
  replace H : (some (t344, t346)) = some (r1, r2) := H
  have A9 := Aside0.mk A90
  clear A90
  simp only [Option.some.injEq, Prod.mk.injEq] at H
  obtain ⟨rfl, rfl⟩ := H
  go_enter Tryz.func104, Tryz.ntmps104
  go_wp2_with (first | ((with_reducible refine gate_dst (N := 4) rfl ?_); refine box_event ?hg (N := 4) ?hd (cs := #[.string (⟨#[]⟩ : ByteArray), .string (⟨#[]⟩ : ByteArray)]) (t := 103) ?hr ?_; (case hd => rfl); (case hg => rfl); (case hr => first | (go_simp; done) | (go_simp; rfl)); intro gb339 hg w10 hbox hb; have n0_ := Aside0.mk (below_step (bl HB.out) hb); have n1_ := Aside0.mk (hbox); have n2_ := Aside0.mk ((by rw [hg]; exact (below_size (bl HB.out)) : w.heap.size ≤ gb339)); have n3_ := Aside0.mk ((by rw [hg]; exact (below_size (bl HB.out)) : w.heap.size ≤ gb339)); clear HB; have HB := n0_; have BK339 := n1_; have GW339 := n2_; have GE339 := n3_; clear n0_ n1_ n2_ n3_; clear hb hbox hg) | ((with_reducible refine gate_callee (f := 163) rfl ?_); refine goesL_ (some 11) rfl rfl Tryz.func163 (by kernel_rfl) rfl #[.string a1] rfl (by (try simp only [List.map_toArray, List.map_cons, List.map_nil]); first | done | rfl | (simp only [List.length_drop, List.length_take]; rfl)) ?_; (with_reducible refine (schismaref02_Sign.calls a1 t340 _ A3.out).mono ?_); rintro e w' ⟨rfl, ⟨nd, rfl⟩⟩; refine ⟨_, rfl, ?_⟩; (try (rw [drewN_self w10]; generalize hq_ : World.drewN w10 _ = w10; have n0_ : Aside0 (w10.heap[gb339]? = some (.cells #[.string (⟨#[]⟩ : ByteArray), .string (⟨#[]⟩ : ByteArray)] 103 (0, 0))) := ⟨by rw [← hq_]; exact (bx BK339.out)⟩; have n1_ : Aside0 (Below w.heap.size w w10) := ⟨by rw [← hq_]; exact (by repeat (first | (with_reducible first | exact HB.out | apply below_alloc | apply pw_below_drewN | apply below_drew1 | refine below_set ?_ GE339.out) | exact HB.out))⟩; clear BK339 HB hq_; have BK339 := n0_; have HB := n1_; clear n0_ n1_))) | ((with_reducible refine gate_callee (f := 103) rfl ?_); refine goesL_ (some 14) rfl rfl Tryz.func103 (by kernel_rfl) rfl #[.string a0] rfl (by (try simp only [List.map_toArray, List.map_cons, List.map_nil]); first | done | rfl | (simp only [List.length_drop, List.length_take]; rfl)) ?_; (with_reducible refine (schismaref02_Neg.calls a0 t341 _ A5.out).mono ?_); rintro e w' ⟨rfl, ⟨nd, rfl⟩⟩; refine ⟨_, rfl, ?_⟩; (try (rw [drewN_self w10]; generalize hq_ : World.drewN w10 _ = w10; have n0_ : Aside0 (w10.heap[gb339]? = some (.cells #[.string (⟨#[]⟩ : ByteArray), .string (⟨#[]⟩ : ByteArray)] 103 (0, 0))) := ⟨by rw [← hq_]; exact (bx BK339.out)⟩; have n1_ : Aside0 (Below w.heap.size w w10) := ⟨by rw [← hq_]; exact (by repeat (first | (with_reducible first | exact HB.out | apply below_alloc | apply pw_below_drewN | apply below_drew1 | refine below_set ?_ GE339.out) | exact HB.out))⟩; clear BK339 HB hq_; have BK339 := n0_; have HB := n1_; clear n0_ n1_))) | ((with_reducible refine gate_callee (f := 103) rfl ?_); refine goesL_ (some 16) rfl rfl Tryz.func103 (by kernel_rfl) rfl #[.string a1] rfl (by (try simp only [List.map_toArray, List.map_cons, List.map_nil]); first | done | rfl | (simp only [List.length_drop, List.length_take]; rfl)) ?_; (with_reducible refine (schismaref02_Neg.calls a1 t342 _ A6.out).mono ?_); rintro e w' ⟨rfl, ⟨nd, rfl⟩⟩; refine ⟨_, rfl, ?_⟩; (try (rw [drewN_self w10]; generalize hq_ : World.drewN w10 _ = w10; have n0_ : Aside0 (w10.heap[gb339]? = some (.cells #[.string (⟨#[]⟩ : ByteArray), .string (⟨#[]⟩ : ByteArray)] 103 (0, 0))) := ⟨by rw [← hq_]; exact (bx BK339.out)⟩; have n1_ : Aside0 (Below w.heap.size w w10) := ⟨by rw [← hq_]; exact (by repeat (first | (with_reducible first | exact HB.out | apply below_alloc | apply pw_below_drewN | apply below_drew1 | refine below_set ?_ GE339.out) | exact HB.out))⟩; clear BK339 HB hq_; have BK339 := n0_; have HB := n1_; clear n0_ n1_))) | ((with_reducible refine gate_callee (f := 165) rfl ?_); refine goesL_ (some 19) rfl rfl Tryz.func165 (by kernel_rfl) rfl #[.string t341, .string t342] rfl (by (try simp only [List.map_toArray, List.map_cons, List.map_nil]); first | done | rfl | (simp only [List.length_drop, List.length_take]; rfl)) ?_; (with_reducible refine (schismaref02_Gcd.calls k t341 t342 t343 _ ?gG A7.out).mono ?_); (case gG => first | exact HG.out | exact GW.below HG.out (by repeat (first | (with_reducible first | exact HB.out | apply below_alloc | apply pw_below_drewN | apply below_drew1 | refine below_set ?_ GE339.out) | exact HB.out))); rintro e w11 ⟨rfl, hb⟩; refine ⟨_, rfl, ?_⟩; have n0_ := Aside0.mk (blk_below (g := gb339) (o := .cells #[.string (⟨#[]⟩ : ByteArray), .string (⟨#[]⟩ : ByteArray)] 103 (0, 0)) (bx BK339.out) hb); have n1_ := Aside0.mk (below_step (by repeat (first | (with_reducible first | exact HB.out | apply below_alloc | apply pw_below_drewN | apply below_drew1 | refine below_set ?_ GE339.out) | exact HB.out)) hb); clear BK339; clear HB; have BK339 := n0_; have HB := n1_; clear n0_ n1_; (try clear hb); (try clear hb2); (try clear hk); (try clear hi)) | ((with_reducible refine gate_callee (f := 164) rfl ?_); refine goesL_ (some 23) rfl rfl Tryz.func164 (by kernel_rfl) rfl #[.string t341, .string t343] rfl (by (try simp only [List.map_toArray, List.map_cons, List.map_nil]); first | done | rfl | (simp only [List.length_drop, List.length_take]; rfl)) ?_; (with_reducible refine (schismaref02_DivMod.calls k t341 t343 t344 t345 _ ?gG A8.out).mono ?_); (case gG => first | exact HG.out | exact GW.below HG.out (by repeat (first | (with_reducible first | exact HB.out | apply below_alloc | apply pw_below_drewN | apply below_drew1 | refine below_set ?_ GE339.out) | exact HB.out))); rintro e w12 ⟨rfl, hb⟩; refine ⟨_, rfl, ?_⟩; have n0_ := Aside0.mk (blk_below (g := gb339) (o := .cells #[.string (⟨#[]⟩ : ByteArray), .string (⟨#[]⟩ : ByteArray)] 103 (0, 0)) (bx BK339.out) hb); have n1_ := Aside0.mk (below_step (by repeat (first | (with_reducible first | exact HB.out | apply below_alloc | apply pw_below_drewN | apply below_drew1 | refine below_set ?_ GE339.out) | exact HB.out)) hb); clear BK339; clear HB; have BK339 := n0_; have HB := n1_; clear n0_ n1_; (try clear hb); (try clear hb2); (try clear hk); (try clear hi)) | ((with_reducible refine gate_callee (f := 164) rfl ?_); refine goesL_ (some 29) rfl rfl Tryz.func164 (by kernel_rfl) rfl #[.string t342, .string t343] rfl (by (try simp only [List.map_toArray, List.map_cons, List.map_nil]); first | done | rfl | (simp only [List.length_drop, List.length_take]; rfl)) ?_; (with_reducible refine (schismaref02_DivMod.calls k t342 t343 t346 t347 _ ?gG A9.out).mono ?_); (case gG => first | exact HG.out | exact GW.below HG.out (by repeat (first | (with_reducible first | exact HB.out | apply below_alloc | apply pw_below_drewN | apply below_drew1 | refine below_set ?_ GE339.out) | exact HB.out))); rintro e w13 ⟨rfl, hb⟩; refine ⟨_, rfl, ?_⟩; have n0_ := Aside0.mk (blk_below (g := gb339) (o := .cells #[.string (⟨#[]⟩ : ByteArray), .string (⟨#[]⟩ : ByteArray)] 103 (0, 0)) (bx BK339.out) hb); have n1_ := Aside0.mk (below_step (by repeat (first | (with_reducible first | exact HB.out | apply below_alloc | apply pw_below_drewN | apply below_drew1 | refine below_set ?_ GE339.out) | exact HB.out)) hb); clear BK339; clear HB; have BK339 := n0_; have HB := n1_; clear n0_ n1_; (try clear hb); (try clear hb2); (try clear hk); (try clear hi); have hcz14_0 : w13.cell? ⟨gb339, 0, none⟩ = some (.string (⟨#[]⟩ : ByteArray)) := (blk_cell BK339.out 0).trans rfl; have hcz14_1 : w13.cell? ⟨gb339, 1, none⟩ = some (.string (⟨#[]⟩ : ByteArray)) := (blk_cell BK339.out 1).trans rfl; have hfz14_0 := blk_frozen BK339.out 0; have hfz14_1 := blk_frozen BK339.out 1))
  refine bodyPost_ret (results_cell_row rfl _ _ gb339 103 #[.string t344, .string t346] (0, 0) _ rfl (by (with_reducible repeat (first | refine blk_drewN ?_ _ | refine blk_drew ?_ | refine blk_alloc ?_ _)); refine blk_put (cs := #[.string t344, .string (⟨#[]⟩ : ByteArray)]) ?_ 1 _ rfl; (with_reducible repeat (first | refine blk_drewN ?_ _ | refine blk_drew ?_ | refine blk_alloc ?_ _)); refine blk_put (cs := #[.string (⟨#[]⟩ : ByteArray), .string (⟨#[]⟩ : ByteArray)]) ?_ 0 _ rfl; (with_reducible repeat (first | refine blk_drewN ?_ _ | refine blk_drew ?_ | refine blk_alloc ?_ _)); exact BK339.out) Tryz.underlying103 rfl (by kernel_rfl)) rfl ?_
  exact ⟨by first | rfl | (simp [errW_none, errW_some] <;> rfl) | (simp [*, errW_none, errW_some] <;> rfl), by repeat (first | (with_reducible first | exact HB.out | apply below_alloc | apply pw_below_drewN | apply below_drew1 | refine below_set ?_ GE339.out) | exact HB.out)⟩
 ·rw [if_neg c4] at H
  have c4b0 : decide (t340 < 0) = false := decide_eq_false c4
  clear c4
  replace H := Option.bind_eq_some_iff.mp H
  obtain ⟨t348, A150, H⟩ := H
  replace H : ((schismaref02_DivMod.f k a0 t348).bind fun bt349 => ((schismaref02_DivMod.f k a1 t348).bind fun bt351 => (some (bt349.1, bt351.1)))) = some (r1, r2) := H
  have A15 := Aside0.mk A150
  clear A150
  replace H := Option.bind_eq_some_iff.mp H
  obtain ⟨⟨t349, t350⟩, A160, H⟩ := H
  replace H : ((schismaref02_DivMod.f k a1 t348).bind fun bt351 => (some (t349, bt351.1))) = some (r1, r2) := H
  have A16 := Aside0.mk A160
  clear A160
  replace H := Option.bind_eq_some_iff.mp H
  obtain ⟨⟨t351, t352⟩, A170, H⟩ := H
  replace H : (some (t349, t351)) = some (r1, r2) := H
  have A17 := Aside0.mk A170
  clear A170
  simp only [Option.some.injEq, Prod.mk.injEq] at H
  obtain ⟨rfl, rfl⟩ := H
  go_enter Tryz.func104, Tryz.ntmps104
  go_wp2_with (first | ((with_reducible refine gate_dst (N := 4) rfl ?_); refine box_event ?hg (N := 4) ?hd (cs := #[.string (⟨#[]⟩ : ByteArray), .string (⟨#[]⟩ : ByteArray)]) (t := 103) ?hr ?_; (case hd => rfl); (case hg => rfl); (case hr => first | (go_simp; done) | (go_simp; rfl)); intro gb339 hg w18 hbox hb; have n0_ := Aside0.mk (below_step (bl HB.out) hb); have n1_ := Aside0.mk (hbox); have n2_ := Aside0.mk ((by rw [hg]; exact (below_size (bl HB.out)) : w.heap.size ≤ gb339)); have n3_ := Aside0.mk ((by rw [hg]; exact (below_size (bl HB.out)) : w.heap.size ≤ gb339)); clear HB; have HB := n0_; have BK339 := n1_; have GW339 := n2_; have GE339 := n3_; clear n0_ n1_ n2_ n3_; clear hb hbox hg) | ((with_reducible refine gate_callee (f := 163) rfl ?_); refine goesL_ (some 11) rfl rfl Tryz.func163 (by kernel_rfl) rfl #[.string a1] rfl (by (try simp only [List.map_toArray, List.map_cons, List.map_nil]); first | done | rfl | (simp only [List.length_drop, List.length_take]; rfl)) ?_; (with_reducible refine (schismaref02_Sign.calls a1 t340 _ A3.out).mono ?_); rintro e w' ⟨rfl, ⟨nd, rfl⟩⟩; refine ⟨_, rfl, ?_⟩; (try (rw [drewN_self w18]; generalize hq_ : World.drewN w18 _ = w18; have n0_ : Aside0 (w18.heap[gb339]? = some (.cells #[.string (⟨#[]⟩ : ByteArray), .string (⟨#[]⟩ : ByteArray)] 103 (0, 0))) := ⟨by rw [← hq_]; exact (bx BK339.out)⟩; have n1_ : Aside0 (Below w.heap.size w w18) := ⟨by rw [← hq_]; exact (by repeat (first | (with_reducible first | exact HB.out | apply below_alloc | apply pw_below_drewN | apply below_drew1 | refine below_set ?_ GE339.out) | exact HB.out))⟩; clear BK339 HB hq_; have BK339 := n0_; have HB := n1_; clear n0_ n1_))) | ((with_reducible refine gate_callee (f := 165) rfl ?_); refine goesL_ (some 19) rfl rfl Tryz.func165 (by kernel_rfl) rfl #[.string a0, .string a1] rfl (by (try simp only [List.map_toArray, List.map_cons, List.map_nil]); first | done | rfl | (simp only [List.length_drop, List.length_take]; rfl)) ?_; (with_reducible refine (schismaref02_Gcd.calls k a0 a1 t348 _ ?gG A15.out).mono ?_); (case gG => first | exact HG.out | exact GW.below HG.out (by repeat (first | (with_reducible first | exact HB.out | apply below_alloc | apply pw_below_drewN | apply below_drew1 | refine below_set ?_ GE339.out) | exact HB.out))); rintro e w19 ⟨rfl, hb⟩; refine ⟨_, rfl, ?_⟩; have n0_ := Aside0.mk (blk_below (g := gb339) (o := .cells #[.string (⟨#[]⟩ : ByteArray), .string (⟨#[]⟩ : ByteArray)] 103 (0, 0)) (bx BK339.out) hb); have n1_ := Aside0.mk (below_step (by repeat (first | (with_reducible first | exact HB.out | apply below_alloc | apply pw_below_drewN | apply below_drew1 | refine below_set ?_ GE339.out) | exact HB.out)) hb); clear BK339; clear HB; have BK339 := n0_; have HB := n1_; clear n0_ n1_; (try clear hb); (try clear hb2); (try clear hk); (try clear hi)) | ((with_reducible refine gate_callee (f := 164) rfl ?_); refine goesL_ (some 23) rfl rfl Tryz.func164 (by kernel_rfl) rfl #[.string a0, .string t348] rfl (by (try simp only [List.map_toArray, List.map_cons, List.map_nil]); first | done | rfl | (simp only [List.length_drop, List.length_take]; rfl)) ?_; (with_reducible refine (schismaref02_DivMod.calls k a0 t348 t349 t350 _ ?gG A16.out).mono ?_); (case gG => first | exact HG.out | exact GW.below HG.out (by repeat (first | (with_reducible first | exact HB.out | apply below_alloc | apply pw_below_drewN | apply below_drew1 | refine below_set ?_ GE339.out) | exact HB.out))); rintro e w20 ⟨rfl, hb⟩; refine ⟨_, rfl, ?_⟩; have n0_ := Aside0.mk (blk_below (g := gb339) (o := .cells #[.string (⟨#[]⟩ : ByteArray), .string (⟨#[]⟩ : ByteArray)] 103 (0, 0)) (bx BK339.out) hb); have n1_ := Aside0.mk (below_step (by repeat (first | (with_reducible first | exact HB.out | apply below_alloc | apply pw_below_drewN | apply below_drew1 | refine below_set ?_ GE339.out) | exact HB.out)) hb); clear BK339; clear HB; have BK339 := n0_; have HB := n1_; clear n0_ n1_; (try clear hb); (try clear hb2); (try clear hk); (try clear hi)) | ((with_reducible refine gate_callee (f := 164) rfl ?_); refine goesL_ (some 29) rfl rfl Tryz.func164 (by kernel_rfl) rfl #[.string a1, .string t348] rfl (by (try simp only [List.map_toArray, List.map_cons, List.map_nil]); first | done | rfl | (simp only [List.length_drop, List.length_take]; rfl)) ?_; (with_reducible refine (schismaref02_DivMod.calls k a1 t348 t351 t352 _ ?gG A17.out).mono ?_); (case gG => first | exact HG.out | exact GW.below HG.out (by repeat (first | (with_reducible first | exact HB.out | apply below_alloc | apply pw_below_drewN | apply below_drew1 | refine below_set ?_ GE339.out) | exact HB.out))); rintro e w21 ⟨rfl, hb⟩; refine ⟨_, rfl, ?_⟩; have n0_ := Aside0.mk (blk_below (g := gb339) (o := .cells #[.string (⟨#[]⟩ : ByteArray), .string (⟨#[]⟩ : ByteArray)] 103 (0, 0)) (bx BK339.out) hb); have n1_ := Aside0.mk (below_step (by repeat (first | (with_reducible first | exact HB.out | apply below_alloc | apply pw_below_drewN | apply below_drew1 | refine below_set ?_ GE339.out) | exact HB.out)) hb); clear BK339; clear HB; have BK339 := n0_; have HB := n1_; clear n0_ n1_; (try clear hb); (try clear hb2); (try clear hk); (try clear hi); have hcz22_0 : w21.cell? ⟨gb339, 0, none⟩ = some (.string (⟨#[]⟩ : ByteArray)) := (blk_cell BK339.out 0).trans rfl; have hcz22_1 : w21.cell? ⟨gb339, 1, none⟩ = some (.string (⟨#[]⟩ : ByteArray)) := (blk_cell BK339.out 1).trans rfl; have hfz22_0 := blk_frozen BK339.out 0; have hfz22_1 := blk_frozen BK339.out 1))
  refine bodyPost_ret (results_cell_row rfl _ _ gb339 103 #[.string t349, .string t351] (0, 0) _ rfl (by (with_reducible repeat (first | refine blk_drewN ?_ _ | refine blk_drew ?_ | refine blk_alloc ?_ _)); refine blk_put (cs := #[.string t349, .string (⟨#[]⟩ : ByteArray)]) ?_ 1 _ rfl; (with_reducible repeat (first | refine blk_drewN ?_ _ | refine blk_drew ?_ | refine blk_alloc ?_ _)); refine blk_put (cs := #[.string (⟨#[]⟩ : ByteArray), .string (⟨#[]⟩ : ByteArray)]) ?_ 0 _ rfl; (with_reducible repeat (first | refine blk_drewN ?_ _ | refine blk_drew ?_ | refine blk_alloc ?_ _)); exact BK339.out) Tryz.underlying103 rfl (by kernel_rfl)) rfl ?_
  exact ⟨by first | rfl | (simp [errW_none, errW_some] <;> rfl) | (simp [*, errW_none, errW_some] <;> rfl), by repeat (first | (with_reducible first | exact HB.out | apply below_alloc | apply pw_below_drewN | apply below_drew1 | refine below_set ?_ GE339.out) | exact HB.out)⟩
def schismalaw06_number.f (k : Nat) (a0 : Int) (a1 : Int) : Option (ByteArray × ByteArray) := (schismaref02_Of.f a0).bind fun t354 => ((schismaref02_Of.f a1).bind fun t355 => ((schismaref06_Fraction.f k t354 t355).bind fun bt356 => (some (bt356.1, bt356.2))))
set_option maxHeartbeats 8000000 in
set_option maxRecDepth 100000 in
theorem schismalaw06_number.calls (k : Nat) (a0 : Int) (a1 : Int) (r1 : ByteArray) (r2 : ByteArray) (w : World) (hG : GW w) (h : schismalaw06_number.f k a0 a1 = some (r1, r2)) :
  Calls Tryz.prog 74 #[.int .i64 a0, .int .i64 a1] w fun e w' => e = .returned (.agg #[.string r1, .string r2]) ∧ Below w.heap.size w w' := by
 have HG := Aside0.mk hG
 clear hG
 have hu103 := Tryz.underlying103
 have HB := Aside0.mk (Below.refl w.heap.size w)
 have H : ((schismaref02_Of.f a0).bind fun t354 => ((schismaref02_Of.f a1).bind fun t355 => ((schismaref06_Fraction.f k t354 t355).bind fun bt356 => (some (bt356.1, bt356.2))))) = some (r1, r2) := h
 clear h
 replace H := Option.bind_eq_some_iff.mp H
 obtain ⟨t354, A30, H⟩ := H
 replace H : ((schismaref02_Of.f a1).bind fun t355 => ((schismaref06_Fraction.f k t354 t355).bind fun bt356 => (some (bt356.1, bt356.2)))) = some (r1, r2) := H
 have A3 := Aside0.mk A30
 clear A30
 replace H := Option.bind_eq_some_iff.mp H
 obtain ⟨t355, A40, H⟩ := H
 replace H : ((schismaref06_Fraction.f k t354 t355).bind fun bt356 => (some (bt356.1, bt356.2))) = some (r1, r2) := H
 have A4 := Aside0.mk A40
 clear A40
 replace H := Option.bind_eq_some_iff.mp H
 obtain ⟨⟨t356, t357⟩, A50, H⟩ := H
 replace H : (some (t356, t357)) = some (r1, r2) := H
 have A5 := Aside0.mk A50
 clear A50
 simp only [Option.some.injEq, Prod.mk.injEq] at H
 obtain ⟨rfl, rfl⟩ := H
 go_enter Tryz.func74, Tryz.ntmps74
 go_wp2_with (first | ((with_reducible refine gate_dst (N := 4) rfl ?_); refine box_event ?hg (N := 4) ?hd (cs := #[.string (⟨#[]⟩ : ByteArray), .string (⟨#[]⟩ : ByteArray)]) (t := 103) ?hr ?_; (case hd => rfl); (case hg => rfl); (case hr => first | (go_simp; done) | (go_simp; rfl)); intro gb353 hg w6 hbox hb; have n0_ := Aside0.mk (below_step (bl HB.out) hb); have n1_ := Aside0.mk (hbox); have n2_ := Aside0.mk ((by rw [hg]; exact (below_size (bl HB.out)) : w.heap.size ≤ gb353)); have n3_ := Aside0.mk ((by rw [hg]; exact (below_size (bl HB.out)) : w.heap.size ≤ gb353)); clear HB; have HB := n0_; have BK353 := n1_; have GW353 := n2_; have GE353 := n3_; clear n0_ n1_ n2_ n3_; clear hb hbox hg) | ((with_reducible refine gate_callee (f := 113) rfl ?_); refine goesL_ (some 6) rfl rfl Tryz.func113 (by kernel_rfl) rfl #[.int .i64 a0] rfl (by (try simp only [List.map_toArray, List.map_cons, List.map_nil]); first | done | rfl | (simp only [List.length_drop, List.length_take]; rfl)) ?_; (with_reducible refine (schismaref02_Of.calls a0 t354 _ ?gG A3.out).mono ?_); (case gG => first | exact HG.out | exact GW.below HG.out (by repeat (first | (with_reducible first | exact HB.out | apply below_alloc | apply pw_below_drewN | apply below_drew1 | refine below_set ?_ GE353.out) | exact HB.out))); rintro e w7 ⟨rfl, hb⟩; refine ⟨_, rfl, ?_⟩; have n0_ := Aside0.mk (blk_below (g := gb353) (o := .cells #[.string (⟨#[]⟩ : ByteArray), .string (⟨#[]⟩ : ByteArray)] 103 (0, 0)) (bx BK353.out) hb); have n1_ := Aside0.mk (below_step (by repeat (first | (with_reducible first | exact HB.out | apply below_alloc | apply pw_below_drewN | apply below_drew1 | refine below_set ?_ GE353.out) | exact HB.out)) hb); clear BK353; clear HB; have BK353 := n0_; have HB := n1_; clear n0_ n1_; (try clear hb); (try clear hb2); (try clear hk); (try clear hi)) | ((with_reducible refine gate_callee (f := 113) rfl ?_); refine goesL_ (some 8) rfl rfl Tryz.func113 (by kernel_rfl) rfl #[.int .i64 a1] rfl (by (try simp only [List.map_toArray, List.map_cons, List.map_nil]); first | done | rfl | (simp only [List.length_drop, List.length_take]; rfl)) ?_; (with_reducible refine (schismaref02_Of.calls a1 t355 _ ?gG A4.out).mono ?_); (case gG => first | exact HG.out | exact GW.below HG.out (by repeat (first | (with_reducible first | exact HB.out | apply below_alloc | apply pw_below_drewN | apply below_drew1 | refine below_set ?_ GE353.out) | exact HB.out))); rintro e w8 ⟨rfl, hb⟩; refine ⟨_, rfl, ?_⟩; have n0_ := Aside0.mk (blk_below (g := gb353) (o := .cells #[.string (⟨#[]⟩ : ByteArray), .string (⟨#[]⟩ : ByteArray)] 103 (0, 0)) (bx BK353.out) hb); have n1_ := Aside0.mk (below_step (by repeat (first | (with_reducible first | exact HB.out | apply below_alloc | apply pw_below_drewN | apply below_drew1 | refine below_set ?_ GE353.out) | exact HB.out)) hb); clear BK353; clear HB; have BK353 := n0_; have HB := n1_; clear n0_ n1_; (try clear hb); (try clear hb2); (try clear hk); (try clear hi)) | ((with_reducible refine gate_callee (f := 104) rfl ?_); refine goesL_ (some 9) rfl rfl Tryz.func104 (by kernel_rfl) rfl #[.string t354, .string t355] rfl (by (try simp only [List.map_toArray, List.map_cons, List.map_nil]); first | done | rfl | (simp only [List.length_drop, List.length_take]; rfl)) ?_; (with_reducible refine (schismaref06_Fraction.calls k t354 t355 t356 t357 _ ?gG A5.out).mono ?_); (case gG => first | exact HG.out | exact GW.below HG.out (by repeat (first | (with_reducible first | exact HB.out | apply below_alloc | apply pw_below_drewN | apply below_drew1 | refine below_set ?_ GE353.out) | exact HB.out))); rintro e w9 ⟨rfl, hb⟩; refine ⟨_, rfl, ?_⟩; have n0_ := Aside0.mk (blk_below (g := gb353) (o := .cells #[.string (⟨#[]⟩ : ByteArray), .string (⟨#[]⟩ : ByteArray)] 103 (0, 0)) (bx BK353.out) hb); have n1_ := Aside0.mk (below_step (by repeat (first | (with_reducible first | exact HB.out | apply below_alloc | apply pw_below_drewN | apply below_drew1 | refine below_set ?_ GE353.out) | exact HB.out)) hb); clear BK353; clear HB; have BK353 := n0_; have HB := n1_; clear n0_ n1_; (try clear hb); (try clear hb2); (try clear hk); (try clear hi); have hcz10_0 : w9.cell? ⟨gb353, 0, none⟩ = some (.string (⟨#[]⟩ : ByteArray)) := (blk_cell BK353.out 0).trans rfl; have hcz10_1 : w9.cell? ⟨gb353, 1, none⟩ = some (.string (⟨#[]⟩ : ByteArray)) := (blk_cell BK353.out 1).trans rfl; have hfz10_0 := blk_frozen BK353.out 0; have hfz10_1 := blk_frozen BK353.out 1))
 refine bodyPost_ret (results_cell_row rfl _ _ gb353 103 #[.string t356, .string t357] (0, 0) _ rfl (by (with_reducible repeat (first | refine blk_drewN ?_ _ | refine blk_drew ?_ | refine blk_alloc ?_ _)); refine blk_put (cs := #[.string t356, .string (⟨#[]⟩ : ByteArray)]) ?_ 1 _ rfl; (with_reducible repeat (first | refine blk_drewN ?_ _ | refine blk_drew ?_ | refine blk_alloc ?_ _)); refine blk_put (cs := #[.string (⟨#[]⟩ : ByteArray), .string (⟨#[]⟩ : ByteArray)]) ?_ 0 _ rfl; (with_reducible repeat (first | refine blk_drewN ?_ _ | refine blk_drew ?_ | refine blk_alloc ?_ _)); exact BK353.out) Tryz.underlying103 rfl (by kernel_rfl)) rfl ?_
 exact ⟨by first | rfl | (simp [errW_none, errW_some] <;> rfl) | (simp [*, errW_none, errW_some] <;> rfl), by repeat (first | (with_reducible first | exact HB.out | apply below_alloc | apply pw_below_drewN | apply below_drew1 | refine below_set ?_ GE353.out) | exact HB.out)⟩
end Go.Proofs.YtegffolimjiioaaGreatDoor.PB
