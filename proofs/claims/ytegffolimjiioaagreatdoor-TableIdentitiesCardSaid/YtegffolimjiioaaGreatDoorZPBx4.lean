/- Walks and contracts of the program's functions: printed for this claim. -/
import Derived.Test.YtegffolimjiioaaGreatDoorZX0
import Derived.Test.YtegffolimjiioaaGreatDoorZPBx0
import Derived.Test.YtegffolimjiioaaGreatDoorZPBx3
namespace Go.Proofs.YtegffolimjiioaaGreatDoor.PB
open Go.RowKit Go.Proofs.YtegffolimjiioaaGreatDoorW.PrintWords Go.Proofs.YtegffolimjiioaaGreatDoorW.PrintLast Go.Proofs.YtegffolimjiioaaGreatDoorW.PrintMore
attribute [local go_sem] max2_int min2_int max_two min_two
set_option linter.unusedVariables false
set_option linter.unusedSimpArgs false
def schismaref06_Equal.l0 : Nat → List (List Int) → List (List Int) → Int → Option (Bool)
 | 0, _, _, _ => none
 | k + 1, x0, x1, x5 => if x5 < (x0.length : Int) then (if 0 ≤ x5 then (if x5 < (x1.length : Int) then ((schismaref06_EqualRows.f k (rd_L1 x0 x5) (rd_L1 x1 x5)).bind fun t369 => (if t369 = true then (schismaref06_Equal.l0 k x0 x1 (wrap64 (x5 + 1))) else (some false))) else (none)) else (none)) else (some true)
def schismaref06_Equal.f (k : Nat) (l0 : List (List Int)) (l1 : List (List Int)) : Option (Bool) := if (l0.length : Int) = (l1.length : Int) then (schismaref06_Equal.l0 k l0 l1 0) else (some false)
set_option maxHeartbeats 8000000 in
set_option maxRecDepth 100000 in
theorem schismaref06_Equal.calls (k : Nat) (A0 : Option Addr) (c0 : Nat) (l0 : List (List Int)) (A1 : Option Addr) (c1 : Nat) (l1 : List (List Int)) (r : Bool) (w : World) (hr0 : Kd.C (Kd.slice 3 (Kd.int .i64)) w A0 l0.length l0) (hc0 : l0.length ≤ c0) (hr1 : Kd.C (Kd.slice 3 (Kd.int .i64)) w A1 l1.length l1) (hc1 : l1.length ≤ c1) (h : schismaref06_Equal.f k l0 l1 = some r) :
  Calls Tryz.prog 42 #[.slice A0 l0.length c0, .slice A1 l1.length c1] w fun e w' => e = .returned (.bool r) ∧ Drawn0 w w' := by
 have HR0 := Aside0.mk hr0
 have HC0 := Aside0.mk hc0
 clear hr0 hc0
 have HR1 := Aside0.mk hr1
 have HC1 := Aside0.mk hc1
 clear hr1 hc1
 have H : (if (l0.length : Int) = (l1.length : Int) then (schismaref06_Equal.l0 k l0 l1 0) else (some false)) = some r := h
 clear h
 by_cases c3 : (l0.length : Int) = (l1.length : Int)
 ·rw [if_pos c3] at H
  have c3b0 : ((l0.length : Int) == (l1.length : Int)) = true := beq_iff_eq.mpr c3
  have c3b1 : ((l0.length : Int) != (l1.length : Int)) = false := bne_eq_false_iff_eq.mpr c3
  have c3b2 : (l0.length == l1.length) = true := by first | simpa using c3 | (simp at c3 ⊢; omega)
  clear c3
  have H' := Aside0.mk H
  clear H
  go_enter Tryz.func42, Tryz.ntmps42
  go_wp2
  repeat (go_quiet (fail); try go_wp2)
  go_loopg [5] k (fun kq v5 w' => ∃ (x5_1 : Int), v5 = .int .i64 x5_1 ∧ Aside0 (schismaref06_Equal.l0 kq l0 l1 x5_1 = some r) ∧ Aside0 (kq ≤ k) ∧ Drawn0 w w')
  case atStart => exact ⟨(0), (by first | rfl | (simp; done) | (simp [*]; done)), H', ⟨Nat.le_refl _⟩, by repeat (first | exact Drawn0.refl _ | apply Drawn0.step)⟩
  case round =>
   clear H'
   try clear c1
   try clear p2
   try clear c3
   try clear c3b0
   try clear c3b1
   try clear c3b2
   obtain ⟨x5_1, rfl, HA, HK1, ⟨m1, rfl⟩⟩ := hrel
   cases gk with
   | zero => exact absurd HA.out (by simp [schismaref06_Equal.l0])
   | succ k1 =>
    have H := HA.out
    clear HA
    simp only [schismaref06_Equal.l0] at H
    by_cases c4 : x5_1 < (l0.length : Int)
    ·rw [if_pos c4] at H
     have c4b0 : decide (x5_1 < (l0.length : Int)) = true := decide_eq_true c4
     clear c4
     by_cases c5 : 0 ≤ x5_1
     ·rw [if_pos c5] at H
      have c5b0 : decide (0 ≤ x5_1) = true := decide_eq_true c5
      clear c5
      by_cases c6 : x5_1 < (l1.length : Int)
      ·rw [if_pos c6] at H
       have c6b0 : decide (x5_1 < (l1.length : Int)) = true := decide_eq_true c6
       clear c6
       replace H := Option.bind_eq_some_iff.mp H
       obtain ⟨t369, A70, H⟩ := H
       replace H : (if t369 = true then (schismaref06_Equal.l0 k1 l0 l1 (wrap64 (x5_1 + 1))) else (some false)) = some r := H
       have A7 := Aside0.mk A70
       clear A70
       by_cases c8 : t369 = true
       ·subst c8
        have H1 : (schismaref06_Equal.l0 k1 l0 l1 (wrap64 (x5_1 + 1))) = some r := by rw [if_pos rfl] at H; exact H
        clear H
        have H := H1
        clear H1
        have H' := Aside0.mk H
        clear H
        have p367 : 0 ≤ (x5_1 : Int) := of_decide_eq_true (by first | (with_reducible assumption) | assumption)
        have q367 : x5_1 < (l0.length : Int) := of_decide_eq_true (by first | (with_reducible assumption) | assumption)
        obtain ⟨ad367, A367_0, c367_0, e367, hx367_0, hl367_0, hi367_0⟩ := at_L1 HR0.out x5_1 p367 q367
        cases e367
        have HR367_0 := Aside0.mk hi367_0
        have HC367_0 := Aside0.mk hl367_0
        clear hi367_0 hl367_0
        replace p367 := eq_true p367
        replace q367 := eq_true q367
        have p368 : 0 ≤ (x5_1 : Int) := of_decide_eq_true (by first | (with_reducible assumption) | assumption)
        have q368 : x5_1 < (l1.length : Int) := of_decide_eq_true (by first | (with_reducible assumption) | assumption)
        obtain ⟨ad368, A368_0, c368_0, e368, hx368_0, hl368_0, hi368_0⟩ := at_L1 HR1.out x5_1 p368 q368
        cases e368
        have HR368_0 := Aside0.mk hi368_0
        have HC368_0 := Aside0.mk hl368_0
        clear hi368_0 hl368_0
        replace p368 := eq_true p368
        replace q368 := eq_true q368
        go_wp2_with (first | (go_at_call 67; (with_reducible refine (schismaref06_EqualRows.calls k1 _ _ (rd_L1 l0 x5_1) _ _ (rd_L1 l1 x5_1) true _ ?side1 ?side2 ?side3 ?side4 A7.out).mono ?_); (case side1 => exact cx HR367_0.out); (case side2 => exact HC367_0.out); (case side3 => exact cx HR368_0.out); (case side4 => exact HC368_0.out); rintro e w' ⟨rfl, ⟨nd, rfl⟩⟩; (try first | exact ⟨rfl, _, World.drewN_drewN _ _ _⟩ | exact ⟨rfl, _, Eq.trans (World.drewN_drewN _ _ _) (congrArg (World.drewN _) (Nat.add_assoc _ _ _))⟩)))
        repeat (go_quiet (first | (go_at_call 67; (with_reducible refine (schismaref06_EqualRows.calls k1 _ _ (rd_L1 l0 x5_1) _ _ (rd_L1 l1 x5_1) true _ ?side1 ?side2 ?side3 ?side4 A7.out).mono ?_); (case side1 => exact cx HR367_0.out); (case side2 => exact HC367_0.out); (case side3 => exact cx HR368_0.out); (case side4 => exact HC368_0.out); rintro e w' ⟨rfl, ⟨nd, rfl⟩⟩; (try first | exact ⟨rfl, _, World.drewN_drewN _ _ _⟩ | exact ⟨rfl, _, Eq.trans (World.drewN_drewN _ _ _) (congrArg (World.drewN _) (Nat.add_assoc _ _ _))⟩))); try go_wp2_with (first | (go_at_call 67; (with_reducible refine (schismaref06_EqualRows.calls k1 _ _ (rd_L1 l0 x5_1) _ _ (rd_L1 l1 x5_1) true _ ?side1 ?side2 ?side3 ?side4 A7.out).mono ?_); (case side1 => exact cx HR367_0.out); (case side2 => exact HC367_0.out); (case side3 => exact cx HR368_0.out); (case side4 => exact HC368_0.out); rintro e w' ⟨rfl, ⟨nd, rfl⟩⟩; (try first | exact ⟨rfl, _, World.drewN_drewN _ _ _⟩ | exact ⟨rfl, _, Eq.trans (World.drewN_drewN _ _ _) (congrArg (World.drewN _) (Nat.add_assoc _ _ _))⟩))))
        go_roundg k1
        case measure => have := HK1.out; omega
        case rel => exact ⟨(wrap64 (x5_1 + 1)), (by first | rfl | (simp; done) | (simp [*]; done)), H', ⟨by have := HK1.out; omega⟩, by repeat (first | exact Drawn0.refl _ | apply Drawn0.step)⟩
       ·replace c8 := Bool.eq_false_iff.mpr c8
        subst c8
        have H1 : (some false) = some r := by rw [if_neg (show ¬ (false = true) by decide)] at H; exact H
        clear H
        have H := H1
        clear H1
        obtain rfl := Option.some.inj H
        have p367 : 0 ≤ (x5_1 : Int) := of_decide_eq_true (by first | (with_reducible assumption) | assumption)
        have q367 : x5_1 < (l0.length : Int) := of_decide_eq_true (by first | (with_reducible assumption) | assumption)
        obtain ⟨ad367, A367_0, c367_0, e367, hx367_0, hl367_0, hi367_0⟩ := at_L1 HR0.out x5_1 p367 q367
        cases e367
        have HR367_0 := Aside0.mk hi367_0
        have HC367_0 := Aside0.mk hl367_0
        clear hi367_0 hl367_0
        replace p367 := eq_true p367
        replace q367 := eq_true q367
        have p368 : 0 ≤ (x5_1 : Int) := of_decide_eq_true (by first | (with_reducible assumption) | assumption)
        have q368 : x5_1 < (l1.length : Int) := of_decide_eq_true (by first | (with_reducible assumption) | assumption)
        obtain ⟨ad368, A368_0, c368_0, e368, hx368_0, hl368_0, hi368_0⟩ := at_L1 HR1.out x5_1 p368 q368
        cases e368
        have HR368_0 := Aside0.mk hi368_0
        have HC368_0 := Aside0.mk hl368_0
        clear hi368_0 hl368_0
        replace p368 := eq_true p368
        replace q368 := eq_true q368
        go_wp2_with (first | (go_at_call 67; (with_reducible refine (schismaref06_EqualRows.calls k1 _ _ (rd_L1 l0 x5_1) _ _ (rd_L1 l1 x5_1) false _ ?side1 ?side2 ?side3 ?side4 A7.out).mono ?_); (case side1 => exact cx HR367_0.out); (case side2 => exact HC367_0.out); (case side3 => exact cx HR368_0.out); (case side4 => exact HC368_0.out); rintro e w' ⟨rfl, ⟨nd, rfl⟩⟩; (try first | exact ⟨rfl, _, World.drewN_drewN _ _ _⟩ | exact ⟨rfl, _, Eq.trans (World.drewN_drewN _ _ _) (congrArg (World.drewN _) (Nat.add_assoc _ _ _))⟩)))
        repeat (go_quiet (first | (go_at_call 67; (with_reducible refine (schismaref06_EqualRows.calls k1 _ _ (rd_L1 l0 x5_1) _ _ (rd_L1 l1 x5_1) false _ ?side1 ?side2 ?side3 ?side4 A7.out).mono ?_); (case side1 => exact cx HR367_0.out); (case side2 => exact HC367_0.out); (case side3 => exact cx HR368_0.out); (case side4 => exact HC368_0.out); rintro e w' ⟨rfl, ⟨nd, rfl⟩⟩; (try first | exact ⟨rfl, _, World.drewN_drewN _ _ _⟩ | exact ⟨rfl, _, Eq.trans (World.drewN_drewN _ _ _) (congrArg (World.drewN _) (Nat.add_assoc _ _ _))⟩))); try go_wp2_with (first | (go_at_call 67; (with_reducible refine (schismaref06_EqualRows.calls k1 _ _ (rd_L1 l0 x5_1) _ _ (rd_L1 l1 x5_1) false _ ?side1 ?side2 ?side3 ?side4 A7.out).mono ?_); (case side1 => exact cx HR367_0.out); (case side2 => exact HC367_0.out); (case side3 => exact cx HR368_0.out); (case side4 => exact HC368_0.out); rintro e w' ⟨rfl, ⟨nd, rfl⟩⟩; (try first | exact ⟨rfl, _, World.drewN_drewN _ _ _⟩ | exact ⟨rfl, _, Eq.trans (World.drewN_drewN _ _ _) (congrArg (World.drewN _) (Nat.add_assoc _ _ _))⟩))))
        go_ret
        exact ⟨by first | rfl | (simp; done) | (simp [*]; done), by repeat (first | exact Drawn0.refl _ | apply Drawn0.step)⟩
      ·rw [if_neg c6] at H
       exact absurd H (by simp)
     ·rw [if_neg c5] at H
      exact absurd H (by simp)
    ·rw [if_neg c4] at H
     have c4b0 : decide (x5_1 < (l0.length : Int)) = false := decide_eq_false c4
     clear c4
     obtain rfl := Option.some.inj H
     go_wp2
     repeat (go_quiet (fail); try go_wp2)
     go_ret
     exact ⟨by first | rfl | (simp; done) | (simp [*]; done), by repeat (first | exact Drawn0.refl _ | apply Drawn0.step)⟩
 ·rw [if_neg c3] at H
  have c3b0 : ((l0.length : Int) == (l1.length : Int)) = false := beq_eq_false_iff_ne.mpr c3
  have c3b1 : ((l0.length : Int) != (l1.length : Int)) = true := bne_iff_ne.mpr c3
  have c3b2 : (l0.length == l1.length) = false := by first | simpa using c3 | (simp at c3 ⊢; omega)
  obtain rfl := Option.some.inj H
  go_enter Tryz.func42, Tryz.ntmps42
  go_wp2
  repeat (go_quiet (fail); try go_wp2)
  go_ret
  exact ⟨by first | rfl | (simp; done) | (simp [*]; done), by repeat (first | exact Drawn0.refl _ | apply Drawn0.step)⟩
def schismaref06_Identity.l0 : Nat → Int → List (List Int) → Int → Option ((List (List Int)))
 | 0, _, _, _ => none
 | k + 1, x0, x3, x4 => if x4 < x0 then (if 0 ≤ x0 then (if (x0 : Int).toNat ≤ 35184372088832 then ((some (List.replicate (x0 : Int).toNat 0 : List Int)).bind fun y370 => (if 0 ≤ x4 then (if x4 < (y370.length : Int) then (if x3.length < 5864062014805 then (schismaref06_Identity.l0 k x0 (x3 ++ [(y370.set (x4 : Int).toNat 1)]) (wrap64 (x4 + 1))) else (none)) else (none)) else (none))) else (none)) else (none)) else (some x3)
def schismaref06_Identity.f (k : Nat) (a0 : Int) : Option ((List (List Int))) := schismaref06_Identity.l0 k a0 ([] : List (List Int)) 0
set_option maxHeartbeats 8000000 in
set_option maxRecDepth 100000 in
theorem schismaref06_Identity.calls (k : Nat) (a0 : Int) (r : List (List Int)) (w : World) (h : schismaref06_Identity.f k a0 = some r) :
  Calls Tryz.prog 43 #[.int .i64 a0] w fun e w' => ∃ v0_ : Value, e = .returned (v0_) ∧ Kd.S (Kd.slice 3 (Kd.int .i64)) 51 w' w.heap.size (fun _ => True) v0_ r ∧ Below w.heap.size w w' := by
 have HB := Aside0.mk (Below.refl w.heap.size w)
 have H : (schismaref06_Identity.l0 k a0 ([] : List (List Int)) 0) = some r := h
 clear h
 have H' := Aside0.mk H
 clear H
 go_enter Tryz.func43, Tryz.ntmps43
 go_wp2
 go_loopg [3, 4] k (fun kq v3 v4 w' => ∃ (x3_1 : List (List Int)) (x4_1 : Int), v4 = .int .i64 x4_1 ∧ Aside0 (schismaref06_Identity.l0 kq a0 x3_1 x4_1 = some r) ∧ Aside0 (kq ≤ k) ∧ Aside0 (Kd.S (Kd.slice 3 (Kd.int .i64)) 51 w' w.heap.size (fun _ => True) v3 x3_1) ∧ Aside0 (Below w.heap.size w w'))
 case atStart => exact ⟨(([] : List (List Int))), (0), (by first | rfl | (simp; done) | (simp [*]; done)), H', ⟨Nat.le_refl _⟩, ⟨by first | exact Kd.S_nil _ _ _ _ _ | exact Kd.N_nil _ _ _ _ _ | exact Kd.V_nil _ _ _ _ _ | exact Kd.Q_nil _ _ _ _ _ | exact Kd.R_nil _ _ _ _ _⟩, ⟨by repeat (first | (with_reducible first | exact HB.out | apply below_alloc | apply pw_below_drewN | apply below_drew1) | exact HB.out)⟩⟩
 case round =>
  clear H'
  obtain ⟨x3_1, x4_1, rfl, HA, HK1, HO_3, HB⟩ := hrel
  cases gk with
  | zero => exact absurd HA.out (by simp [schismaref06_Identity.l0])
  | succ k1 =>
   have H := HA.out
   clear HA
   simp only [schismaref06_Identity.l0] at H
   by_cases c2 : x4_1 < a0
   ·rw [if_pos c2] at H
    have c2b0 : decide (x4_1 < a0) = true := decide_eq_true c2
    clear c2
    by_cases c3 : 0 ≤ a0
    ·rw [if_pos c3] at H
     have c3b0 := eq_true c3
     have c3b1 : decide (0 ≤ a0) = true := decide_eq_true c3
     clear c3
     by_cases c4 : (a0 : Int).toNat ≤ 35184372088832
     ·rw [if_pos c4] at H
      have c4b0 := eq_true c4
      have c4b1 : decide ((a0 : Int).toNat ≤ 35184372088832) = true := decide_eq_true c4
      clear c4
      obtain ⟨y370, hy370⟩ : ∃ y_ : List Int, y_ = (List.replicate (a0 : Int).toNat 0) := ⟨_, rfl⟩
      replace H : (if 0 ≤ x4_1 then (if x4_1 < (y370.length : Int) then (if x3_1.length < 5864062014805 then (schismaref06_Identity.l0 k1 a0 (x3_1 ++ [(y370.set (x4_1 : Int).toNat 1)]) (wrap64 (x4_1 + 1))) else (none)) else (none)) else (none)) = some r := by first | (rw [hy370]; with_reducible exact H) | (have H2_ := (Option.bind_some _ _).symm.trans H; rw [hy370]; with_reducible exact H2_) | (have H2_ := (Option.bind_some _ _).symm.trans H; with_reducible exact H2_) | with_reducible exact H | (rw [hy370]; exact H) | exact H
      have Ny370 := Aside0.mk hy370
      clear hy370
      by_cases c5 : 0 ≤ x4_1
      ·rw [if_pos c5] at H
       have c5b0 : decide (0 ≤ x4_1) = true := decide_eq_true c5
       clear c5
       by_cases c6 : x4_1 < (y370.length : Int)
       ·rw [if_pos c6] at H
        have c6b0 : decide (x4_1 < (y370.length : Int)) = true := decide_eq_true c6
        clear c6
        obtain ⟨y373, hy373⟩ : ∃ y_ : List Int, y_ = (y370.set (x4_1 : Int).toNat 1) := ⟨_, rfl⟩
        replace H : (if x3_1.length < 5864062014805 then (schismaref06_Identity.l0 k1 a0 (x3_1 ++ [y373]) (wrap64 (x4_1 + 1))) else (none)) = some r := by first | (rw [hy373]; with_reducible exact H) | (have H2_ := (Option.bind_some _ _).symm.trans H; rw [hy373]; with_reducible exact H2_) | (have H2_ := (Option.bind_some _ _).symm.trans H; with_reducible exact H2_) | with_reducible exact H | (rw [hy373]; exact H) | exact H
        have Ny373 := Aside0.mk hy373
        clear hy373
        by_cases c8 : x3_1.length < 5864062014805
        ·rw [if_pos c8] at H
         have LMc8 := Aside0.mk c8
         clear c8
         obtain ⟨y374, hy374⟩ : ∃ y_ : List (List Int), y_ = (x3_1 ++ [y373]) := ⟨_, rfl⟩
         replace H : (schismaref06_Identity.l0 k1 a0 y374 (wrap64 (x4_1 + 1))) = some r := by first | (rw [hy374]; with_reducible exact H) | (have H2_ := (Option.bind_some _ _).symm.trans H; rw [hy374]; with_reducible exact H2_) | (have H2_ := (Option.bind_some _ _).symm.trans H; with_reducible exact H2_) | with_reducible exact H | (rw [hy374]; exact H) | exact H
         have Ny374 := Aside0.mk hy374
         clear hy374
         have H' := Aside0.mk H
         clear H
         go_wp2_with (first | ((with_reducible refine gate_dst (N := 12) rfl ?_); refine Kd.R_make (Kd.int .i64) _ 3 rfl (N := 12) rfl 51 _ _ rfl a0 rfl rfl Tryz.underlying51 (.int .i64 0) 8 info3 rfl (by decide) (by omega) 0 (ok := fun _ => True) (okp := fun _ => True) rfl (fun _ hk => hk) trivial (of_decide_eq_true (by first | (with_reducible assumption) | assumption)) (Nat.le_trans (Nat.mul_le_mul_right _ (of_decide_eq_true (by first | (with_reducible assumption) | assumption) : a0.toNat ≤ 35184372088832)) (by omega)) (Below.refl _ _) (Nat.le_refl _) ?_; intro v371 w9 ho10 hb hg_ hnew_; clear hg_ hnew_; (first | rw [← Ny370.out] at ho10 | (simp only [Int.reduceToNat] at ho10; rw [← Ny370.out] at ho10)); have n0_ := Aside0.mk (Kd.S_elder' (sx HO_3.out) (Kd.R_base ho10) hb); have n1_ := Aside0.mk (Kd.R_lower ho10 (below_size (bl HB.out))); have n2_ := Aside0.mk (below_step (bl HB.out) hb); clear HO_3; clear HB; have HO_3 := n0_; have HO372 := n1_; have HB := n2_; clear n0_ n1_ n2_; clear hb ho10; have p7 : 0 ≤ (x4_1 : Int) := of_decide_eq_true (by first | (with_reducible assumption) | assumption); have q7 : (x4_1 : Int) < ((y370.length : Int) : Int) := of_decide_eq_true (by first | (with_reducible assumption) | assumption); obtain ⟨go7, co7, eo7, gb7, gl7, cl7, HG7⟩ := Kd.R_form HO372.out (by omega); (first | cases eo7 | (injection eo7 with ea_ en_ ec_; (first | subst ea_ | (injection ea_ with ea_; subst ea_)); subst ec_; clear en_)); have GB7 := Aside0.mk gb7; have GG7 := Aside0.mk HG7; clear gb7 gl7 HG7; obtain ⟨hx7_0, hf7_0⟩ := Kd.R_celln 0 HO372.out (x4_1 : Int) p7 q7; replace p7 := eq_true p7; replace q7 := eq_true q7; obtain ⟨hy11_, hz11_⟩ := Kd.R_celln 0 HO372.out (x4_1 : Int) (of_decide_eq_true (by first | (with_reducible assumption) | assumption)) (of_decide_eq_true (by first | (with_reducible assumption) | assumption)); have HP11 := Kd.R_putg HO372.out (x4_1 : Int) 1) | ((with_reducible refine gate_store (t := 3) (p := 15) rfl ?_); refine store_event (t := 3) (p := 15) (v := ?vo_w12) (w1 := (w9.setCell ⟨go7, (x4_1 : Int).toNat, none⟩ (.int .i64 1))) ?hg ?ho ?hn ?hr ?_; (case ho => rfl); (case hg => rfl); (case hn => rfl); (case hr => first | (go_simp; done) | (go_simp; rfl)); intro w12 hw; have hg : w9.grownBy w12 (some go7) := (by rw [hw]; exact HP11.2); have hp_ : Kd.R (Kd.int .i64) 3 w12 w.heap.size (fun _ => True) (.slice (some ⟨go7, 0, none⟩) y370.length co7) y373 := (by rw [hw, Ny373.out]; exact HP11.1); clear HP11; have n0_ := Aside0.mk (Kd.S_after (v := (.slice (some ⟨go7, 0, none⟩) y370.length co7)) (v1 := (.slice (some ⟨go7, 0, none⟩) y370.length co7)) (ok := (fun _ => True)) (sx HO_3.out) hg (.inl rfl)); have n1_ := Aside0.mk (hp_); have n2_ := Aside0.mk ((by rw [hw]; exact below_set (HB.out) GB7.out : Below w.heap.size w w12)); clear HO_3; clear HO372; clear HB; have HO_3 := n0_; have HO372 := n1_; have HB := n2_; clear n0_ n1_ n2_; clear hg hw hp_) | ((with_reducible refine gate_builtin (b := .append) (xs := #[.tmp 16, .tmp 18]) rfl ?_); at_builtin; refine Kd.S_append (Kd.slice 3 (Kd.int .i64)) (w0 := w) w.heap.size rfl (.tmp 16) (.tmp 18) 23 51 (.slice none 0 0) 24 rfl Tryz.underlying23 info51 rfl (by decide) (by omega) u3 x3_1 y373 [.slice (some ⟨go7, 0, none⟩) y370.length co7] (fun _ => True) (fun k_ => some k_ = (.slice (some ⟨go7, 0, none⟩) y370.length co7 : Value).ownBlock) rfl rfl ?aP (fun k_ hk_ => ((Kd.R_mono (ok' := fun k_ => ((fun _ => True)) k_ ∧ some k_ ≠ (u3 : Value).ownBlock) (Kd.R_apart' (HO372.out) (Kd.S_typed HO_3.out) (by decide)) (fun k_ hk => ⟨trivial, hk.2⟩))).1 k_ hk_.symm) ?aF ?aO ?aB ?aS ?aL ?_; (case aP => exact Kd.M_row (Kd.R_mono (Kd.R_tight rfl (Kd.R_mono (ok' := fun k_ => ((fun _ => True)) k_ ∧ some k_ ≠ (u3 : Value).ownBlock) (Kd.R_apart' (HO372.out) (Kd.S_typed HO_3.out) (by decide)) (fun k_ hk => ⟨trivial, hk.2⟩))) (fun _ h_ => h_))); (case aB => exact (bl HB.out)); (case aF => exact (fun _ _ => trivial)); (case aO => exact (by (with_reducible repeat (first | apply Kd.S_alloc | apply Kd.S_drewN | apply Kd.S_drew)); exact Kd.S_mono HO_3.out (fun k_ hk => ⟨trivial, fun e_ => hk.2 e_⟩))); (case aS => exact (below_size (bl HB.out))); (case aL => have := LMc8.out; omega); intro v375 w13 ho hb hg hat; rw [← Ny374.out] at ho; have n0_ := Aside0.mk (hb); have n1_ := Aside0.mk (ho); clear HB; clear HO_3; clear HO372; have HB := n0_; have HO376 := n1_; clear n0_ n1_; clear ho hb hg hat))
         go_roundg k1
         case measure => have := HK1.out; omega
         case rel => exact ⟨(y374), (wrap64 (x4_1 + 1)), (by first | rfl | (simp; done) | (simp [*]; done)), H', ⟨by have := HK1.out; omega⟩, ⟨by (with_reducible repeat (first | apply Kd.S_alloc | apply Kd.S_drewN | apply Kd.S_drew)); exact HO376.out⟩, ⟨by repeat (first | (with_reducible first | exact HB.out | apply below_alloc | apply pw_below_drewN | apply below_drew1) | exact HB.out)⟩⟩
        ·rw [if_neg c8] at H
         exact absurd H (by simp)
       ·rw [if_neg c6] at H
        exact absurd H (by simp)
      ·rw [if_neg c5] at H
       exact absurd H (by simp)
     ·rw [if_neg c4] at H
      exact absurd H (by simp)
    ·rw [if_neg c3] at H
     exact absurd H (by simp)
   ·rw [if_neg c2] at H
    have c2b0 : decide (x4_1 < a0) = false := decide_eq_false c2
    clear c2
    obtain rfl := Option.some.inj H
    go_wp2
    go_ret
    exact ⟨_, by first | rfl | (simp [errW_none, errW_some] <;> rfl) | (simp [*, errW_none, errW_some] <;> rfl), by (with_reducible repeat (first | apply Kd.S_alloc | apply Kd.S_drewN | apply Kd.S_drew)); exact HO_3.out, by repeat (first | (with_reducible first | exact HB.out | apply below_alloc | apply pw_below_drewN | apply below_drew1) | exact HB.out)⟩
mutual
def schismalaw06_Make.j0 : Nat → Int → Int → Int → Int → List Int → Option ((List (List Int)))
 | 0, _, _, _, _, _ => none
 | k + 1, x1, x2, x387000, x387001, x387002 => if x2 < 0 then (schismalaw06_Make.j1 k x1 (wrap64 (Int.tmod x387001 6)) x387000 x387001 x387002) else (schismalaw06_Make.j1 k x1 x2 x387000 x387001 x387002)
def schismalaw06_Make.j1 : Nat → Int → Int → Int → Int → List Int → Option ((List (List Int)))
 | 0, _, _, _, _, _ => none
 | k + 1, x1, x2, x387000, x387001, x387002 => schismalaw06_Make.l0 k x1 x2 ([] : List (List Int)) 0 0 x387000 x387001 x387002
def schismalaw06_Make.l0 : Nat → Int → Int → List (List Int) → Int → Int → Int → Int → List Int → Option ((List (List Int)))
 | 0, _, _, _, _, _, _, _, _ => none
 | k + 1, x1, x2, x7, x8, x9, x387000, x387001, x387002 => if x9 < x1 then (if 0 ≤ x2 then (if (x2 : Int).toNat ≤ 35184372088832 then (schismalaw06_Make.l1 k x1 x2 x7 x8 x9 (List.replicate (x2 : Int).toNat 0) 0 x387000 x387001 x387002) else (none)) else (none)) else (some x7)
def schismalaw06_Make.l1 : Nat → Int → Int → List (List Int) → Int → Int → List Int → Int → Int → Int → List Int → Option ((List (List Int)))
 | 0, _, _, _, _, _, _, _, _, _, _ => none
 | k + 1, x1, x2, x7, x8, x9, x10, x11, x387000, x387001, x387002 => if x11 < x2 then (if x8 < (x387002.length : Int) then (if 0 ≤ x8 then (if 0 ≤ x11 then (if x11 < (x10.length : Int) then (schismalaw06_Make.l1 k x1 x2 x7 (wrap64 (x8 + 1)) x9 (x10.set (x11 : Int).toNat (wrap64 (rd x387002 x8))) (wrap64 (x11 + 1)) x387000 x387001 x387002) else (none)) else (none)) else (none)) else (schismalaw06_Make.l1 k x1 x2 x7 (wrap64 (x8 + 1)) x9 x10 (wrap64 (x11 + 1)) x387000 x387001 x387002)) else (if x7.length < 5864062014805 then (schismalaw06_Make.l0 k x1 x2 (x7 ++ [x10]) x8 (wrap64 (x9 + 1)) x387000 x387001 x387002) else (none))
end
def schismalaw06_Make.f (k : Nat) (a0_0 : Int) (a0_1 : Int) (l0_2 : List Int) (a1 : Int) (a2 : Int) : Option ((List (List Int))) := if a1 < 0 then (schismalaw06_Make.j0 k (wrap64 (Int.tmod a0_0 6)) a2 a0_0 a0_1 l0_2) else (schismalaw06_Make.j0 k a1 a2 a0_0 a0_1 l0_2)
set_option maxHeartbeats 8000000 in
set_option maxRecDepth 100000 in
theorem schismalaw06_Make.calls (k : Nat) (a0_0 : Int) (a0_1 : Int) (A0_2 : Option Addr) (c0_2 : Nat) (l0_2 : List Int) (a1 : Int) (a2 : Int) (r : List (List Int)) (w : World) (hr0_2 : Kd.C (Kd.int .i8) w A0_2 l0_2.length l0_2) (hc0_2 : l0_2.length ≤ c0_2) (h : schismalaw06_Make.f k a0_0 a0_1 l0_2 a1 a2 = some r) :
  Calls Tryz.prog 36 #[.agg #[.int .u8 a0_0, .int .u8 a0_1, .slice A0_2 l0_2.length c0_2], .int .i64 a1, .int .i64 a2] w fun e w' => ∃ v0_ : Value, e = .returned (v0_) ∧ Kd.S (Kd.slice 3 (Kd.int .i64)) 51 w' w.heap.size (fun _ => True) v0_ r ∧ Below w.heap.size w w' := by
 have hu49 := Tryz.underlying49
 have HR0_2 := Aside0.mk hr0_2
 have HC0_2 := Aside0.mk hc0_2
 clear hr0_2 hc0_2
 have HB := Aside0.mk (Below.refl w.heap.size w)
 have H : (if a1 < 0 then (schismalaw06_Make.j0 k (wrap64 (Int.tmod a0_0 6)) a2 a0_0 a0_1 l0_2) else (schismalaw06_Make.j0 k a1 a2 a0_0 a0_1 l0_2)) = some r := h
 clear h
 have HC4 := Aside0.mk H
 clear H
 go_enter Tryz.func36, Tryz.ntmps36
 go_upto_if 13 with (first | ((with_reducible refine gate_dst (N := 3) rfl ?_); refine box_event ?hg (N := 3) ?hd (cs := #[.int .u8 a0_0, .int .u8 a0_1, .slice A0_2 l0_2.length c0_2]) (t := 49) ?hr ?_; (case hd => rfl); (case hg => rfl); (case hr => first | (go_simp; done) | (go_simp; rfl)); intro gb386 hg w5 hbox hb; have n0_ := Aside0.mk (below_step (bl HB.out) hb); have n1_ := Aside0.mk (hbox); have n2_ := Aside0.mk ((by rw [hg]; exact (below_size (bl HB.out)) : w.heap.size ≤ gb386)); have n3_ := Aside0.mk ((by rw [hg]; exact (below_size (bl HB.out)) : w.heap.size ≤ gb386)); clear HB; have HB := n0_; have BK386 := n1_; have GW386 := n2_; have GE386 := n3_; clear n0_ n1_ n2_ n3_; clear hb hbox hg))
 (try simp only [Act.put, List.setIfInBounds_toArray, List.set_cons_zero, List.set_cons_succ])
 go_cut [1] (fun v1 wc => ∃ (kq : Nat) (x1_3 : Int), v1 = .int .i64 x1_3 ∧ Aside0 (schismalaw06_Make.j0 kq x1_3 a2 a0_0 a0_1 l0_2 = some r) ∧ Aside0 (kq ≤ k) ∧ Aside0 (wc.heap[gb386]? = some (.cells #[.int .u8 a0_0, .int .u8 a0_1, (.slice A0_2 l0_2.length c0_2)] 49 (0, 0))) ∧ Aside0 (Below w.heap.size w wc))
 case first =>
  have H := HC4.out
  clear HC4
  by_cases c6 : a1 < 0
  ·rw [if_pos c6] at H
   have c6b0 : decide (a1 < 0) = true := decide_eq_true c6
   clear c6
   (first | rw [c6b0] | (simp only [i64_w, i32_w]; rw [c6b0]) | skip)
   have H' := Aside0.mk H
   clear H
   have hcz7_0 : w5.cell? ⟨gb386, 0, none⟩ = some (.int .u8 a0_0) := (blk_cell BK386.out 0).trans rfl
   have hcz7_1 : w5.cell? ⟨gb386, 1, none⟩ = some (.int .u8 a0_1) := (blk_cell BK386.out 1).trans rfl
   have hcz7_2 : w5.cell? ⟨gb386, 2, none⟩ = some (.slice A0_2 l0_2.length c0_2) := (blk_cell BK386.out 2).trans rfl
   have hfz7_0 := blk_frozen BK386.out 0
   have hfz7_1 := blk_frozen BK386.out 1
   have hfz7_2 := blk_frozen BK386.out 2
   go_wp2
   go_meet
   case rel => exact ⟨_, (wrap64 (Int.tmod a0_0 6)), (by first | rfl | (simp; done) | (simp [*]; done)), H', ⟨by first | omega | exact Nat.le_refl _⟩, ⟨by (with_reducible repeat (first | refine blk_drewN ?_ _ | refine blk_drew ?_ | refine blk_alloc ?_ _)); exact BK386.out⟩, ⟨by repeat (first | (with_reducible first | exact HB.out | apply below_alloc | apply pw_below_drewN | apply below_drew1 | refine below_set ?_ GE386.out) | exact HB.out)⟩⟩
  ·rw [if_neg c6] at H
   have c6b0 : decide (a1 < 0) = false := decide_eq_false c6
   clear c6
   (first | rw [c6b0] | (simp only [i64_w, i32_w]; rw [c6b0]) | skip)
   have H' := Aside0.mk H
   clear H
   go_wp2
   go_meet
   case rel => exact ⟨_, (a1), (by first | rfl | (simp; done) | (simp [*]; done)), H', ⟨by first | omega | exact Nat.le_refl _⟩, ⟨by (with_reducible repeat (first | refine blk_drewN ?_ _ | refine blk_drew ?_ | refine blk_alloc ?_ _)); exact BK386.out⟩, ⟨by repeat (first | (with_reducible first | exact HB.out | apply below_alloc | apply pw_below_drewN | apply below_drew1 | refine below_set ?_ GE386.out) | exact HB.out)⟩⟩
 case rest =>
  clear HC4
  try clear p2
  try clear c3
  try clear c6
  try clear c6b0
  try clear p6
  try clear hcz7_0
  try clear hcz7_1
  try clear hcz7_2
  try clear hfz7_0
  try clear hfz7_1
  try clear hfz7_2
  obtain ⟨kq, x1_3, rfl, HA, HJ3, BK386, HB⟩ := hcut
  cases kq with
  | zero => exact absurd HA.out (by simp [schismalaw06_Make.j0])
  | succ kj3 =>
   have H := HA.out
   clear HA
   simp only [schismalaw06_Make.j0] at H
   have HC8 := Aside0.mk H
   clear H
   go_upto_if 19 with (fail)
   go_cut [2] (fun v2 wc => ∃ (kq : Nat) (x2_7 : Int), v2 = .int .i64 x2_7 ∧ Aside0 (schismalaw06_Make.j1 kq x1_3 x2_7 a0_0 a0_1 l0_2 = some r) ∧ Aside0 (kq ≤ kj3) ∧ Aside0 (wc.heap[gb386]? = some (.cells #[.int .u8 a0_0, .int .u8 a0_1, (.slice A0_2 l0_2.length c0_2)] 49 (0, 0))) ∧ Aside0 (Below w.heap.size w wc))
   case first =>
    have H := HC8.out
    clear HC8
    by_cases c9 : a2 < 0
    ·rw [if_pos c9] at H
     have c9b0 : decide (a2 < 0) = true := decide_eq_true c9
     clear c9
     (first | rw [c9b0] | (simp only [i64_w, i32_w]; rw [c9b0]) | skip)
     have H' := Aside0.mk H
     clear H
     have hcz10_0 : wc.cell? ⟨gb386, 0, none⟩ = some (.int .u8 a0_0) := (blk_cell BK386.out 0).trans rfl
     have hcz10_1 : wc.cell? ⟨gb386, 1, none⟩ = some (.int .u8 a0_1) := (blk_cell BK386.out 1).trans rfl
     have hcz10_2 : wc.cell? ⟨gb386, 2, none⟩ = some (.slice A0_2 l0_2.length c0_2) := (blk_cell BK386.out 2).trans rfl
     have hfz10_0 := blk_frozen BK386.out 0
     have hfz10_1 := blk_frozen BK386.out 1
     have hfz10_2 := blk_frozen BK386.out 2
     go_wp2
     go_meet
     case rel => exact ⟨_, (wrap64 (Int.tmod a0_1 6)), (by first | rfl | (simp; done) | (simp [*]; done)), H', ⟨by have := HJ3.out; first | omega | exact Nat.le_refl _⟩, ⟨by (with_reducible repeat (first | refine blk_drewN ?_ _ | refine blk_drew ?_ | refine blk_alloc ?_ _)); exact BK386.out⟩, ⟨by repeat (first | (with_reducible first | exact HB.out | apply below_alloc | apply pw_below_drewN | apply below_drew1 | refine below_set ?_ GE386.out) | exact HB.out)⟩⟩
    ·rw [if_neg c9] at H
     have c9b0 : decide (a2 < 0) = false := decide_eq_false c9
     clear c9
     (first | rw [c9b0] | (simp only [i64_w, i32_w]; rw [c9b0]) | skip)
     have H' := Aside0.mk H
     clear H
     go_wp2
     go_meet
     case rel => exact ⟨_, (a2), (by first | rfl | (simp; done) | (simp [*]; done)), H', ⟨by have := HJ3.out; first | omega | exact Nat.le_refl _⟩, ⟨by (with_reducible repeat (first | refine blk_drewN ?_ _ | refine blk_drew ?_ | refine blk_alloc ?_ _)); exact BK386.out⟩, ⟨by repeat (first | (with_reducible first | exact HB.out | apply below_alloc | apply pw_below_drewN | apply below_drew1 | refine below_set ?_ GE386.out) | exact HB.out)⟩⟩
   case rest =>
    clear HC8
    try clear p2
    try clear c3
    try clear c6
    try clear c6b0
    try clear p6
    try clear c9
    try clear c9b0
    try clear hcz10_0
    try clear hcz10_1
    try clear hcz10_2
    try clear hcz7_0
    try clear hcz7_1
    try clear hcz7_2
    try clear hfz10_0
    try clear hfz10_1
    try clear hfz10_2
    try clear hfz7_0
    try clear hfz7_1
    try clear hfz7_2
    try clear p2
    try clear p6
    obtain ⟨kq, x2_7, rfl, HA, HJ7, BK386, HB⟩ := hcut
    cases kq with
    | zero => exact absurd HA.out (by simp [schismalaw06_Make.j1])
    | succ kj7 =>
     have H := HA.out
     clear HA
     simp only [schismalaw06_Make.j1] at H
     have H' := Aside0.mk H
     clear H
     go_wp2
     go_loopg [7, 8, 9] kj7 (fun kq v7 v8 v9 w' => ∃ (x7_3 : List (List Int)) (x8_3 : Int) (x9_3 : Int), v8 = .int .i64 x8_3 ∧ v9 = .int .i64 x9_3 ∧ Aside0 (schismalaw06_Make.l0 kq x1_3 x2_7 x7_3 x8_3 x9_3 a0_0 a0_1 l0_2 = some r) ∧ Aside0 (kq ≤ kj7) ∧ Aside0 (Kd.S (Kd.slice 3 (Kd.int .i64)) 51 w' w.heap.size (fun _ => True) v7 x7_3) ∧ Aside0 (w'.heap[gb386]? = some (.cells #[.int .u8 a0_0, .int .u8 a0_1, (.slice A0_2 l0_2.length c0_2)] 49 (0, 0))) ∧ Aside0 (Below w.heap.size w w'))
     case atStart => exact ⟨(([] : List (List Int))), (0), (0), (by first | rfl | (simp; done) | (simp [*]; done)), (by first | rfl | (simp; done) | (simp [*]; done)), H', ⟨Nat.le_refl _⟩, ⟨by first | exact Kd.S_nil _ _ _ _ _ | exact Kd.N_nil _ _ _ _ _ | exact Kd.V_nil _ _ _ _ _ | exact Kd.Q_nil _ _ _ _ _ | exact Kd.R_nil _ _ _ _ _⟩, ⟨by (with_reducible repeat (first | refine blk_drewN ?_ _ | refine blk_drew ?_ | refine blk_alloc ?_ _)); exact BK386.out⟩, ⟨by repeat (first | (with_reducible first | exact HB.out | apply below_alloc | apply pw_below_drewN | apply below_drew1 | refine below_set ?_ GE386.out) | exact HB.out)⟩⟩
     case round =>
      clear H'
      try clear p2
      try clear c3
      try clear c6
      try clear c6b0
      try clear p6
      try clear c9
      try clear c9b0
      try clear hcz10_0
      try clear hcz10_1
      try clear hcz10_2
      try clear hcz7_0
      try clear hcz7_1
      try clear hcz7_2
      try clear hfz10_0
      try clear hfz10_1
      try clear hfz10_2
      try clear hfz7_0
      try clear hfz7_1
      try clear hfz7_2
      try clear p2
      try clear p6
      obtain ⟨x7_3, x8_3, x9_3, rfl, rfl, HA, HK3, HO_7, BK386, HB⟩ := hrel
      cases gk with
      | zero => exact absurd HA.out (by simp [schismalaw06_Make.l0])
      | succ k3 =>
       have H := HA.out
       clear HA
       simp only [schismalaw06_Make.l0] at H
       by_cases c11 : x9_3 < x1_3
       ·rw [if_pos c11] at H
        have c11b0 : decide (x9_3 < x1_3) = true := decide_eq_true c11
        clear c11
        by_cases c12 : 0 ≤ x2_7
        ·rw [if_pos c12] at H
         have c12b0 := eq_true c12
         have c12b1 : decide (0 ≤ x2_7) = true := decide_eq_true c12
         clear c12
         by_cases c13 : (x2_7 : Int).toNat ≤ 35184372088832
         ·rw [if_pos c13] at H
          have c13b0 := eq_true c13
          have c13b1 : decide ((x2_7 : Int).toNat ≤ 35184372088832) = true := decide_eq_true c13
          clear c13
          obtain ⟨y387, hy387⟩ : ∃ y_ : List Int, y_ = (List.replicate (x2_7 : Int).toNat 0) := ⟨_, rfl⟩
          replace H : (schismalaw06_Make.l1 k3 x1_3 x2_7 x7_3 x8_3 x9_3 y387 0 a0_0 a0_1 l0_2) = some r := by first | (rw [hy387]; with_reducible exact H) | (have H2_ := (Option.bind_some _ _).symm.trans H; rw [hy387]; with_reducible exact H2_) | (have H2_ := (Option.bind_some _ _).symm.trans H; with_reducible exact H2_) | with_reducible exact H | (rw [hy387]; exact H) | exact H
          have Ny387 := Aside0.mk hy387
          clear hy387
          have H' := Aside0.mk H
          clear H
          go_wp2_with (first | ((with_reducible refine gate_dst (N := 30) rfl ?_); refine Kd.R_make (Kd.int .i64) _ 3 rfl (N := 30) rfl 51 _ _ rfl x2_7 rfl rfl Tryz.underlying51 (.int .i64 0) 8 info3 rfl (by decide) (by omega) 0 (ok := fun _ => True) (okp := fun _ => True) rfl (fun _ hk => hk) trivial (of_decide_eq_true (by first | (with_reducible assumption) | assumption)) (Nat.le_trans (Nat.mul_le_mul_right _ (of_decide_eq_true (by first | (with_reducible assumption) | assumption) : x2_7.toNat ≤ 35184372088832)) (by omega)) (Below.refl _ _) (Nat.le_refl _) ?_; intro v388 w14 ho15 hb hg_ hnew_; clear hg_ hnew_; (first | rw [← Ny387.out] at ho15 | (simp only [Int.reduceToNat] at ho15; rw [← Ny387.out] at ho15)); have n0_ := Aside0.mk (Kd.S_elder' (sx HO_7.out) (Kd.R_base ho15) hb); have n1_ := Aside0.mk (Kd.R_lower ho15 (below_size (by repeat (first | (with_reducible first | exact HB.out | apply below_alloc | apply pw_below_drewN | apply below_drew1 | refine below_set ?_ GE386.out) | exact HB.out)))); have n2_ := Aside0.mk (blk_below (g := gb386) (o := .cells #[.int .u8 a0_0, .int .u8 a0_1, .slice A0_2 l0_2.length c0_2] 49 (0, 0)) (bx BK386.out) hb); have n3_ := Aside0.mk (below_step (by repeat (first | (with_reducible first | exact HB.out | apply below_alloc | apply pw_below_drewN | apply below_drew1 | refine below_set ?_ GE386.out) | exact HB.out)) hb); clear HO_7; clear BK386; clear HB; have HO_7 := n0_; have HO389 := n1_; have BK386 := n2_; have HB := n3_; clear n0_ n1_ n2_ n3_; clear hb ho15))
          go_loopg [8, 11] k3 (fun kq v8 v11 w' => ∃ (x8_4 : Int) (x10_4 : List Int) (x11_4 : Int), v8 = .int .i64 x8_4 ∧ v11 = .int .i64 x11_4 ∧ Aside0 (schismalaw06_Make.l1 kq x1_3 x2_7 x7_3 x8_4 x9_3 x10_4 x11_4 a0_0 a0_1 l0_2 = some r) ∧ Aside0 (kq ≤ k3) ∧ Aside0 (Kd.S (Kd.slice 3 (Kd.int .i64)) 51 w' w.heap.size (fun k_ => some k_ ≠ (v388 : Value).ownBlock) u7 x7_3) ∧ Aside0 (Kd.R (Kd.int .i64) 3 w' w.heap.size (fun _ => True) v388 x10_4) ∧ Aside0 (w'.heap[gb386]? = some (.cells #[.int .u8 a0_0, .int .u8 a0_1, (.slice A0_2 l0_2.length c0_2)] 49 (0, 0))) ∧ Aside0 (Below w.heap.size w w'))
          case atStart => exact ⟨(x8_3), (y387), (0), (by first | rfl | (simp; done) | (simp [*]; done)), (by first | rfl | (simp; done) | (simp [*]; done)), H', ⟨Nat.le_refl _⟩, ⟨by (with_reducible repeat (first | apply Kd.S_alloc | apply Kd.S_drewN | apply Kd.S_drew)); exact Kd.S_mono HO_7.out (fun _ hk => hk.2)⟩, ⟨by (with_reducible repeat (first | apply Kd.R_alloc | apply Kd.R_drewN | apply Kd.R_drew)); exact HO389.out⟩, ⟨by (with_reducible repeat (first | refine blk_drewN ?_ _ | refine blk_drew ?_ | refine blk_alloc ?_ _)); exact BK386.out⟩, ⟨by repeat (first | (with_reducible first | exact HB.out | apply below_alloc | apply pw_below_drewN | apply below_drew1 | refine below_set ?_ GE386.out) | exact HB.out)⟩⟩
          case round =>
           clear H'
           try clear c1
           try clear p2
           try clear c3
           try clear c6
           try clear c6b0
           try clear p6
           try clear c9
           try clear c9b0
           try clear c11
           try clear c11b0
           try clear c12
           try clear c12b0
           try clear c12b1
           try clear c13
           try clear c13b0
           try clear c13b1
           try clear hcz10_0
           try clear hcz10_1
           try clear hcz10_2
           try clear hcz7_0
           try clear hcz7_1
           try clear hcz7_2
           try clear hfz10_0
           try clear hfz10_1
           try clear hfz10_2
           try clear hfz7_0
           try clear hfz7_1
           try clear hfz7_2
           try clear p2
           try clear p6
           obtain ⟨x8_4, x10_4, x11_4, rfl, rfl, HA, HK4, HO_7, HO_10, BK386, HB⟩ := hrel
           cases gk with
           | zero => exact absurd HA.out (by simp [schismalaw06_Make.l1])
           | succ k4 =>
            have H := HA.out
            clear HA
            simp only [schismalaw06_Make.l1] at H
            by_cases c16 : x11_4 < x2_7
            ·rw [if_pos c16] at H
             have c16b0 : decide (x11_4 < x2_7) = true := decide_eq_true c16
             clear c16
             by_cases c17 : x8_4 < (l0_2.length : Int)
             ·rw [if_pos c17] at H
              have c17b0 : decide (x8_4 < (l0_2.length : Int)) = true := decide_eq_true c17
              clear c17
              by_cases c18 : 0 ≤ x8_4
              ·rw [if_pos c18] at H
               have c18b0 : decide (0 ≤ x8_4) = true := decide_eq_true c18
               clear c18
               by_cases c19 : 0 ≤ x11_4
               ·rw [if_pos c19] at H
                have c19b0 : decide (0 ≤ x11_4) = true := decide_eq_true c19
                clear c19
                by_cases c20 : x11_4 < (x10_4.length : Int)
                ·rw [if_pos c20] at H
                 have c20b0 : decide (x11_4 < (x10_4.length : Int)) = true := decide_eq_true c20
                 clear c20
                 obtain ⟨y391, hy391⟩ : ∃ y_ : List Int, y_ = (x10_4.set (x11_4 : Int).toNat (wrap64 (rd l0_2 x8_4))) := ⟨_, rfl⟩
                 replace H : (schismalaw06_Make.l1 k4 x1_3 x2_7 x7_3 (wrap64 (x8_4 + 1)) x9_3 y391 (wrap64 (x11_4 + 1)) a0_0 a0_1 l0_2) = some r := by first | (rw [hy391]; with_reducible exact H) | (have H2_ := (Option.bind_some _ _).symm.trans H; rw [hy391]; with_reducible exact H2_) | (have H2_ := (Option.bind_some _ _).symm.trans H; with_reducible exact H2_) | with_reducible exact H | (rw [hy391]; exact H) | exact H
                 have Ny391 := Aside0.mk hy391
                 clear hy391
                 have H' := Aside0.mk H
                 clear H
                 have hcz22_0 : wr.cell? ⟨gb386, 0, none⟩ = some (.int .u8 a0_0) := (blk_cell BK386.out 0).trans rfl
                 have hcz22_1 : wr.cell? ⟨gb386, 1, none⟩ = some (.int .u8 a0_1) := (blk_cell BK386.out 1).trans rfl
                 have hcz22_2 : wr.cell? ⟨gb386, 2, none⟩ = some (.slice A0_2 l0_2.length c0_2) := (blk_cell BK386.out 2).trans rfl
                 have hfz22_0 := blk_frozen BK386.out 0
                 have hfz22_1 := blk_frozen BK386.out 1
                 have hfz22_2 := blk_frozen BK386.out 2
                 have p390 : 0 ≤ (x8_4 : Int) := of_decide_eq_true (by first | (with_reducible assumption) | assumption)
                 have q390 : x8_4 < (l0_2.length : Int) := of_decide_eq_true (by first | (with_reducible assumption) | assumption)
                 obtain ⟨ad390, e390, hx390_0⟩ := Kd.at_int HR0_2.out x8_4 p390 q390
                 cases e390
                 replace hx390_0 := (HB.out.cell (World.block_lt_of_cell? w _ hx390_0)).trans hx390_0
                 replace p390 := eq_true p390
                 replace q390 := eq_true q390
                 have p21 : 0 ≤ (x11_4 : Int) := of_decide_eq_true (by first | (with_reducible assumption) | assumption)
                 have q21 : (x11_4 : Int) < ((x10_4.length : Int) : Int) := of_decide_eq_true (by first | (with_reducible assumption) | assumption)
                 obtain ⟨go21, co21, eo21, gb21, gl21, cl21, HG21⟩ := Kd.R_form HO_10.out (by omega)
                 (first | cases eo21 | (injection eo21 with ea_ en_ ec_; (first | subst ea_ | (injection ea_ with ea_; subst ea_)); subst ec_; clear en_))
                 have GB21 := Aside0.mk gb21
                 have GG21 := Aside0.mk HG21
                 clear gb21 gl21 HG21
                 obtain ⟨hx21_0, hf21_0⟩ := Kd.R_celln 0 HO_10.out (x11_4 : Int) p21 q21
                 replace p21 := eq_true p21
                 replace q21 := eq_true q21
                 have HP23 := Kd.R_putg HO_10.out (x11_4 : Int) (wrap64 (rd l0_2 x8_4))
                 go_wp2_with (first | ((with_reducible refine gate_store (t := 3) (p := 49) rfl ?_); refine store_event (t := 3) (p := 49) (v := ?vo_w24) (w1 := (wr.setCell ⟨go21, (x11_4 : Int).toNat, none⟩ (.int .i64 (wrap64 (rd l0_2 x8_4))))) ?hg ?ho ?hn ?hr ?_; (case ho => rfl); (case hg => rfl); (case hn => rfl); (case hr => first | (go_simp; done) | (go_simp; rfl)); intro w24 hw; have hg : wr.grownBy w24 (some go21) := (by rw [hw]; exact HP23.2); have hp_ : Kd.R (Kd.int .i64) 3 w24 w.heap.size (fun _ => True) (.slice (some ⟨go21, 0, none⟩) x10_4.length co21) y391 := (by rw [hw, Ny391.out]; exact HP23.1); clear HP23; have n0_ := Aside0.mk (Kd.S_after (v := (.slice (some ⟨go21, 0, none⟩) x10_4.length co21)) (v1 := (.slice (some ⟨go21, 0, none⟩) x10_4.length co21)) (ok := (fun _ => True)) (by (with_reducible repeat (first | apply Kd.S_alloc | apply Kd.S_drewN | apply Kd.S_drew)); exact Kd.S_mono HO_7.out (fun _ hk => ⟨trivial, hk⟩)) hg (.inl rfl)); have n1_ := Aside0.mk (hp_); have n2_ := Aside0.mk (blk_grown (g := gb386) (o := .cells #[.int .u8 a0_0, .int .u8 a0_1, .slice (some ad390) l0_2.length c0_2] 49 (0, 0)) (bx BK386.out) hg (Kd.R_ne HO_10.out BK386.out (by decide))); have n3_ := Aside0.mk ((by rw [hw]; exact below_set (HB.out) GB21.out : Below w.heap.size w w24)); clear HO_7; clear HO_10; clear BK386; clear HB; have HO_7 := n0_; have HO_10 := n1_; have BK386 := n2_; have HB := n3_; clear n0_ n1_ n2_ n3_; clear hg hw hp_))
                 go_roundg k4
                 case measure => have := HJ3.out; have := HJ7.out; have := HK3.out; have := HK4.out; omega
                 case rel => exact ⟨(wrap64 (x8_4 + 1)), (y391), (wrap64 (x11_4 + 1)), (by first | rfl | (simp; done) | (simp [*]; done)), (by first | rfl | (simp; done) | (simp [*]; done)), H', ⟨by have := HJ3.out; have := HJ7.out; have := HK3.out; have := HK4.out; omega⟩, ⟨by (with_reducible repeat (first | apply Kd.S_alloc | apply Kd.S_drewN | apply Kd.S_drew)); exact Kd.S_mono HO_7.out (fun _ hk => hk.2)⟩, ⟨by (with_reducible repeat (first | apply Kd.R_alloc | apply Kd.R_drewN | apply Kd.R_drew)); exact HO_10.out⟩, ⟨by (with_reducible repeat (first | refine blk_drewN ?_ _ | refine blk_drew ?_ | refine blk_alloc ?_ _)); exact BK386.out⟩, ⟨by repeat (first | (with_reducible first | exact HB.out | apply below_alloc | apply pw_below_drewN | apply below_drew1 | refine below_set ?_ GE386.out) | exact HB.out)⟩⟩
                ·rw [if_neg c20] at H
                 exact absurd H (by simp)
               ·rw [if_neg c19] at H
                exact absurd H (by simp)
              ·rw [if_neg c18] at H
               exact absurd H (by simp)
             ·rw [if_neg c17] at H
              have c17b0 : decide (x8_4 < (l0_2.length : Int)) = false := decide_eq_false c17
              clear c17
              have H' := Aside0.mk H
              clear H
              have hcz25_0 : wr.cell? ⟨gb386, 0, none⟩ = some (.int .u8 a0_0) := (blk_cell BK386.out 0).trans rfl
              have hcz25_1 : wr.cell? ⟨gb386, 1, none⟩ = some (.int .u8 a0_1) := (blk_cell BK386.out 1).trans rfl
              have hcz25_2 : wr.cell? ⟨gb386, 2, none⟩ = some (.slice A0_2 l0_2.length c0_2) := (blk_cell BK386.out 2).trans rfl
              have hfz25_0 := blk_frozen BK386.out 0
              have hfz25_1 := blk_frozen BK386.out 1
              have hfz25_2 := blk_frozen BK386.out 2
              go_wp2
              go_roundg k4
              case measure => have := HJ3.out; have := HJ7.out; have := HK3.out; have := HK4.out; omega
              case rel => exact ⟨(wrap64 (x8_4 + 1)), (x10_4), (wrap64 (x11_4 + 1)), (by first | rfl | (simp; done) | (simp [*]; done)), (by first | rfl | (simp; done) | (simp [*]; done)), H', ⟨by have := HJ3.out; have := HJ7.out; have := HK3.out; have := HK4.out; omega⟩, ⟨by (with_reducible repeat (first | apply Kd.S_alloc | apply Kd.S_drewN | apply Kd.S_drew)); exact HO_7.out⟩, ⟨by (with_reducible repeat (first | apply Kd.R_alloc | apply Kd.R_drewN | apply Kd.R_drew)); exact HO_10.out⟩, ⟨by (with_reducible repeat (first | refine blk_drewN ?_ _ | refine blk_drew ?_ | refine blk_alloc ?_ _)); exact BK386.out⟩, ⟨by repeat (first | (with_reducible first | exact HB.out | apply below_alloc | apply pw_below_drewN | apply below_drew1 | refine below_set ?_ GE386.out) | exact HB.out)⟩⟩
            ·rw [if_neg c16] at H
             have c16b0 : decide (x11_4 < x2_7) = false := decide_eq_false c16
             clear c16
             by_cases c26 : x7_3.length < 5864062014805
             ·rw [if_pos c26] at H
              have LMc26 := Aside0.mk c26
              clear c26
              obtain ⟨y392, hy392⟩ : ∃ y_ : List (List Int), y_ = (x7_3 ++ [x10_4]) := ⟨_, rfl⟩
              replace H : (schismalaw06_Make.l0 k4 x1_3 x2_7 y392 x8_4 (wrap64 (x9_3 + 1)) a0_0 a0_1 l0_2) = some r := by first | (rw [hy392]; with_reducible exact H) | (have H2_ := (Option.bind_some _ _).symm.trans H; rw [hy392]; with_reducible exact H2_) | (have H2_ := (Option.bind_some _ _).symm.trans H; with_reducible exact H2_) | with_reducible exact H | (rw [hy392]; exact H) | exact H
              have Ny392 := Aside0.mk hy392
              clear hy392
              have H' := Aside0.mk H
              clear H
              obtain ⟨Ao28, co28, eo28⟩ := Kd.R_slice HO_10.out
              subst eo28
              go_wp2_with (first | ((with_reducible refine gate_builtin (b := .append) (xs := #[.tmp 52, .tmp 54]) rfl ?_); at_builtin; refine Kd.S_append (Kd.slice 3 (Kd.int .i64)) (w0 := w) w.heap.size rfl (.tmp 52) (.tmp 54) 23 51 (.slice none 0 0) 24 rfl Tryz.underlying23 info51 rfl (by decide) (by omega) u7 x7_3 x10_4 [.slice Ao28 x10_4.length co28] (fun _ => True) (fun k_ => some k_ = (.slice Ao28 x10_4.length co28 : Value).ownBlock) rfl rfl ?aP (fun k_ hk_ => ((Kd.R_mono (ok' := fun k_ => ((fun _ => True)) k_ ∧ some k_ ≠ (u7 : Value).ownBlock) (Kd.R_apart' (HO_10.out) (Kd.S_typed HO_7.out) (by decide)) (fun k_ hk => ⟨trivial, hk.2⟩))).1 k_ hk_.symm) ?aF ?aO ?aB ?aS ?aL ?_; (case aP => exact Kd.M_row (Kd.R_mono (Kd.R_tight rfl (Kd.R_mono (ok' := fun k_ => ((fun _ => True)) k_ ∧ some k_ ≠ (u7 : Value).ownBlock) (Kd.R_apart' (HO_10.out) (Kd.S_typed HO_7.out) (by decide)) (fun k_ hk => ⟨trivial, hk.2⟩))) (fun _ h_ => h_))); (case aB => exact (by repeat (first | (with_reducible first | exact HB.out | apply below_alloc | apply pw_below_drewN | apply below_drew1 | refine below_set ?_ GE386.out) | exact HB.out))); (case aF => exact (fun _ _ => trivial)); (case aO => exact (by (with_reducible repeat (first | apply Kd.S_alloc | apply Kd.S_drewN | apply Kd.S_drew)); exact Kd.S_mono HO_7.out (fun k_ hk => ⟨trivial, fun e_ => hk e_⟩))); (case aS => exact (below_size (by repeat (first | (with_reducible first | exact HB.out | apply below_alloc | apply pw_below_drewN | apply below_drew1 | refine below_set ?_ GE386.out) | exact HB.out)))); (case aL => have := LMc26.out; omega); intro v393 w27 ho hb hg hat; rw [← Ny392.out] at ho; have n0_ := Aside0.mk (blk_grown (g := gb386) (o := .cells #[.int .u8 a0_0, .int .u8 a0_1, .slice A0_2 l0_2.length c0_2] 49 (0, 0)) (bx BK386.out) hg (Kd.S_ne HO_7.out BK386.out (by decide))); have n1_ := Aside0.mk (hb); have n2_ := Aside0.mk (ho); clear BK386; clear HB; clear HO_7; clear HO_10; have BK386 := n0_; have HB := n1_; have HO394 := n2_; clear n0_ n1_ n2_; clear ho hb hg hat))
              go_roundg k4
              case measure => have := HJ3.out; have := HJ7.out; have := HK3.out; have := HK4.out; omega
              case rel => exact ⟨(y392), (x8_4), (wrap64 (x9_3 + 1)), (by first | rfl | (simp; done) | (simp [*]; done)), (by first | rfl | (simp; done) | (simp [*]; done)), H', ⟨by have := HJ3.out; have := HJ7.out; have := HK3.out; have := HK4.out; omega⟩, ⟨by (with_reducible repeat (first | apply Kd.S_alloc | apply Kd.S_drewN | apply Kd.S_drew)); exact HO394.out⟩, ⟨by (with_reducible repeat (first | refine blk_drewN ?_ _ | refine blk_drew ?_ | refine blk_alloc ?_ _)); exact BK386.out⟩, ⟨by repeat (first | (with_reducible first | exact HB.out | apply below_alloc | apply pw_below_drewN | apply below_drew1 | refine below_set ?_ GE386.out) | exact HB.out)⟩⟩
             ·rw [if_neg c26] at H
              exact absurd H (by simp)
         ·rw [if_neg c13] at H
          exact absurd H (by simp)
        ·rw [if_neg c12] at H
         exact absurd H (by simp)
       ·rw [if_neg c11] at H
        have c11b0 : decide (x9_3 < x1_3) = false := decide_eq_false c11
        clear c11
        obtain rfl := Option.some.inj H
        go_wp2
        go_ret
        exact ⟨_, by first | rfl | (simp [errW_none, errW_some] <;> rfl) | (simp [*, errW_none, errW_some] <;> rfl), by (with_reducible repeat (first | apply Kd.S_alloc | apply Kd.S_drewN | apply Kd.S_drew)); exact HO_7.out, by repeat (first | (with_reducible first | exact HB.out | apply below_alloc | apply pw_below_drewN | apply below_drew1 | refine below_set ?_ GE386.out) | exact HB.out)⟩
end Go.Proofs.YtegffolimjiioaaGreatDoor.PB
