/- Walks and contracts of the program's functions: printed for this claim. -/
import Derived.Test.YtegffolimjiioaaGreatDoorZX0
import Derived.Test.YtegffolimjiioaaGreatDoorZPBx0
import Derived.Test.YtegffolimjiioaaGreatDoorZPBx3
import Derived.Test.YtegffolimjiioaaGreatDoorZPBx4
import Derived.Test.YtegffolimjiioaaGreatDoorZHn
namespace Go.Proofs.YtegffolimjiioaaGreatDoor.PB
open Go.RowKit Go.Proofs.YtegffolimjiioaaGreatDoorW.PrintWords Go.Proofs.YtegffolimjiioaaGreatDoorW.PrintLast Go.Proofs.YtegffolimjiioaaGreatDoorW.PrintMore
attribute [local go_sem] max2_int min2_int max_two min_two
set_option linter.unusedVariables false
set_option linter.unusedSimpArgs false
def schismalaw06_TableIdentities.j0 : Nat → Int → List (List Int) → Int → Bool → Option (Bool)
 | 0, _, _, _, _ => none
 | k + 1, x0, x3, x4, x17 => if x17 = true then (if (x3.length : Int) = 0 then (some (x4 == 3)) else (some false)) else (if x4 = 0 then ((schismaref06_Identity.f k x0).bind fun t382 => ((schismaref06_Equal.f k x3 t382).bind fun t385 => (some t385))) else (some false))
def schismalaw06_TableIdentities.f (k : Nat) (a0 : Int) : Option (Bool) := (schismalaw06_known.f).bind fun t377 => (if t377 = true then ((table_Identity.f k a0).bind fun bt378 => (if a0 < 0 then (schismalaw06_TableIdentities.j0 k a0 bt378.1 bt378.2 true) else (schismalaw06_TableIdentities.j0 k a0 bt378.1 bt378.2 (decide (a0 > 12))))) else (some false))
set_option maxHeartbeats 8000000 in
set_option maxRecDepth 100000 in
theorem schismalaw06_TableIdentities.calls (k : Nat) (a0 : Int) (r : Bool) (w : World) (hG : GW w) (h : schismalaw06_TableIdentities.f k a0 = some r) :
  Calls Tryz.prog 7 #[.int .i64 a0] w fun e w' => e = .returned (.bool r) ∧ Below w.heap.size w w' := by
 have HG := Aside0.mk hG
 clear hG
 have HB := Aside0.mk (Below.refl w.heap.size w)
 have H : ((schismalaw06_known.f).bind fun t377 => (if t377 = true then ((table_Identity.f k a0).bind fun bt378 => (if a0 < 0 then (schismalaw06_TableIdentities.j0 k a0 bt378.1 bt378.2 true) else (schismalaw06_TableIdentities.j0 k a0 bt378.1 bt378.2 (decide (a0 > 12))))) else (some false))) = some r := h
 clear h
 replace H := Option.bind_eq_some_iff.mp H
 obtain ⟨t377, A20, H⟩ := H
 replace H : (if t377 = true then ((table_Identity.f k a0).bind fun bt378 => (if a0 < 0 then (schismalaw06_TableIdentities.j0 k a0 bt378.1 bt378.2 true) else (schismalaw06_TableIdentities.j0 k a0 bt378.1 bt378.2 (decide (a0 > 12))))) else (some false)) = some r := H
 have A2 := Aside0.mk A20
 clear A20
 by_cases c3 : t377 = true
 ·subst c3
  have H1 : ((table_Identity.f k a0).bind fun bt378 => (if a0 < 0 then (schismalaw06_TableIdentities.j0 k a0 bt378.1 bt378.2 true) else (schismalaw06_TableIdentities.j0 k a0 bt378.1 bt378.2 (decide (a0 > 12))))) = some r := by rw [if_pos rfl] at H; exact H
  clear H
  have H := H1
  clear H1
  replace H := Option.bind_eq_some_iff.mp H
  obtain ⟨⟨t378, t379⟩, A40, H⟩ := H
  replace H : (if a0 < 0 then (schismalaw06_TableIdentities.j0 k a0 t378 t379 true) else (schismalaw06_TableIdentities.j0 k a0 t378 t379 (decide (a0 > 12)))) = some r := H
  have A4 := Aside0.mk A40
  clear A40
  have HC5 := Aside0.mk H
  clear H
  go_enter Tryz.func7, Tryz.ntmps7
  go_upto_region 4 with (first | ((with_reducible refine gate_callee (f := 24) rfl ?_); refine goesL_ (some 5) rfl rfl Tryz.func24 (by kernel_rfl) rfl #[] rfl (by (try simp only [List.map_toArray, List.map_cons, List.map_nil]); first | done | rfl | (simp only [List.length_drop, List.length_take]; rfl)) ?_; (with_reducible refine (schismalaw06_known.calls true _ ?gG A2.out).mono ?_); (case gG => exact gw HG.out HB.out); rintro e w6 ⟨rfl, hb⟩; refine ⟨_, rfl, ?_⟩; have n0_ := Aside0.mk (below_step (bl HB.out) hb); clear HB; have HB := n0_; clear n0_; (try clear hb); (try clear hb2); (try clear hk); (try clear hi)) | ((with_reducible refine gate_callee (f := 41) rfl ?_); refine goesL_ (some 9) rfl rfl Tryz.func41 (by kernel_rfl) rfl #[.int .i64 a0] rfl (by (try simp only [List.map_toArray, List.map_cons, List.map_nil]); first | done | rfl | (simp only [List.length_drop, List.length_take]; rfl)) ?_; (with_reducible refine (table_Identity.calls k a0 t378 t379 _ A4.out).mono ?_); rintro e w7 ⟨v380, rfl, ho0, hb⟩; refine ⟨_, rfl, ?_⟩; have n0_ := Aside0.mk (Kd.S_lower ho0 (below_size (bl HB.out))); have n1_ := Aside0.mk (below_step (bl HB.out) hb); clear HB; have HO381 := n0_; have HB := n1_; clear n0_ n1_; (try clear hb); (try clear hb2); (try clear hk); (try clear hi); (try clear ho0)))
  (try simp only [Act.put, List.setIfInBounds_toArray, List.set_cons_zero, List.set_cons_succ])
  go_cut [17] (fun v17 wc => ∃ (kq : Nat) (x17_4 : Bool), v17 = .bool x17_4 ∧ Aside0 (schismalaw06_TableIdentities.j0 kq a0 t378 t379 x17_4 = some r) ∧ Aside0 (kq ≤ k) ∧ Aside0 (Kd.S (Kd.slice 3 (Kd.int .i64)) 51 wc w.heap.size (fun _ => True) v380 t378) ∧ Aside0 (Below w.heap.size w wc))
  case first =>
   have H := HC5.out
   clear HC5
   by_cases c8 : a0 < 0
   ·rw [if_pos c8] at H
    have c8b0 : decide (a0 < 0) = true := decide_eq_true c8
    clear c8
    (first | rw [c8b0] | (simp only [i64_w, i32_w]; rw [c8b0]) | skip)
    have H' := Aside0.mk H
    clear H
    go_wp2
    go_meet
    case rel => exact ⟨_, (true), (by first | rfl | (simp; done) | (simp [*]; done)), H', ⟨by first | omega | exact Nat.le_refl _⟩, ⟨by (with_reducible repeat (first | apply Kd.S_alloc | apply Kd.S_drewN | apply Kd.S_drew)); exact HO381.out⟩, ⟨by repeat (first | (with_reducible first | exact HB.out | apply below_alloc | apply pw_below_drewN | apply below_drew1) | exact HB.out)⟩⟩
   ·rw [if_neg c8] at H
    have c8b0 : decide (a0 < 0) = false := decide_eq_false c8
    clear c8
    (first | rw [c8b0] | (simp only [i64_w, i32_w]; rw [c8b0]) | skip)
    have H' := Aside0.mk H
    clear H
    go_wp2
    go_meet
    case rel => exact ⟨_, (decide (a0 > 12)), (by first | rfl | (simp; done) | (simp [*]; done)), H', ⟨by first | omega | exact Nat.le_refl _⟩, ⟨by (with_reducible repeat (first | apply Kd.S_alloc | apply Kd.S_drewN | apply Kd.S_drew)); exact HO381.out⟩, ⟨by repeat (first | (with_reducible first | exact HB.out | apply below_alloc | apply pw_below_drewN | apply below_drew1) | exact HB.out)⟩⟩
  case rest =>
   clear HC5
   try clear c2
   try clear p2
   try clear c3
   try clear c4
   try clear c7
   try clear c8
   try clear c8b0
   obtain ⟨kq, x17_4, rfl, HA, HJ4, HO_3, HB⟩ := hcut
   cases kq with
   | zero => exact absurd HA.out (by simp [schismalaw06_TableIdentities.j0])
   | succ kj4 =>
    have H := HA.out
    clear HA
    simp only [schismalaw06_TableIdentities.j0] at H
    by_cases c9 : x17_4 = true
    ·subst c9
     have H1 : (if (t378.length : Int) = 0 then (some (t379 == 3)) else (some false)) = some r := by rw [if_pos rfl] at H; exact H
     clear H
     have H := H1
     clear H1
     by_cases c10 : (t378.length : Int) = 0
     ·rw [if_pos c10] at H
      have c10b0 : ((t378.length : Int) == 0) = true := beq_iff_eq.mpr c10
      have c10b1 : ((t378.length : Int) != 0) = false := bne_eq_false_iff_eq.mpr c10
      clear c10
      obtain rfl := Option.some.inj H
      obtain ⟨Ao11, co11, eo11⟩ := Kd.S_slice HO_3.out
      subst eo11
      go_wp2
      go_ret
      exact ⟨by first | rfl | (simp [errW_none, errW_some] <;> rfl) | (simp [*, errW_none, errW_some] <;> rfl), by repeat (first | (with_reducible first | exact HB.out | apply below_alloc | apply pw_below_drewN | apply below_drew1) | exact HB.out)⟩
     ·rw [if_neg c10] at H
      have c10b0 : ((t378.length : Int) == 0) = false := beq_eq_false_iff_ne.mpr c10
      have c10b1 : ((t378.length : Int) != 0) = true := bne_iff_ne.mpr c10
      have c10b2 : ¬ (t378 = []) := fun h_ => c10 (by rw [h_]; rfl)
      obtain rfl := Option.some.inj H
      obtain ⟨Ao12, co12, eo12⟩ := Kd.S_slice HO_3.out
      subst eo12
      go_wp2
      go_ret
      exact ⟨by first | rfl | (simp [errW_none, errW_some] <;> rfl) | (simp [*, errW_none, errW_some] <;> rfl), by repeat (first | (with_reducible first | exact HB.out | apply below_alloc | apply pw_below_drewN | apply below_drew1) | exact HB.out)⟩
    ·replace c9 := Bool.eq_false_iff.mpr c9
     subst c9
     have H1 : (if t379 = 0 then ((schismaref06_Identity.f kj4 a0).bind fun t382 => ((schismaref06_Equal.f kj4 t378 t382).bind fun t385 => (some t385))) else (some false)) = some r := by rw [if_neg (show ¬ (false = true) by decide)] at H; exact H
     clear H
     have H := H1
     clear H1
     by_cases c13 : t379 = 0
     ·rw [if_pos c13] at H
      have c13b0 : (t379 == 0) = true := beq_iff_eq.mpr c13
      have c13b1 : (t379 != 0) = false := bne_eq_false_iff_eq.mpr c13
      clear c13
      replace H := Option.bind_eq_some_iff.mp H
      obtain ⟨t382, A140, H⟩ := H
      replace H : ((schismaref06_Equal.f kj4 t378 t382).bind fun t385 => (some t385)) = some r := H
      have A14 := Aside0.mk A140
      clear A140
      replace H := Option.bind_eq_some_iff.mp H
      obtain ⟨t385, A150, H⟩ := H
      replace H : (some t385) = some r := H
      have A15 := Aside0.mk A150
      clear A150
      obtain rfl := Option.some.inj H
      go_wp2_with (first | (go_at_call 43; (with_reducible refine (schismaref06_Identity.calls kj4 a0 t382 _ A14.out).mono ?_); rintro e w16 ⟨v383, rfl, ho0, hb⟩; have n0_ := Aside0.mk (Kd.S_elder' (sx HO_3.out) (Kd.S_base ho0) hb); have n1_ := Aside0.mk (Kd.S_lower (Kd.S_new' ho0 (Kd.S_lt (sx HO_3.out))) (below_size (bl HB.out))); have n2_ := Aside0.mk (below_step (bl HB.out) hb); clear HO_3; clear HB; have HO_3 := n0_; have HO384 := n1_; have HB := n2_; clear n0_ n1_ n2_; (try clear hb); (try clear hb2); (try clear hk); (try clear hi); (try clear ho0); obtain ⟨Ao17, co17, eo17⟩ := Kd.S_slice HO_3.out; subst eo17; obtain ⟨Ao18, co18, eo18⟩ := Kd.S_slice HO384.out; subst eo18) | (go_at_call 42; (with_reducible refine (schismaref06_Equal.calls kj4 _ _ t378 _ _ t382 t385 _ ?side1 ?side2 ?side3 ?side4 A15.out).mono ?_); (case side1 => exact cx (Kd.S_reads' HO_3.out).2.2); (case side2 => exact (Kd.S_reads' HO_3.out).2.1); (case side3 => exact cx (Kd.S_reads' HO384.out).2.2); (case side4 => exact (Kd.S_reads' HO384.out).2.1); rintro e w' ⟨rfl, ⟨nd, rfl⟩⟩))
      go_ret
      exact ⟨by first | rfl | (simp [errW_none, errW_some] <;> rfl) | (simp [*, errW_none, errW_some] <;> rfl), by repeat (first | (with_reducible first | exact HB.out | apply below_alloc | apply pw_below_drewN | apply below_drew1) | exact HB.out)⟩
     ·rw [if_neg c13] at H
      have c13b0 : (t379 == 0) = false := beq_eq_false_iff_ne.mpr c13
      have c13b1 : (t379 != 0) = true := bne_iff_ne.mpr c13
      obtain rfl := Option.some.inj H
      go_wp2
      go_ret
      exact ⟨by first | rfl | (simp [errW_none, errW_some] <;> rfl) | (simp [*, errW_none, errW_some] <;> rfl), by repeat (first | (with_reducible first | exact HB.out | apply below_alloc | apply pw_below_drewN | apply below_drew1) | exact HB.out)⟩
 ·replace c3 := Bool.eq_false_iff.mpr c3
  subst c3
  have H1 : (some false) = some r := by rw [if_neg (show ¬ (false = true) by decide)] at H; exact H
  clear H
  have H := H1
  clear H1
  obtain rfl := Option.some.inj H
  go_enter Tryz.func7, Tryz.ntmps7
  go_wp2_with (first | ((with_reducible refine gate_callee (f := 24) rfl ?_); refine goesL_ (some 5) rfl rfl Tryz.func24 (by kernel_rfl) rfl #[] rfl (by (try simp only [List.map_toArray, List.map_cons, List.map_nil]); first | done | rfl | (simp only [List.length_drop, List.length_take]; rfl)) ?_; (with_reducible refine (schismalaw06_known.calls false _ ?gG A2.out).mono ?_); (case gG => exact gw HG.out HB.out); rintro e w19 ⟨rfl, hb⟩; refine ⟨_, rfl, ?_⟩; have n0_ := Aside0.mk (below_step (bl HB.out) hb); clear HB; have HB := n0_; clear n0_; (try clear hb); (try clear hb2); (try clear hk); (try clear hi)))
  go_ret
  exact ⟨by first | rfl | (simp [errW_none, errW_some] <;> rfl) | (simp [*, errW_none, errW_some] <;> rfl), by repeat (first | (with_reducible first | exact HB.out | apply below_alloc | apply pw_below_drewN | apply below_drew1) | exact HB.out)⟩
def schismalaw06_TableIdentities.Pure : Prop := ∀ (a0 : Int), (Lit.int .i64 a0).wf = true → ∃ k, schismalaw06_TableIdentities.f k a0 = some true
theorem schismalaw06_TableIdentities.walk (P : schismalaw06_TableIdentities.Pure) (a0 : Int) (w : World) (w0 : (Lit.int .i64 a0).wf = true) (hG : GW w) :
  Calls Tryz.prog 7 #[.int .i64 a0] w fun e w' => e = .returned (.bool true) ∧ Below w.heap.size w w' := by
 obtain ⟨k, h⟩ := P a0 w0
 refine (schismalaw06_TableIdentities.calls k a0 true w hG h).mono ?_
 rintro e w' ⟨rfl, hd⟩
 exact ⟨rfl, hd⟩
end Go.Proofs.YtegffolimjiioaaGreatDoor.PB
