/- Walks and contracts of the program's functions: printed for this claim. -/
import Derived.Test.YtegffolimjiioaaGreatDoorZX0
import Derived.Test.YtegffolimjiioaaGreatDoorZPBx0
import Derived.Test.YtegffolimjiioaaGreatDoorZPBx2
import Derived.Test.YtegffolimjiioaaGreatDoorZPBx6
import Derived.Test.YtegffolimjiioaaGreatDoorZPBx7
import Derived.Test.YtegffolimjiioaaGreatDoorZHS
import Derived.Test.YtegffolimjiioaaGreatDoorZHs
namespace Go.Proofs.YtegffolimjiioaaGreatDoor.PB
open Go.RowKit Go.Proofs.YtegffolimjiioaaGreatDoorW.PrintWords Go.Proofs.YtegffolimjiioaaGreatDoorW.PrintLast Go.Proofs.YtegffolimjiioaaGreatDoorW.PrintMore
attribute [local go_sem] max2_int min2_int max_two min_two
set_option linter.unusedVariables false
set_option linter.unusedSimpArgs false
def whole_Add.j0 : Nat → ByteArray → ByteArray → Option (ByteArray)
 | 0, _, _ => none
 | k + 1, x0, x1 => (whole_split.f x0).bind fun bt211 => ((whole_split.f x1).bind fun bt213 => (if (bt211.1 == bt213.1) = true then ((decimal_Add.f k bt211.2 bt213.2).bind fun t215 => ((whole_join.f bt211.1 t215).bind fun t216 => (some t216))) else ((decimal_Compare.f bt211.2 bt213.2).bind fun t217 => (if t217 < 0 then ((decimal_Sub.f k bt213.2 bt211.2).bind fun bt218 => ((whole_join.f bt213.1 bt218.1).bind fun t220 => (some t220))) else ((decimal_Sub.f k bt211.2 bt213.2).bind fun bt221 => ((whole_join.f bt211.1 bt221.1).bind fun t223 => (some t223)))))))
def whole_Add.f (k : Nat) (a0 : ByteArray) (a1 : ByteArray) : Option (ByteArray) := (whole_little.f a0 18).bind fun bt206 => (if bt206.2 = true then ((whole_little.f a1 18).bind fun bt208 => (if bt208.2 = true then ((whole_Of.f (wrap64 (bt206.1 + bt208.1))).bind fun t210 => (some t210)) else (whole_Add.j0 k a0 a1))) else (whole_Add.j0 k a0 a1))
set_option maxHeartbeats 8000000 in
set_option maxRecDepth 100000 in
theorem whole_Add.calls (k : Nat) (a0 : ByteArray) (a1 : ByteArray) (r : ByteArray) (w : World) (hG : GW w) (h : whole_Add.f k a0 a1 = some r) :
  Calls Tryz.prog 121 #[.string a0, .string a1] w fun e w' => e = .returned (.string r) ∧ Below w.heap.size w w' := by
 have HG := Aside0.mk hG
 clear hG
 have HB := Aside0.mk (Below.refl w.heap.size w)
 have H : ((whole_little.f a0 18).bind fun bt206 => (if bt206.2 = true then ((whole_little.f a1 18).bind fun bt208 => (if bt208.2 = true then ((whole_Of.f (wrap64 (bt206.1 + bt208.1))).bind fun t210 => (some t210)) else (whole_Add.j0 k a0 a1))) else (whole_Add.j0 k a0 a1))) = some r := h
 clear h
 replace H := Option.bind_eq_some_iff.mp H
 obtain ⟨⟨t206, t207⟩, A30, H⟩ := H
 replace H : (if t207 = true then ((whole_little.f a1 18).bind fun bt208 => (if bt208.2 = true then ((whole_Of.f (wrap64 (t206 + bt208.1))).bind fun t210 => (some t210)) else (whole_Add.j0 k a0 a1))) else (whole_Add.j0 k a0 a1)) = some r := H
 have A3 := Aside0.mk A30
 clear A30
 have HC4 := Aside0.mk H
 clear H
 go_enter Tryz.func121, Tryz.ntmps121
 go_upto_if 20 with (first | ((with_reducible refine gate_callee (f := 153) rfl ?_); refine goesL_ (some 17) rfl rfl Tryz.func153 (by kernel_rfl) rfl #[.string a0, .int .i64 18] rfl (by (try simp only [List.map_toArray, List.map_cons, List.map_nil]); first | done | rfl | (simp only [List.length_drop, List.length_take]; rfl)) ?_; (with_reducible refine (whole_little.calls a0 18 t206 t207 _ ?gG A3.out).mono ?_); (case gG => exact gw HG.out HB.out); rintro e w5 ⟨rfl, hb⟩; refine ⟨_, rfl, ?_⟩; have n0_ := Aside0.mk (below_step (bl HB.out) hb); clear HB; have HB := n0_; clear n0_; (try clear hb); (try clear hb2); (try clear hk); (try clear hi)))
 (try simp only [Act.put, List.setIfInBounds_toArray, List.set_cons_zero, List.set_cons_succ])
 go_cut [] (fun wc => ∃ (kq : Nat), Aside0 (whole_Add.j0 kq a0 a1 = some r) ∧ Aside0 (kq ≤ k) ∧ Aside0 (Below w.heap.size w wc))
 case first =>
  have H := HC4.out
  clear HC4
  by_cases c6 : t207 = true
  ·subst c6
   have H1 : ((whole_little.f a1 18).bind fun bt208 => (if bt208.2 = true then ((whole_Of.f (wrap64 (t206 + bt208.1))).bind fun t210 => (some t210)) else (whole_Add.j0 k a0 a1))) = some r := by rw [if_pos rfl] at H; exact H
   clear H
   have H := H1
   clear H1
   replace H := Option.bind_eq_some_iff.mp H
   obtain ⟨⟨t208, t209⟩, A70, H⟩ := H
   replace H : (if t209 = true then ((whole_Of.f (wrap64 (t206 + t208))).bind fun t210 => (some t210)) else (whole_Add.j0 k a0 a1)) = some r := H
   have A7 := Aside0.mk A70
   clear A70
   by_cases c8 : t209 = true
   ·subst c8
    have H1 : ((whole_Of.f (wrap64 (t206 + t208))).bind fun t210 => (some t210)) = some r := by rw [if_pos rfl] at H; exact H
    clear H
    have H := H1
    clear H1
    replace H := Option.bind_eq_some_iff.mp H
    obtain ⟨t210, A90, H⟩ := H
    replace H : (some t210) = some r := H
    have A9 := Aside0.mk A90
    clear A90
    obtain rfl := Option.some.inj H
    go_wp2_with (first | ((with_reducible refine gate_callee (f := 153) rfl ?_); refine goesL_ (some 23) rfl rfl Tryz.func153 (by kernel_rfl) rfl #[.string a1, .int .i64 18] rfl (by (try simp only [List.map_toArray, List.map_cons, List.map_nil]); first | done | rfl | (simp only [List.length_drop, List.length_take]; rfl)) ?_; (with_reducible refine (whole_little.calls a1 18 t208 true _ ?gG A7.out).mono ?_); (case gG => exact gw HG.out HB.out); rintro e w10 ⟨rfl, hb⟩; refine ⟨_, rfl, ?_⟩; have n0_ := Aside0.mk (below_step (bl HB.out) hb); clear HB; have HB := n0_; clear n0_; (try clear hb); (try clear hb2); (try clear hk); (try clear hi)) | ((with_reducible refine gate_callee (f := 111) rfl ?_); refine goesL_ (some 30) rfl rfl Tryz.func111 (by kernel_rfl) rfl #[.int .i64 (wrap64 (t206 + t208))] rfl (by (try simp only [List.map_toArray, List.map_cons, List.map_nil]); first | done | rfl | (simp only [List.length_drop, List.length_take]; rfl)) ?_; (with_reducible refine (whole_Of.calls (wrap64 (t206 + t208)) t210 _ ?gG A9.out).mono ?_); (case gG => exact gw HG.out HB.out); rintro e w11 ⟨rfl, hb⟩; refine ⟨_, rfl, ?_⟩; have n0_ := Aside0.mk (below_step (bl HB.out) hb); clear HB; have HB := n0_; clear n0_; (try clear hb); (try clear hb2); (try clear hk); (try clear hi)))
    go_ret
    exact ⟨by first | rfl | (simp [errW_none, errW_some] <;> rfl) | (simp [*, errW_none, errW_some] <;> rfl), by repeat (first | (with_reducible first | exact HB.out | apply below_alloc | apply pw_below_drewN | apply below_drew1) | exact HB.out)⟩
   ·replace c8 := Bool.eq_false_iff.mpr c8
    subst c8
    have H1 : (whole_Add.j0 k a0 a1) = some r := by rw [if_neg (show ¬ (false = true) by decide)] at H; exact H
    clear H
    have H := H1
    clear H1
    have H' := Aside0.mk H
    clear H
    go_wp2_with (first | ((with_reducible refine gate_callee (f := 153) rfl ?_); refine goesL_ (some 23) rfl rfl Tryz.func153 (by kernel_rfl) rfl #[.string a1, .int .i64 18] rfl (by (try simp only [List.map_toArray, List.map_cons, List.map_nil]); first | done | rfl | (simp only [List.length_drop, List.length_take]; rfl)) ?_; (with_reducible refine (whole_little.calls a1 18 t208 false _ ?gG A7.out).mono ?_); (case gG => exact gw HG.out HB.out); rintro e w12 ⟨rfl, hb⟩; refine ⟨_, rfl, ?_⟩; have n0_ := Aside0.mk (below_step (bl HB.out) hb); clear HB; have HB := n0_; clear n0_; (try clear hb); (try clear hb2); (try clear hk); (try clear hi)))
    go_meet
    case rel => exact ⟨_, H', ⟨by first | omega | exact Nat.le_refl _⟩, ⟨by repeat (first | (with_reducible first | exact HB.out | apply below_alloc | apply pw_below_drewN | apply below_drew1) | exact HB.out)⟩⟩
  ·replace c6 := Bool.eq_false_iff.mpr c6
   subst c6
   have H1 : (whole_Add.j0 k a0 a1) = some r := by rw [if_neg (show ¬ (false = true) by decide)] at H; exact H
   clear H
   have H := H1
   clear H1
   have H' := Aside0.mk H
   clear H
   go_wp2
   go_meet
   case rel => exact ⟨_, H', ⟨by first | omega | exact Nat.le_refl _⟩, ⟨by repeat (first | (with_reducible first | exact HB.out | apply below_alloc | apply pw_below_drewN | apply below_drew1) | exact HB.out)⟩⟩
 case rest =>
  clear HC4
  try clear c1
  try clear p2
  try clear c6
  try clear p6
  try clear c8
  try clear c11
  try clear c12
  obtain ⟨kq, HA, HJ3, HB⟩ := hcut
  cases kq with
  | zero => exact absurd HA.out (by simp [whole_Add.j0])
  | succ kj3 =>
   have H := HA.out
   clear HA
   simp only [whole_Add.j0] at H
   replace H := Option.bind_eq_some_iff.mp H
   obtain ⟨⟨t211, t212⟩, A130, H⟩ := H
   replace H : ((whole_split.f a1).bind fun bt213 => (if (t211 == bt213.1) = true then ((decimal_Add.f kj3 t212 bt213.2).bind fun t215 => ((whole_join.f t211 t215).bind fun t216 => (some t216))) else ((decimal_Compare.f t212 bt213.2).bind fun t217 => (if t217 < 0 then ((decimal_Sub.f kj3 bt213.2 t212).bind fun bt218 => ((whole_join.f bt213.1 bt218.1).bind fun t220 => (some t220))) else ((decimal_Sub.f kj3 t212 bt213.2).bind fun bt221 => ((whole_join.f t211 bt221.1).bind fun t223 => (some t223))))))) = some r := H
   have A13 := Aside0.mk A130
   clear A130
   replace H := Option.bind_eq_some_iff.mp H
   obtain ⟨⟨t213, t214⟩, A140, H⟩ := H
   replace H : (if (t211 == t213) = true then ((decimal_Add.f kj3 t212 t214).bind fun t215 => ((whole_join.f t211 t215).bind fun t216 => (some t216))) else ((decimal_Compare.f t212 t214).bind fun t217 => (if t217 < 0 then ((decimal_Sub.f kj3 t214 t212).bind fun bt218 => ((whole_join.f t213 bt218.1).bind fun t220 => (some t220))) else ((decimal_Sub.f kj3 t212 t214).bind fun bt221 => ((whole_join.f t211 bt221.1).bind fun t223 => (some t223)))))) = some r := H
   have A14 := Aside0.mk A140
   clear A140
   by_cases c15 : (t211 == t213) = true
   ·rw [if_pos c15] at H
    have c15b0 : (t211 == t213) = true := c15
    (try (have c15b1 : decide (t211 = t213) = true := by simpa using c15))
    (try (have c15b2 : (t211 == t213) = true := by simpa using c15))
    clear c15
    replace H := Option.bind_eq_some_iff.mp H
    obtain ⟨t215, A160, H⟩ := H
    replace H : ((whole_join.f t211 t215).bind fun t216 => (some t216)) = some r := H
    have A16 := Aside0.mk A160
    clear A160
    replace H := Option.bind_eq_some_iff.mp H
    obtain ⟨t216, A170, H⟩ := H
    replace H : (some t216) = some r := H
    have A17 := Aside0.mk A170
    clear A170
    obtain rfl := Option.some.inj H
    go_wp2_with (first | ((with_reducible refine gate_callee (f := 154) rfl ?_); refine goesL_ (some 33) rfl rfl Tryz.func154 (by kernel_rfl) rfl #[.string a0] rfl (by (try simp only [List.map_toArray, List.map_cons, List.map_nil]); first | done | rfl | (simp only [List.length_drop, List.length_take]; rfl)) ?_; (with_reducible refine (whole_split.calls a0 t211 t212 _ A13.out).mono ?_); rintro e w' ⟨rfl, ⟨nd, rfl⟩⟩; refine ⟨_, rfl, ?_⟩) | ((with_reducible refine gate_callee (f := 154) rfl ?_); refine goesL_ (some 38) rfl rfl Tryz.func154 (by kernel_rfl) rfl #[.string a1] rfl (by (try simp only [List.map_toArray, List.map_cons, List.map_nil]); first | done | rfl | (simp only [List.length_drop, List.length_take]; rfl)) ?_; (with_reducible refine (whole_split.calls a1 t213 t214 _ A14.out).mono ?_); rintro e w' ⟨rfl, ⟨nd, rfl⟩⟩; refine ⟨_, rfl, ?_⟩) | ((with_reducible refine gate_callee (f := 179) rfl ?_); refine goesL_ (some 47) rfl rfl Tryz.func179 (by kernel_rfl) rfl #[.string t212, .string t214] rfl (by (try simp only [List.map_toArray, List.map_cons, List.map_nil]); first | done | rfl | (simp only [List.length_drop, List.length_take]; rfl)) ?_; (with_reducible refine (decimal_Add.calls kj3 t212 t214 t215 _ ?gG A16.out).mono ?_); (case gG => exact gw HG.out HB.out); rintro e w18 ⟨rfl, hb⟩; refine ⟨_, rfl, ?_⟩; have n0_ := Aside0.mk (below_step (bl HB.out) hb); clear HB; have HB := n0_; clear n0_; (try clear hb); (try clear hb2); (try clear hk); (try clear hi)) | ((with_reducible refine gate_callee (f := 155) rfl ?_); refine goesL_ (some 48) rfl rfl Tryz.func155 (by kernel_rfl) rfl #[.bool t211, .string t215] rfl (by (try simp only [List.map_toArray, List.map_cons, List.map_nil]); first | done | rfl | (simp only [List.length_drop, List.length_take]; rfl)) ?_; (with_reducible refine (whole_join.calls t211 t215 t216 _ A17.out).mono ?_); rintro e w' ⟨rfl, ⟨nd, rfl⟩⟩; refine ⟨_, rfl, ?_⟩))
    go_ret
    exact ⟨by first | rfl | (simp [errW_none, errW_some] <;> rfl) | (simp [*, errW_none, errW_some] <;> rfl), by repeat (first | (with_reducible first | exact HB.out | apply below_alloc | apply pw_below_drewN | apply below_drew1) | exact HB.out)⟩
   ·rw [if_neg c15] at H
    have c15b0 : (t211 == t213) = false := by simpa using c15
    (try (have c15b1 : decide (t211 = t213) = false := by simpa using c15))
    (try (have c15b2 : (t211 == t213) = false := by simpa using c15))
    (try (have c15b3 : ¬ (t211 = t213) := by simpa using c15))
    clear c15
    replace H := Option.bind_eq_some_iff.mp H
    obtain ⟨t217, A190, H⟩ := H
    replace H : (if t217 < 0 then ((decimal_Sub.f kj3 t214 t212).bind fun bt218 => ((whole_join.f t213 bt218.1).bind fun t220 => (some t220))) else ((decimal_Sub.f kj3 t212 t214).bind fun bt221 => ((whole_join.f t211 bt221.1).bind fun t223 => (some t223)))) = some r := H
    have A19 := Aside0.mk A190
    clear A190
    by_cases c20 : t217 < 0
    ·rw [if_pos c20] at H
     have c20b0 : decide (t217 < 0) = true := decide_eq_true c20
     clear c20
     replace H := Option.bind_eq_some_iff.mp H
     obtain ⟨⟨t218, t219⟩, A210, H⟩ := H
     replace H : ((whole_join.f t213 t218).bind fun t220 => (some t220)) = some r := H
     have A21 := Aside0.mk A210
     clear A210
     replace H := Option.bind_eq_some_iff.mp H
     obtain ⟨t220, A220, H⟩ := H
     replace H : (some t220) = some r := H
     have A22 := Aside0.mk A220
     clear A220
     obtain rfl := Option.some.inj H
     go_wp2_with (first | ((with_reducible refine gate_callee (f := 154) rfl ?_); refine goesL_ (some 33) rfl rfl Tryz.func154 (by kernel_rfl) rfl #[.string a0] rfl (by (try simp only [List.map_toArray, List.map_cons, List.map_nil]); first | done | rfl | (simp only [List.length_drop, List.length_take]; rfl)) ?_; (with_reducible refine (whole_split.calls a0 t211 t212 _ A13.out).mono ?_); rintro e w' ⟨rfl, ⟨nd, rfl⟩⟩; refine ⟨_, rfl, ?_⟩) | ((with_reducible refine gate_callee (f := 154) rfl ?_); refine goesL_ (some 38) rfl rfl Tryz.func154 (by kernel_rfl) rfl #[.string a1] rfl (by (try simp only [List.map_toArray, List.map_cons, List.map_nil]); first | done | rfl | (simp only [List.length_drop, List.length_take]; rfl)) ?_; (with_reducible refine (whole_split.calls a1 t213 t214 _ A14.out).mono ?_); rintro e w' ⟨rfl, ⟨nd, rfl⟩⟩; refine ⟨_, rfl, ?_⟩) | ((with_reducible refine gate_callee (f := 180) rfl ?_); refine goesL_ (some 51) rfl rfl Tryz.func180 (by kernel_rfl) rfl #[.string t212, .string t214] rfl (by (try simp only [List.map_toArray, List.map_cons, List.map_nil]); first | done | rfl | (simp only [List.length_drop, List.length_take]; rfl)) ?_; (with_reducible refine (decimal_Compare.calls t212 t214 t217 _ A19.out).mono ?_); rintro e w23 ⟨rfl, hb⟩; refine ⟨_, rfl, ?_⟩; have n0_ := Aside0.mk (below_step (bl HB.out) hb); clear HB; have HB := n0_; clear n0_; (try clear hb); (try clear hb2); (try clear hk); (try clear hi)) | ((with_reducible refine gate_callee (f := 181) rfl ?_); refine goesL_ (some 59) rfl rfl Tryz.func181 (by kernel_rfl) rfl #[.string t214, .string t212] rfl (by (try simp only [List.map_toArray, List.map_cons, List.map_nil]); first | done | rfl | (simp only [List.length_drop, List.length_take]; rfl)) ?_; (with_reducible refine (decimal_Sub.calls kj3 t214 t212 t218 t219 _ ?gG A21.out).mono ?_); (case gG => exact gw HG.out HB.out); rintro e w24 ⟨rfl, hb⟩; refine ⟨_, rfl, ?_⟩; have n0_ := Aside0.mk (below_step (bl HB.out) hb); clear HB; have HB := n0_; clear n0_; (try clear hb); (try clear hb2); (try clear hk); (try clear hi)) | ((with_reducible refine gate_callee (f := 155) rfl ?_); refine goesL_ (some 64) rfl rfl Tryz.func155 (by kernel_rfl) rfl #[.bool t213, .string t218] rfl (by (try simp only [List.map_toArray, List.map_cons, List.map_nil]); first | done | rfl | (simp only [List.length_drop, List.length_take]; rfl)) ?_; (with_reducible refine (whole_join.calls t213 t218 t220 _ A22.out).mono ?_); rintro e w' ⟨rfl, ⟨nd, rfl⟩⟩; refine ⟨_, rfl, ?_⟩))
     go_ret
     exact ⟨by first | rfl | (simp [errW_none, errW_some] <;> rfl) | (simp [*, errW_none, errW_some] <;> rfl), by repeat (first | (with_reducible first | exact HB.out | apply below_alloc | apply pw_below_drewN | apply below_drew1) | exact HB.out)⟩
    ·rw [if_neg c20] at H
     have c20b0 : decide (t217 < 0) = false := decide_eq_false c20
     clear c20
     replace H := Option.bind_eq_some_iff.mp H
     obtain ⟨⟨t221, t222⟩, A250, H⟩ := H
     replace H : ((whole_join.f t211 t221).bind fun t223 => (some t223)) = some r := H
     have A25 := Aside0.mk A250
     clear A250
     replace H := Option.bind_eq_some_iff.mp H
     obtain ⟨t223, A260, H⟩ := H
     replace H : (some t223) = some r := H
     have A26 := Aside0.mk A260
     clear A260
     obtain rfl := Option.some.inj H
     go_wp2_with (first | ((with_reducible refine gate_callee (f := 154) rfl ?_); refine goesL_ (some 33) rfl rfl Tryz.func154 (by kernel_rfl) rfl #[.string a0] rfl (by (try simp only [List.map_toArray, List.map_cons, List.map_nil]); first | done | rfl | (simp only [List.length_drop, List.length_take]; rfl)) ?_; (with_reducible refine (whole_split.calls a0 t211 t212 _ A13.out).mono ?_); rintro e w' ⟨rfl, ⟨nd, rfl⟩⟩; refine ⟨_, rfl, ?_⟩) | ((with_reducible refine gate_callee (f := 154) rfl ?_); refine goesL_ (some 38) rfl rfl Tryz.func154 (by kernel_rfl) rfl #[.string a1] rfl (by (try simp only [List.map_toArray, List.map_cons, List.map_nil]); first | done | rfl | (simp only [List.length_drop, List.length_take]; rfl)) ?_; (with_reducible refine (whole_split.calls a1 t213 t214 _ A14.out).mono ?_); rintro e w' ⟨rfl, ⟨nd, rfl⟩⟩; refine ⟨_, rfl, ?_⟩) | ((with_reducible refine gate_callee (f := 180) rfl ?_); refine goesL_ (some 51) rfl rfl Tryz.func180 (by kernel_rfl) rfl #[.string t212, .string t214] rfl (by (try simp only [List.map_toArray, List.map_cons, List.map_nil]); first | done | rfl | (simp only [List.length_drop, List.length_take]; rfl)) ?_; (with_reducible refine (decimal_Compare.calls t212 t214 t217 _ A19.out).mono ?_); rintro e w27 ⟨rfl, hb⟩; refine ⟨_, rfl, ?_⟩; have n0_ := Aside0.mk (below_step (bl HB.out) hb); clear HB; have HB := n0_; clear n0_; (try clear hb); (try clear hb2); (try clear hk); (try clear hi)) | ((with_reducible refine gate_callee (f := 181) rfl ?_); refine goesL_ (some 59) rfl rfl Tryz.func181 (by kernel_rfl) rfl #[.string t212, .string t214] rfl (by (try simp only [List.map_toArray, List.map_cons, List.map_nil]); first | done | rfl | (simp only [List.length_drop, List.length_take]; rfl)) ?_; (with_reducible refine (decimal_Sub.calls kj3 t212 t214 t221 t222 _ ?gG A25.out).mono ?_); (case gG => exact gw HG.out HB.out); rintro e w28 ⟨rfl, hb⟩; refine ⟨_, rfl, ?_⟩; have n0_ := Aside0.mk (below_step (bl HB.out) hb); clear HB; have HB := n0_; clear n0_; (try clear hb); (try clear hb2); (try clear hk); (try clear hi)) | ((with_reducible refine gate_callee (f := 155) rfl ?_); refine goesL_ (some 64) rfl rfl Tryz.func155 (by kernel_rfl) rfl #[.bool t211, .string t221] rfl (by (try simp only [List.map_toArray, List.map_cons, List.map_nil]); first | done | rfl | (simp only [List.length_drop, List.length_take]; rfl)) ?_; (with_reducible refine (whole_join.calls t211 t221 t223 _ A26.out).mono ?_); rintro e w' ⟨rfl, ⟨nd, rfl⟩⟩; refine ⟨_, rfl, ?_⟩))
     go_ret
     exact ⟨by first | rfl | (simp [errW_none, errW_some] <;> rfl) | (simp [*, errW_none, errW_some] <;> rfl), by repeat (first | (with_reducible first | exact HB.out | apply below_alloc | apply pw_below_drewN | apply below_drew1) | exact HB.out)⟩
mutual
def fraction_Add.j0 : Nat → Bool → ByteArray → ByteArray → ByteArray → ByteArray → Option (ByteArray × ByteArray)
 | 0, _, _, _, _, _ => none
 | k + 1, x18, x225000, x225001, x226000, x226001 => if x18 = true then ((whole_Add.f k x225000 x226000).bind fun t227 => (some (t227, (⟨#[49]⟩ : ByteArray)))) else ((fraction_both.f x225000 x225001).bind fun bt228 => (if bt228.2.2 = true then ((fraction_both.f x226000 x226001).bind fun bt231 => (if bt231.2.2 = true then ((fraction_of.f k (wrap64 ((wrap64 (bt228.1 * bt231.2.1)) + (wrap64 (bt231.1 * bt228.2.1)))) (wrap64 (bt228.2.1 * bt231.2.1))).bind fun bt234 => (some (bt234.1, bt234.2))) else (fraction_Add.j1 k x225000 x225001 x226000 x226001))) else (fraction_Add.j1 k x225000 x225001 x226000 x226001)))
def fraction_Add.j1 : Nat → ByteArray → ByteArray → ByteArray → ByteArray → Option (ByteArray × ByteArray)
 | 0, _, _, _, _ => none
 | k + 1, x225000, x225001, x226000, x226001 => (whole_Mul.f k x225000 x226001).bind fun t236 => ((whole_Mul.f k x226000 x225001).bind fun t237 => ((whole_Add.f k t236 t237).bind fun t238 => ((whole_Mul.f k x225001 x226001).bind fun t239 => ((fraction_lowest.f k t238 t239).bind fun bt240 => (some (bt240.1, bt240.2))))))
end
def fraction_Add.f (k : Nat) (a0_0 : ByteArray) (a0_1 : ByteArray) (a1_0 : ByteArray) (a1_1 : ByteArray) : Option (ByteArray × ByteArray) := if a0_1.toList = ([49] : List UInt8) then (fraction_Add.j0 k (a1_1.toList == ([49] : List UInt8)) a0_0 a0_1 a1_0 a1_1) else (fraction_Add.j0 k false a0_0 a0_1 a1_0 a1_1)
def fraction_Add.T8 : Bool × List (List Nat × List Nat) := (true, [([], []), ([0], [0]), ([], []), ([2], [2]), ([1, 3], [1, 3]), ([], []), ([5], [5]), ([], []), ([7], [7]), ([6, 8, 4], [6, 8]), ([4, 9, 9], [4, 9]), ([], []), ([11], [11]), ([], []), ([13], [13]), ([12, 14, 10], [12, 14]), ([10, 15, 15], [10, 15]), ([16, 16, 0, 1, 2, 3, 4, 5, 6, 7, 8, 9, 10, 11, 12, 13, 14, 15, 16], [16])])
def fraction_Add.B8 : List Nat := [0, 1, 0, 4, 15, 0, 32, 0, 128, 511, 1023, 0, 2048, 0, 8192, 32767, 65535, 131071]
theorem fraction_Add.tab8 : rtab .any (opsOf Tryz.f75 8) = fraction_Add.T8 := by kernel_rfl
theorem fraction_Add.bits8 : waitsOk fraction_Add.T8.2 fraction_Add.B8 = true := by kernel_rfl
set_option maxHeartbeats 8000000 in
set_option maxRecDepth 100000 in
theorem fraction_Add.calls (k : Nat) (a0_0 : ByteArray) (a0_1 : ByteArray) (a1_0 : ByteArray) (a1_1 : ByteArray) (r1 : ByteArray) (r2 : ByteArray) (w : World) (hG : GW w) (h : fraction_Add.f k a0_0 a0_1 a1_0 a1_1 = some (r1, r2)) :
  Calls Tryz.prog 75 #[.agg #[.string a0_0, .string a0_1], .agg #[.string a1_0, .string a1_1]] w fun e w' => e = .returned (.agg #[.string r1, .string r2]) ∧ Below w.heap.size w w' := by
 have HG := Aside0.mk hG
 clear hG
 have hu103 := Tryz.underlying103
 have HB := Aside0.mk (Below.refl w.heap.size w)
 have H : (if a0_1.toList = ([49] : List UInt8) then (fraction_Add.j0 k (a1_1.toList == ([49] : List UInt8)) a0_0 a0_1 a1_0 a1_1) else (fraction_Add.j0 k false a0_0 a0_1 a1_0 a1_1)) = some (r1, r2) := h
 clear h
 have HC3 := Aside0.mk H
 clear H
 go_enter Tryz.func75, Tryz.ntmps75
 go_upto_region 1 with (first | ((with_reducible refine gate_dst (N := 2) rfl ?_); refine box_event ?hg (N := 2) ?hd (cs := #[.string a0_0, .string a0_1]) (t := 103) ?hr ?_; (case hd => rfl); (case hg => rfl); (case hr => first | (go_simp; done) | (go_simp; rfl)); intro gb224 hg w4 hbox hb; have n0_ := Aside0.mk (below_step (bl HB.out) hb); have n1_ := Aside0.mk (hbox); have n2_ := Aside0.mk ((by rw [hg]; exact (below_size (bl HB.out)) : w.heap.size ≤ gb224)); have n3_ := Aside0.mk ((by rw [hg]; exact (below_size (bl HB.out)) : w.heap.size ≤ gb224)); clear HB; have HB := n0_; have BK224 := n1_; have GW224 := n2_; have GE224 := n3_; clear n0_ n1_ n2_ n3_; clear hb hbox hg) | ((with_reducible refine gate_dst (N := 3) rfl ?_); refine box_event ?hg (N := 3) ?hd (cs := #[.string a1_0, .string a1_1]) (t := 103) ?hr ?_; (case hd => rfl); (case hg => rfl); (case hr => first | (go_simp; done) | (go_simp; rfl)); intro gb225 hg w5 hbox hb; have n0_ := Aside0.mk (blk_below (g := gb224) (o := .cells #[.string a0_0, .string a0_1] 103 (0, 0)) (bx BK224.out) hb); have n1_ := Aside0.mk (below_step (by repeat (first | (with_reducible first | exact HB.out | apply below_alloc | apply pw_below_drewN | apply below_drew1 | refine below_set ?_ GE224.out) | exact HB.out)) hb); have n2_ := Aside0.mk (hbox); have n3_ := Aside0.mk ((by rw [hg]; exact (below_size (by repeat (first | (with_reducible first | exact HB.out | apply below_alloc | apply pw_below_drewN | apply below_drew1 | refine below_set ?_ GE224.out) | exact HB.out))) : w.heap.size ≤ gb225)); have n4_ := Aside0.mk ((by rw [hg]; exact (below_size (by repeat (first | (with_reducible first | exact HB.out | apply below_alloc | apply pw_below_drewN | apply below_drew1 | refine below_set ?_ GE224.out) | exact HB.out))) : w.heap.size ≤ gb225)); have n5_ := Aside0.mk ((by rw [hg]; exact Nat.ne_of_lt (blk_lt (g := gb224) (o := .cells #[.string a0_0, .string a0_1] 103 (0, 0)) (bx BK224.out)) : gb224 ≠ gb225)); have n6_ := Aside0.mk ((by rw [hg]; exact Nat.ne_of_gt (blk_lt (g := gb224) (o := .cells #[.string a0_0, .string a0_1] 103 (0, 0)) (bx BK224.out)) : gb225 ≠ gb224)); clear BK224; clear HB; have BK224 := n0_; have HB := n1_; have BK225 := n2_; have GW225 := n3_; have GE225 := n4_; have NB224_225 := n5_; have NB225_224 := n6_; clear n0_ n1_ n2_ n3_ n4_ n5_ n6_; clear hb hbox hg) | ((with_reducible refine gate_dst (N := 4) rfl ?_); refine box_event ?hg (N := 4) ?hd (cs := #[.string (⟨#[]⟩ : ByteArray), .string (⟨#[]⟩ : ByteArray)]) (t := 103) ?hr ?_; (case hd => rfl); (case hg => rfl); (case hr => first | (go_simp; done) | (go_simp; rfl)); intro gb226 hg w6 hbox hb; have n0_ := Aside0.mk (blk_below (g := gb224) (o := .cells #[.string a0_0, .string a0_1] 103 (0, 0)) (bx BK224.out) hb); have n1_ := Aside0.mk (blk_below (g := gb225) (o := .cells #[.string a1_0, .string a1_1] 103 (0, 0)) (bx BK225.out) hb); have n2_ := Aside0.mk (below_step (by repeat (first | (with_reducible first | exact HB.out | apply below_alloc | apply pw_below_drewN | apply below_drew1 | refine below_set ?_ GE224.out | refine below_set ?_ GE225.out) | exact HB.out)) hb); have n3_ := Aside0.mk (hbox); have n4_ := Aside0.mk ((by rw [hg]; exact (below_size (by repeat (first | (with_reducible first | exact HB.out | apply below_alloc | apply pw_below_drewN | apply below_drew1 | refine below_set ?_ GE224.out | refine below_set ?_ GE225.out) | exact HB.out))) : w.heap.size ≤ gb226)); have n5_ := Aside0.mk ((by rw [hg]; exact (below_size (by repeat (first | (with_reducible first | exact HB.out | apply below_alloc | apply pw_below_drewN | apply below_drew1 | refine below_set ?_ GE224.out | refine below_set ?_ GE225.out) | exact HB.out))) : w.heap.size ≤ gb226)); have n6_ := Aside0.mk ((by rw [hg]; exact Nat.ne_of_lt (blk_lt (g := gb224) (o := .cells #[.string a0_0, .string a0_1] 103 (0, 0)) (bx BK224.out)) : gb224 ≠ gb226)); have n7_ := Aside0.mk ((by rw [hg]; exact Nat.ne_of_gt (blk_lt (g := gb224) (o := .cells #[.string a0_0, .string a0_1] 103 (0, 0)) (bx BK224.out)) : gb226 ≠ gb224)); have n8_ := Aside0.mk ((by rw [hg]; exact Nat.ne_of_lt (blk_lt (g := gb225) (o := .cells #[.string a1_0, .string a1_1] 103 (0, 0)) (bx BK225.out)) : gb225 ≠ gb226)); have n9_ := Aside0.mk ((by rw [hg]; exact Nat.ne_of_gt (blk_lt (g := gb225) (o := .cells #[.string a1_0, .string a1_1] 103 (0, 0)) (bx BK225.out)) : gb226 ≠ gb225)); clear BK224; clear BK225; clear HB; have BK224 := n0_; have BK225 := n1_; have HB := n2_; have BK226 := n3_; have GW226 := n4_; have GE226 := n5_; have NB224_226 := n6_; have NB226_224 := n7_; have NB225_226 := n8_; have NB226_225 := n9_; clear n0_ n1_ n2_ n3_ n4_ n5_ n6_ n7_ n8_ n9_; clear hb hbox hg))
 (try simp only [Act.put, List.setIfInBounds_toArray, List.set_cons_zero, List.set_cons_succ])
 go_cut [18] (fun v18 wc => ∃ (kq : Nat) (x18_2 : Bool), v18 = .bool x18_2 ∧ Aside0 (fraction_Add.j0 kq x18_2 a0_0 a0_1 a1_0 a1_1 = some (r1, r2)) ∧ Aside0 (kq ≤ k) ∧ Aside0 (wc.heap[gb224]? = some (.cells #[.string a0_0, .string a0_1] 103 (0, 0))) ∧ Aside0 (wc.heap[gb225]? = some (.cells #[.string a1_0, .string a1_1] 103 (0, 0))) ∧ Aside0 (wc.heap[gb226]? = some (.cells #[.string (⟨#[]⟩ : ByteArray), .string (⟨#[]⟩ : ByteArray)] 103 (0, 0))) ∧ Aside0 (Below w.heap.size w wc))
 case first =>
  have H := HC3.out
  clear HC3
  by_cases c7 : a0_1.toList = ([49] : List UInt8)
  ·rw [if_pos c7] at H
   have c7b0 : (a0_1.toList == ([49] : List UInt8)) = true := beq_iff_eq.mpr c7
   have c7b1 : (a0_1.toList != ([49] : List UInt8)) = false := bne_eq_false_iff_eq.mpr c7
   clear c7
   (first | rw [c7b0] | (simp only [i64_w, i32_w]; rw [c7b0]) | skip)
   have H' := Aside0.mk H
   clear H
   have hnb8 := NB224_225.out
   have hnc8 := NB225_224.out
   have hnb9 := NB224_226.out
   have hnc9 := NB226_224.out
   have hcz10_0 : w6.cell? ⟨gb224, 0, none⟩ = some (.string a0_0) := (blk_cell BK224.out 0).trans rfl
   have hcz10_1 : w6.cell? ⟨gb224, 1, none⟩ = some (.string a0_1) := (blk_cell BK224.out 1).trans rfl
   have hfz10_0 := blk_frozen BK224.out 0
   have hfz10_1 := blk_frozen BK224.out 1
   have hnb11 := NB225_226.out
   have hnc11 := NB226_225.out
   have hcz12_0 : w6.cell? ⟨gb225, 0, none⟩ = some (.string a1_0) := (blk_cell BK225.out 0).trans rfl
   have hcz12_1 : w6.cell? ⟨gb225, 1, none⟩ = some (.string a1_1) := (blk_cell BK225.out 1).trans rfl
   have hfz12_0 := blk_frozen BK225.out 0
   have hfz12_1 := blk_frozen BK225.out 1
   go_wp2
   go_meet
   case rel => exact ⟨_, ((a1_1.toList == ([49] : List UInt8))), (by first | rfl | (simp; done) | (simp [*]; done)), H', ⟨by first | omega | exact Nat.le_refl _⟩, ⟨by (with_reducible repeat (first | refine blk_drewN ?_ _ | refine blk_drew ?_ | refine blk_alloc ?_ _)); exact BK224.out⟩, ⟨by (with_reducible repeat (first | refine blk_drewN ?_ _ | refine blk_drew ?_ | refine blk_alloc ?_ _)); exact BK225.out⟩, ⟨by (with_reducible repeat (first | refine blk_drewN ?_ _ | refine blk_drew ?_ | refine blk_alloc ?_ _)); exact BK226.out⟩, ⟨by repeat (first | (with_reducible first | exact HB.out | apply below_alloc | apply pw_below_drewN | apply below_drew1 | refine below_set ?_ GE224.out | refine below_set ?_ GE225.out | refine below_set ?_ GE226.out) | exact HB.out)⟩⟩
  ·rw [if_neg c7] at H
   have c7b0 : (a0_1.toList == ([49] : List UInt8)) = false := beq_eq_false_iff_ne.mpr c7
   have c7b1 : (a0_1.toList != ([49] : List UInt8)) = true := bne_iff_ne.mpr c7
   (first | rw [c7b0] | (simp only [i64_w, i32_w]; rw [c7b0]) | skip)
   have H' := Aside0.mk H
   clear H
   have hnb13 := NB224_225.out
   have hnc13 := NB225_224.out
   have hnb14 := NB224_226.out
   have hnc14 := NB226_224.out
   have hcz15_0 : w6.cell? ⟨gb224, 0, none⟩ = some (.string a0_0) := (blk_cell BK224.out 0).trans rfl
   have hcz15_1 : w6.cell? ⟨gb224, 1, none⟩ = some (.string a0_1) := (blk_cell BK224.out 1).trans rfl
   have hfz15_0 := blk_frozen BK224.out 0
   have hfz15_1 := blk_frozen BK224.out 1
   go_wp2
   go_meet
   case rel => exact ⟨_, (false), (by first | rfl | (simp; done) | (simp [*]; done)), H', ⟨by first | omega | exact Nat.le_refl _⟩, ⟨by (with_reducible repeat (first | refine blk_drewN ?_ _ | refine blk_drew ?_ | refine blk_alloc ?_ _)); exact BK224.out⟩, ⟨by (with_reducible repeat (first | refine blk_drewN ?_ _ | refine blk_drew ?_ | refine blk_alloc ?_ _)); exact BK225.out⟩, ⟨by (with_reducible repeat (first | refine blk_drewN ?_ _ | refine blk_drew ?_ | refine blk_alloc ?_ _)); exact BK226.out⟩, ⟨by repeat (first | (with_reducible first | exact HB.out | apply below_alloc | apply pw_below_drewN | apply below_drew1 | refine below_set ?_ GE224.out | refine below_set ?_ GE225.out | refine below_set ?_ GE226.out) | exact HB.out)⟩⟩
 case rest =>
  clear HC3
  try clear c1
  try clear p2
  try clear c7
  try clear c7b0
  try clear c7b1
  try clear c8
  try clear c9
  try clear c11
  try clear c13
  try clear c14
  try clear hcz10_0
  try clear hcz10_1
  try clear hcz12_0
  try clear hcz12_1
  try clear hcz15_0
  try clear hcz15_1
  try clear hfz10_0
  try clear hfz10_1
  try clear hfz12_0
  try clear hfz12_1
  try clear hfz15_0
  try clear hfz15_1
  obtain ⟨kq, x18_2, rfl, HA, HJ2, BK224, BK225, BK226, HB⟩ := hcut
  cases kq with
  | zero => exact absurd HA.out (by simp [fraction_Add.j0])
  | succ kj2 =>
   have H := HA.out
   clear HA
   simp only [fraction_Add.j0] at H
   by_cases c16 : x18_2 = true
   ·subst c16
    have H1 : ((whole_Add.f kj2 a0_0 a1_0).bind fun t227 => (some (t227, (⟨#[49]⟩ : ByteArray)))) = some (r1, r2) := by rw [if_pos rfl] at H; exact H
    clear H
    have H := H1
    clear H1
    replace H := Option.bind_eq_some_iff.mp H
    obtain ⟨t227, A170, H⟩ := H
    replace H : (some (t227, (⟨#[49]⟩ : ByteArray))) = some (r1, r2) := H
    have A17 := Aside0.mk A170
    clear A170
    simp only [Option.some.injEq, Prod.mk.injEq] at H
    obtain ⟨rfl, rfl⟩ := H
    have hnb18 := NB224_225.out
    have hnc18 := NB225_224.out
    have hnb19 := NB224_226.out
    have hnc19 := NB226_224.out
    have hcz20_0 : wc.cell? ⟨gb224, 0, none⟩ = some (.string a0_0) := (blk_cell BK224.out 0).trans rfl
    have hcz20_1 : wc.cell? ⟨gb224, 1, none⟩ = some (.string a0_1) := (blk_cell BK224.out 1).trans rfl
    have hfz20_0 := blk_frozen BK224.out 0
    have hfz20_1 := blk_frozen BK224.out 1
    have hnb21 := NB225_226.out
    have hnc21 := NB226_225.out
    have hcz22_0 : wc.cell? ⟨gb225, 0, none⟩ = some (.string a1_0) := (blk_cell BK225.out 0).trans rfl
    have hcz22_1 : wc.cell? ⟨gb225, 1, none⟩ = some (.string a1_1) := (blk_cell BK225.out 1).trans rfl
    have hfz22_0 := blk_frozen BK225.out 0
    have hfz22_1 := blk_frozen BK225.out 1
    go_wp2_with (first | ((with_reducible refine gate_callee (f := 121) rfl ?_); refine goesL_ (some 23) rfl rfl Tryz.func121 (by kernel_rfl) rfl #[.string a0_0, .string a1_0] rfl (by (try simp only [List.map_toArray, List.map_cons, List.map_nil]); first | done | rfl | (simp only [List.length_drop, List.length_take]; rfl)) ?_; (with_reducible refine (whole_Add.calls kj2 a0_0 a1_0 t227 _ ?gG A17.out).mono ?_); (case gG => first | exact HG.out | exact GW.below HG.out (by repeat (first | (with_reducible first | exact HB.out | apply below_alloc | apply pw_below_drewN | apply below_drew1 | refine below_set ?_ GE224.out | refine below_set ?_ GE225.out | refine below_set ?_ GE226.out) | exact HB.out))); rintro e w23 ⟨rfl, hb⟩; refine ⟨_, rfl, ?_⟩; have n0_ := Aside0.mk (blk_below (g := gb224) (o := .cells #[.string a0_0, .string a0_1] 103 (0, 0)) (bx BK224.out) hb); have n1_ := Aside0.mk (blk_below (g := gb225) (o := .cells #[.string a1_0, .string a1_1] 103 (0, 0)) (bx BK225.out) hb); have n2_ := Aside0.mk (blk_below (g := gb226) (o := .cells #[.string (⟨#[]⟩ : ByteArray), .string (⟨#[]⟩ : ByteArray)] 103 (0, 0)) (bx BK226.out) hb); have n3_ := Aside0.mk (below_step (by repeat (first | (with_reducible first | exact HB.out | apply below_alloc | apply pw_below_drewN | apply below_drew1 | refine below_set ?_ GE224.out | refine below_set ?_ GE225.out | refine below_set ?_ GE226.out) | exact HB.out)) hb); clear BK224; clear BK225; clear BK226; clear HB; have BK224 := n0_; have BK225 := n1_; have BK226 := n2_; have HB := n3_; clear n0_ n1_ n2_ n3_; (try clear hb); (try clear hb2); (try clear hk); (try clear hi); have hcz24_0 : w23.cell? ⟨gb226, 0, none⟩ = some (.string (⟨#[]⟩ : ByteArray)) := (blk_cell BK226.out 0).trans rfl; have hcz24_1 : w23.cell? ⟨gb226, 1, none⟩ = some (.string (⟨#[]⟩ : ByteArray)) := (blk_cell BK226.out 1).trans rfl; have hfz24_0 := blk_frozen BK226.out 0; have hfz24_1 := blk_frozen BK226.out 1))
    refine bodyPost_ret (results_cell_row rfl _ _ gb226 103 #[.string t227, .string (⟨#[49]⟩ : ByteArray)] (0, 0) _ rfl (by (with_reducible repeat (first | refine blk_drewN ?_ _ | refine blk_drew ?_ | refine blk_alloc ?_ _)); refine blk_put (cs := #[.string t227, .string (⟨#[]⟩ : ByteArray)]) ?_ 1 _ rfl; (with_reducible repeat (first | refine blk_drewN ?_ _ | refine blk_drew ?_ | refine blk_alloc ?_ _)); refine blk_put (cs := #[.string (⟨#[]⟩ : ByteArray), .string (⟨#[]⟩ : ByteArray)]) ?_ 0 _ rfl; (with_reducible repeat (first | refine blk_drewN ?_ _ | refine blk_drew ?_ | refine blk_alloc ?_ _)); exact BK226.out) Tryz.underlying103 rfl (by kernel_rfl)) rfl ?_
    exact ⟨by first | rfl | (simp [errW_none, errW_some] <;> rfl) | (simp [*, errW_none, errW_some] <;> rfl), by repeat (first | (with_reducible first | exact HB.out | apply below_alloc | apply pw_below_drewN | apply below_drew1 | refine below_set ?_ GE224.out | refine below_set ?_ GE225.out | refine below_set ?_ GE226.out) | exact HB.out)⟩
   ·replace c16 := Bool.eq_false_iff.mpr c16
    subst c16
    have H1 : ((fraction_both.f a0_0 a0_1).bind fun bt228 => (if bt228.2.2 = true then ((fraction_both.f a1_0 a1_1).bind fun bt231 => (if bt231.2.2 = true then ((fraction_of.f kj2 (wrap64 ((wrap64 (bt228.1 * bt231.2.1)) + (wrap64 (bt231.1 * bt228.2.1)))) (wrap64 (bt228.2.1 * bt231.2.1))).bind fun bt234 => (some (bt234.1, bt234.2))) else (fraction_Add.j1 kj2 a0_0 a0_1 a1_0 a1_1))) else (fraction_Add.j1 kj2 a0_0 a0_1 a1_0 a1_1))) = some (r1, r2) := by rw [if_neg (show ¬ (false = true) by decide)] at H; exact H
    clear H
    have H := H1
    clear H1
    replace H := Option.bind_eq_some_iff.mp H
    obtain ⟨⟨t228, t229, t230⟩, A250, H⟩ := H
    replace H : (if t230 = true then ((fraction_both.f a1_0 a1_1).bind fun bt231 => (if bt231.2.2 = true then ((fraction_of.f kj2 (wrap64 ((wrap64 (t228 * bt231.2.1)) + (wrap64 (bt231.1 * t229)))) (wrap64 (t229 * bt231.2.1))).bind fun bt234 => (some (bt234.1, bt234.2))) else (fraction_Add.j1 kj2 a0_0 a0_1 a1_0 a1_1))) else (fraction_Add.j1 kj2 a0_0 a0_1 a1_0 a1_1)) = some (r1, r2) := H
    have A25 := Aside0.mk A250
    clear A250
    have HC26 := Aside0.mk H
    clear H
    have hnb27 := NB224_225.out
    have hnc27 := NB225_224.out
    have hnb28 := NB224_226.out
    have hnc28 := NB226_224.out
    have hcz29_0 : wc.cell? ⟨gb224, 0, none⟩ = some (.string a0_0) := (blk_cell BK224.out 0).trans rfl
    have hcz29_1 : wc.cell? ⟨gb224, 1, none⟩ = some (.string a0_1) := (blk_cell BK224.out 1).trans rfl
    have hfz29_0 := blk_frozen BK224.out 0
    have hfz29_1 := blk_frozen BK224.out 1
    go_upto_if 31 with (first | ((with_reducible refine gate_callee (f := 150) rfl ?_); refine goesL_ (some 27) rfl rfl Tryz.func150 (by kernel_rfl) rfl #[.agg #[.string a0_0, .string a0_1]] rfl (by (try simp only [List.map_toArray, List.map_cons, List.map_nil]); first | done | rfl | (simp only [List.length_drop, List.length_take]; rfl)) ?_; (with_reducible refine (fraction_both.calls a0_0 a0_1 t228 t229 t230 _ ?gG A25.out).mono ?_); (case gG => first | exact HG.out | exact GW.below HG.out (by repeat (first | (with_reducible first | exact HB.out | apply below_alloc | apply pw_below_drewN | apply below_drew1 | refine below_set ?_ GE224.out | refine below_set ?_ GE225.out | refine below_set ?_ GE226.out) | exact HB.out))); rintro e w30 ⟨rfl, hb⟩; refine ⟨_, rfl, ?_⟩; have n0_ := Aside0.mk (blk_below (g := gb224) (o := .cells #[.string a0_0, .string a0_1] 103 (0, 0)) (bx BK224.out) hb); have n1_ := Aside0.mk (blk_below (g := gb225) (o := .cells #[.string a1_0, .string a1_1] 103 (0, 0)) (bx BK225.out) hb); have n2_ := Aside0.mk (blk_below (g := gb226) (o := .cells #[.string (⟨#[]⟩ : ByteArray), .string (⟨#[]⟩ : ByteArray)] 103 (0, 0)) (bx BK226.out) hb); have n3_ := Aside0.mk (below_step (by repeat (first | (with_reducible first | exact HB.out | apply below_alloc | apply pw_below_drewN | apply below_drew1 | refine below_set ?_ GE224.out | refine below_set ?_ GE225.out | refine below_set ?_ GE226.out) | exact HB.out)) hb); clear BK224; clear BK225; clear BK226; clear HB; have BK224 := n0_; have BK225 := n1_; have BK226 := n2_; have HB := n3_; clear n0_ n1_ n2_ n3_; (try clear hb); (try clear hb2); (try clear hk); (try clear hi)))
    (try simp only [Act.put, List.setIfInBounds_toArray, List.set_cons_zero, List.set_cons_succ])
    go_cut [] (fun wc => ∃ (kq : Nat) (x227000_25 : ByteArray) (x227001_25 : ByteArray), Aside0 (fraction_Add.j1 kq a0_0 a0_1 a1_0 a1_1 = some (r1, r2)) ∧ Aside0 (kq ≤ kj2) ∧ Aside0 (wc.heap[gb224]? = some (.cells #[.string a0_0, .string a0_1] 103 (0, 0))) ∧ Aside0 (wc.heap[gb225]? = some (.cells #[.string a1_0, .string a1_1] 103 (0, 0))) ∧ Aside0 (wc.heap[gb226]? = some (.cells #[.string x227000_25, .string x227001_25] 103 (0, 0))) ∧ Aside0 (Below w.heap.size w wc))
    case first =>
     have H := HC26.out
     clear HC26
     by_cases c31 : t230 = true
     ·subst c31
      have H1 : ((fraction_both.f a1_0 a1_1).bind fun bt231 => (if bt231.2.2 = true then ((fraction_of.f kj2 (wrap64 ((wrap64 (t228 * bt231.2.1)) + (wrap64 (bt231.1 * t229)))) (wrap64 (t229 * bt231.2.1))).bind fun bt234 => (some (bt234.1, bt234.2))) else (fraction_Add.j1 kj2 a0_0 a0_1 a1_0 a1_1))) = some (r1, r2) := by rw [if_pos rfl] at H; exact H
      clear H
      have H := H1
      clear H1
      replace H := Option.bind_eq_some_iff.mp H
      obtain ⟨⟨t231, t232, t233⟩, A320, H⟩ := H
      replace H : (if t233 = true then ((fraction_of.f kj2 (wrap64 ((wrap64 (t228 * t232)) + (wrap64 (t231 * t229)))) (wrap64 (t229 * t232))).bind fun bt234 => (some (bt234.1, bt234.2))) else (fraction_Add.j1 kj2 a0_0 a0_1 a1_0 a1_1)) = some (r1, r2) := H
      have A32 := Aside0.mk A320
      clear A320
      by_cases c33 : t233 = true
      ·subst c33
       have H1 : ((fraction_of.f kj2 (wrap64 ((wrap64 (t228 * t232)) + (wrap64 (t231 * t229)))) (wrap64 (t229 * t232))).bind fun bt234 => (some (bt234.1, bt234.2))) = some (r1, r2) := by rw [if_pos rfl] at H; exact H
       clear H
       have H := H1
       clear H1
       replace H := Option.bind_eq_some_iff.mp H
       obtain ⟨⟨t234, t235⟩, A340, H⟩ := H
       replace H : (some (t234, t235)) = some (r1, r2) := H
       have A34 := Aside0.mk A340
       clear A340
       simp only [Option.some.injEq, Prod.mk.injEq] at H
       obtain ⟨rfl, rfl⟩ := H
       have hnb35 := NB225_224.out
       have hnc35 := NB224_225.out
       have hnb36 := NB225_226.out
       have hnc36 := NB226_225.out
       have hcz37_0 : w30.cell? ⟨gb225, 0, none⟩ = some (.string a1_0) := (blk_cell BK225.out 0).trans rfl
       have hcz37_1 : w30.cell? ⟨gb225, 1, none⟩ = some (.string a1_1) := (blk_cell BK225.out 1).trans rfl
       have hfz37_0 := blk_frozen BK225.out 0
       have hfz37_1 := blk_frozen BK225.out 1
       go_wp2_with (first | ((with_reducible refine gate_callee (f := 150) rfl ?_); refine goesL_ (some 34) rfl rfl Tryz.func150 (by kernel_rfl) rfl #[.agg #[.string a1_0, .string a1_1]] rfl (by (try simp only [List.map_toArray, List.map_cons, List.map_nil]); first | done | rfl | (simp only [List.length_drop, List.length_take]; rfl)) ?_; (with_reducible refine (fraction_both.calls a1_0 a1_1 t231 t232 true _ ?gG A32.out).mono ?_); (case gG => first | exact HG.out | exact GW.below HG.out (by repeat (first | (with_reducible first | exact HB.out | apply below_alloc | apply pw_below_drewN | apply below_drew1 | refine below_set ?_ GE224.out | refine below_set ?_ GE225.out | refine below_set ?_ GE226.out) | exact HB.out))); rintro e w38 ⟨rfl, hb⟩; refine ⟨_, rfl, ?_⟩; have n0_ := Aside0.mk (blk_below (g := gb224) (o := .cells #[.string a0_0, .string a0_1] 103 (0, 0)) (bx BK224.out) hb); have n1_ := Aside0.mk (blk_below (g := gb225) (o := .cells #[.string a1_0, .string a1_1] 103 (0, 0)) (bx BK225.out) hb); have n2_ := Aside0.mk (blk_below (g := gb226) (o := .cells #[.string (⟨#[]⟩ : ByteArray), .string (⟨#[]⟩ : ByteArray)] 103 (0, 0)) (bx BK226.out) hb); have n3_ := Aside0.mk (below_step (by repeat (first | (with_reducible first | exact HB.out | apply below_alloc | apply pw_below_drewN | apply below_drew1 | refine below_set ?_ GE224.out | refine below_set ?_ GE225.out | refine below_set ?_ GE226.out) | exact HB.out)) hb); clear BK224; clear BK225; clear BK226; clear HB; have BK224 := n0_; have BK225 := n1_; have BK226 := n2_; have HB := n3_; clear n0_ n1_ n2_ n3_; (try clear hb); (try clear hb2); (try clear hk); (try clear hi)) | ((with_reducible refine gate_callee (f := 151) rfl ?_); refine goesL_ (some 49) rfl rfl Tryz.func151 (by kernel_rfl) rfl #[.int .i64 (wrap64 ((wrap64 (t228 * t232)) + (wrap64 (t231 * t229)))), .int .i64 (wrap64 (t229 * t232))] rfl (by (try simp only [List.map_toArray, List.map_cons, List.map_nil]); first | done | rfl | (simp only [List.length_drop, List.length_take]; rfl)) ?_; (with_reducible refine (fraction_of.calls kj2 (wrap64 ((wrap64 (t228 * t232)) + (wrap64 (t231 * t229)))) (wrap64 (t229 * t232)) t234 t235 _ ?gG A34.out).mono ?_); (case gG => first | exact HG.out | exact GW.below HG.out (by repeat (first | (with_reducible first | exact HB.out | apply below_alloc | apply pw_below_drewN | apply below_drew1 | refine below_set ?_ GE224.out | refine below_set ?_ GE225.out | refine below_set ?_ GE226.out) | exact HB.out))); rintro e w39 ⟨rfl, hb⟩; refine ⟨_, rfl, ?_⟩; have n0_ := Aside0.mk (blk_below (g := gb224) (o := .cells #[.string a0_0, .string a0_1] 103 (0, 0)) (bx BK224.out) hb); have n1_ := Aside0.mk (blk_below (g := gb225) (o := .cells #[.string a1_0, .string a1_1] 103 (0, 0)) (bx BK225.out) hb); have n2_ := Aside0.mk (blk_below (g := gb226) (o := .cells #[.string (⟨#[]⟩ : ByteArray), .string (⟨#[]⟩ : ByteArray)] 103 (0, 0)) (bx BK226.out) hb); have n3_ := Aside0.mk (below_step (by repeat (first | (with_reducible first | exact HB.out | apply below_alloc | apply pw_below_drewN | apply below_drew1 | refine below_set ?_ GE224.out | refine below_set ?_ GE225.out | refine below_set ?_ GE226.out) | exact HB.out)) hb); clear BK224; clear BK225; clear BK226; clear HB; have BK224 := n0_; have BK225 := n1_; have BK226 := n2_; have HB := n3_; clear n0_ n1_ n2_ n3_; (try clear hb); (try clear hb2); (try clear hk); (try clear hi); have hnb40 := NB226_224.out; have hnc40 := NB224_226.out; have hcz41_0 : w39.cell? ⟨gb226, 0, none⟩ = some (.string (⟨#[]⟩ : ByteArray)) := (blk_cell BK226.out 0).trans rfl; have hcz41_1 : w39.cell? ⟨gb226, 1, none⟩ = some (.string (⟨#[]⟩ : ByteArray)) := (blk_cell BK226.out 1).trans rfl; have hfz41_0 := blk_frozen BK226.out 0; have hfz41_1 := blk_frozen BK226.out 1))
       refine bodyPost_ret (results_cell_row rfl _ _ gb226 103 #[.string t234, .string t235] (0, 0) _ rfl (by (with_reducible repeat (first | refine blk_drewN ?_ _ | refine blk_drew ?_ | refine blk_alloc ?_ _)); refine blk_put (cs := #[.string t234, .string (⟨#[]⟩ : ByteArray)]) ?_ 1 _ rfl; (with_reducible repeat (first | refine blk_drewN ?_ _ | refine blk_drew ?_ | refine blk_alloc ?_ _)); refine blk_put (cs := #[.string (⟨#[]⟩ : ByteArray), .string (⟨#[]⟩ : ByteArray)]) ?_ 0 _ rfl; (with_reducible repeat (first | refine blk_drewN ?_ _ | refine blk_drew ?_ | refine blk_alloc ?_ _)); exact BK226.out) Tryz.underlying103 rfl (by kernel_rfl)) rfl ?_
       exact ⟨by first | rfl | (simp [errW_none, errW_some] <;> rfl) | (simp [*, errW_none, errW_some] <;> rfl), by repeat (first | (with_reducible first | exact HB.out | apply below_alloc | apply pw_below_drewN | apply below_drew1 | refine below_set ?_ GE224.out | refine below_set ?_ GE225.out | refine below_set ?_ GE226.out) | exact HB.out)⟩
      ·replace c33 := Bool.eq_false_iff.mpr c33
       subst c33
       have H1 : (fraction_Add.j1 kj2 a0_0 a0_1 a1_0 a1_1) = some (r1, r2) := by rw [if_neg (show ¬ (false = true) by decide)] at H; exact H
       clear H
       have H := H1
       clear H1
       have H' := Aside0.mk H
       clear H
       have hnb42 := NB225_224.out
       have hnc42 := NB224_225.out
       have hnb43 := NB225_226.out
       have hnc43 := NB226_225.out
       have hcz44_0 : w30.cell? ⟨gb225, 0, none⟩ = some (.string a1_0) := (blk_cell BK225.out 0).trans rfl
       have hcz44_1 : w30.cell? ⟨gb225, 1, none⟩ = some (.string a1_1) := (blk_cell BK225.out 1).trans rfl
       have hfz44_0 := blk_frozen BK225.out 0
       have hfz44_1 := blk_frozen BK225.out 1
       go_wp2_with (first | ((with_reducible refine gate_callee (f := 150) rfl ?_); refine goesL_ (some 34) rfl rfl Tryz.func150 (by kernel_rfl) rfl #[.agg #[.string a1_0, .string a1_1]] rfl (by (try simp only [List.map_toArray, List.map_cons, List.map_nil]); first | done | rfl | (simp only [List.length_drop, List.length_take]; rfl)) ?_; (with_reducible refine (fraction_both.calls a1_0 a1_1 t231 t232 false _ ?gG A32.out).mono ?_); (case gG => first | exact HG.out | exact GW.below HG.out (by repeat (first | (with_reducible first | exact HB.out | apply below_alloc | apply pw_below_drewN | apply below_drew1 | refine below_set ?_ GE224.out | refine below_set ?_ GE225.out | refine below_set ?_ GE226.out) | exact HB.out))); rintro e w45 ⟨rfl, hb⟩; refine ⟨_, rfl, ?_⟩; have n0_ := Aside0.mk (blk_below (g := gb224) (o := .cells #[.string a0_0, .string a0_1] 103 (0, 0)) (bx BK224.out) hb); have n1_ := Aside0.mk (blk_below (g := gb225) (o := .cells #[.string a1_0, .string a1_1] 103 (0, 0)) (bx BK225.out) hb); have n2_ := Aside0.mk (blk_below (g := gb226) (o := .cells #[.string (⟨#[]⟩ : ByteArray), .string (⟨#[]⟩ : ByteArray)] 103 (0, 0)) (bx BK226.out) hb); have n3_ := Aside0.mk (below_step (by repeat (first | (with_reducible first | exact HB.out | apply below_alloc | apply pw_below_drewN | apply below_drew1 | refine below_set ?_ GE224.out | refine below_set ?_ GE225.out | refine below_set ?_ GE226.out) | exact HB.out)) hb); clear BK224; clear BK225; clear BK226; clear HB; have BK224 := n0_; have BK225 := n1_; have BK226 := n2_; have HB := n3_; clear n0_ n1_ n2_ n3_; (try clear hb); (try clear hb2); (try clear hk); (try clear hi)))
       go_meet
       case rel => exact ⟨_, ((⟨#[]⟩ : ByteArray)), ((⟨#[]⟩ : ByteArray)), H', ⟨by have := HJ2.out; first | omega | exact Nat.le_refl _⟩, ⟨by (with_reducible repeat (first | refine blk_drewN ?_ _ | refine blk_drew ?_ | refine blk_alloc ?_ _)); exact BK224.out⟩, ⟨by (with_reducible repeat (first | refine blk_drewN ?_ _ | refine blk_drew ?_ | refine blk_alloc ?_ _)); exact BK225.out⟩, ⟨by (with_reducible repeat (first | refine blk_drewN ?_ _ | refine blk_drew ?_ | refine blk_alloc ?_ _)); exact BK226.out⟩, ⟨by repeat (first | (with_reducible first | exact HB.out | apply below_alloc | apply pw_below_drewN | apply below_drew1 | refine below_set ?_ GE224.out | refine below_set ?_ GE225.out | refine below_set ?_ GE226.out) | exact HB.out)⟩⟩
     ·replace c31 := Bool.eq_false_iff.mpr c31
      subst c31
      have H1 : (fraction_Add.j1 kj2 a0_0 a0_1 a1_0 a1_1) = some (r1, r2) := by rw [if_neg (show ¬ (false = true) by decide)] at H; exact H
      clear H
      have H := H1
      clear H1
      have H' := Aside0.mk H
      clear H
      go_wp2
      go_meet
      case rel => exact ⟨_, ((⟨#[]⟩ : ByteArray)), ((⟨#[]⟩ : ByteArray)), H', ⟨by have := HJ2.out; first | omega | exact Nat.le_refl _⟩, ⟨by (with_reducible repeat (first | refine blk_drewN ?_ _ | refine blk_drew ?_ | refine blk_alloc ?_ _)); exact BK224.out⟩, ⟨by (with_reducible repeat (first | refine blk_drewN ?_ _ | refine blk_drew ?_ | refine blk_alloc ?_ _)); exact BK225.out⟩, ⟨by (with_reducible repeat (first | refine blk_drewN ?_ _ | refine blk_drew ?_ | refine blk_alloc ?_ _)); exact BK226.out⟩, ⟨by repeat (first | (with_reducible first | exact HB.out | apply below_alloc | apply pw_below_drewN | apply below_drew1 | refine below_set ?_ GE224.out | refine below_set ?_ GE225.out | refine below_set ?_ GE226.out) | exact HB.out)⟩⟩
    case rest =>
     clear HC26
     try clear c1
     try clear c2
     try clear p2
     try clear c3
     try clear c4
     try clear p6
     try clear c7
     try clear c7b0
     try clear c7b1
     try clear c8
     try clear c9
     try clear c11
     try clear c12
     try clear c13
     try clear c14
     try clear c15
     try clear c16
     try clear c18
     try clear c19
     try clear c21
     try clear c27
     try clear c28
     try clear c31
     try clear c33
     try clear c35
     try clear c36
     try clear c40
     try clear c42
     try clear c43
     try clear hcz10_0
     try clear hcz10_1
     try clear hcz12_0
     try clear hcz12_1
     try clear hcz15_0
     try clear hcz15_1
     try clear hcz20_0
     try clear hcz20_1
     try clear hcz22_0
     try clear hcz22_1
     try clear hcz24_0
     try clear hcz24_1
     try clear hcz29_0
     try clear hcz29_1
     try clear hcz37_0
     try clear hcz37_1
     try clear hcz41_0
     try clear hcz41_1
     try clear hcz44_0
     try clear hcz44_1
     try clear hfz10_0
     try clear hfz10_1
     try clear hfz12_0
     try clear hfz12_1
     try clear hfz15_0
     try clear hfz15_1
     try clear hfz20_0
     try clear hfz20_1
     try clear hfz22_0
     try clear hfz22_1
     try clear hfz24_0
     try clear hfz24_1
     try clear hfz29_0
     try clear hfz29_1
     try clear hfz37_0
     try clear hfz37_1
     try clear hfz41_0
     try clear hfz41_1
     try clear hfz44_0
     try clear hfz44_1
     try clear p2
     obtain ⟨kq, x227000_25, x227001_25, HA, HJ25, BK224, BK225, BK226, HB⟩ := hcut
     cases kq with
     | zero => exact absurd HA.out (by simp [fraction_Add.j1])
     | succ kj25 =>
      have H := HA.out
      clear HA
      simp only [fraction_Add.j1] at H
      replace H := Option.bind_eq_some_iff.mp H
      obtain ⟨t236, A460, H⟩ := H
      replace H : ((whole_Mul.f kj25 a1_0 a0_1).bind fun t237 => ((whole_Add.f kj25 t236 t237).bind fun t238 => ((whole_Mul.f kj25 a0_1 a1_1).bind fun t239 => ((fraction_lowest.f kj25 t238 t239).bind fun bt240 => (some (bt240.1, bt240.2)))))) = some (r1, r2) := H
      have A46 := Aside0.mk A460
      clear A460
      replace H := Option.bind_eq_some_iff.mp H
      obtain ⟨t237, A470, H⟩ := H
      replace H : ((whole_Add.f kj25 t236 t237).bind fun t238 => ((whole_Mul.f kj25 a0_1 a1_1).bind fun t239 => ((fraction_lowest.f kj25 t238 t239).bind fun bt240 => (some (bt240.1, bt240.2))))) = some (r1, r2) := H
      have A47 := Aside0.mk A470
      clear A470
      replace H := Option.bind_eq_some_iff.mp H
      obtain ⟨t238, A480, H⟩ := H
      replace H : ((whole_Mul.f kj25 a0_1 a1_1).bind fun t239 => ((fraction_lowest.f kj25 t238 t239).bind fun bt240 => (some (bt240.1, bt240.2)))) = some (r1, r2) := H
      have A48 := Aside0.mk A480
      clear A480
      replace H := Option.bind_eq_some_iff.mp H
      obtain ⟨t239, A490, H⟩ := H
      replace H : ((fraction_lowest.f kj25 t238 t239).bind fun bt240 => (some (bt240.1, bt240.2))) = some (r1, r2) := H
      have A49 := Aside0.mk A490
      clear A490
      replace H := Option.bind_eq_some_iff.mp H
      obtain ⟨⟨t240, t241⟩, A500, H⟩ := H
      replace H : (some (t240, t241)) = some (r1, r2) := H
      have A50 := Aside0.mk A500
      clear A500
      simp only [Option.some.injEq, Prod.mk.injEq] at H
      obtain ⟨rfl, rfl⟩ := H
      try go_wp2
      have n0_ := Aside0.mk (blk_drew BK224.out)
      have n1_ := Aside0.mk (blk_drew BK225.out)
      have n2_ := Aside0.mk (blk_drew BK226.out)
      have n3_ := Aside0.mk (below_drew1 HB.out)
      clear BK224
      clear BK225
      clear BK226
      clear HB
      have BK224 := n0_
      have BK225 := n1_
      have BK226 := n2_
      have HB := n3_
      clear n0_ n1_ n2_ n3_
      refine start_ (n := 18) (S := fun w' => w'.cell? ⟨gb224, 0, none⟩ = some (.string a0_0) ∧ w'.cell? ⟨gb224, 1, none⟩ = some (.string a0_1) ∧ w'.cell? ⟨gb225, 0, none⟩ = some (.string a1_0) ∧ w'.cell? ⟨gb225, 1, none⟩ = some (.string a1_1)) (ds := []) #[false, false, false, false, false, false, false, false, false, false, false, false, false, false, false, false, false, false] (by kernel_rfl) rfl rfl ⟨(blk_cell BK224.out 0).trans rfl, (blk_cell BK224.out 1).trans rfl, (blk_cell BK225.out 0).trans rfl, (blk_cell BK225.out 1).trans rfl⟩ (fun hHeld => ?_); refine with_tabW fraction_Add.tab8 fraction_Add.bits8 (fun HT_ HW_ => ?_)
      generalize wc.drew = w51 at BK224 BK225 BK226 HB hHeld ⊢
      refine pure_ (i := 0) (N := some 50) (v := ?_) (a' := ?_) #[true, false, false, false, false, false, false, false, false, false, false, false, false, false, false, false, false, false] rfl rfl (any_of HT_.out (by kernel_rfl)) (fun _ _ _ h => h) (Or.inl ⟨by rfl, ?_⟩) ?_ ?_
      rotate_left
      ·intro w'
       go_simp
       with_reducible rfl
      rotate_left
      ·simp only [Act.put, List.setIfInBounds_toArray, List.set_cons_zero, List.set_cons_succ, i64_w, i32_w]
       rfl
      refine pure_ (i := 2) (N := some 52) (v := ?_) (a' := ?_) #[true, false, true, false, false, false, false, false, false, false, false, false, false, false, false, false, false, false] rfl rfl (any_of HT_.out (by kernel_rfl)) (fun _ _ _ h => h) (Or.inl ⟨by rfl, ?_⟩) ?_ ?_
      rotate_left
      ·intro w'
       go_simp
       with_reducible rfl
      rotate_left
      ·simp only [Act.put, List.setIfInBounds_toArray, List.set_cons_zero, List.set_cons_succ, i64_w, i32_w]
       rfl
      refine pure_ (i := 5) (N := some 55) (v := ?_) (a' := ?_) #[true, false, true, false, false, true, false, false, false, false, false, false, false, false, false, false, false, false] rfl rfl (any_of HT_.out (by kernel_rfl)) (fun _ _ _ h => h) (Or.inl ⟨by rfl, ?_⟩) ?_ ?_
      rotate_left
      ·intro w'
       go_simp
       with_reducible rfl
      rotate_left
      ·simp only [Act.put, List.setIfInBounds_toArray, List.set_cons_zero, List.set_cons_succ, i64_w, i32_w]
       rfl
      refine pure_ (i := 7) (N := some 57) (v := ?_) (a' := ?_) #[true, false, true, false, false, true, false, true, false, false, false, false, false, false, false, false, false, false] rfl rfl (any_of HT_.out (by kernel_rfl)) (fun _ _ _ h => h) (Or.inl ⟨by rfl, ?_⟩) ?_ ?_
      rotate_left
      ·intro w'
       go_simp
       with_reducible rfl
      rotate_left
      ·simp only [Act.put, List.setIfInBounds_toArray, List.set_cons_zero, List.set_cons_succ, i64_w, i32_w]
       rfl
      refine pure_ (i := 11) (N := some 61) (v := ?_) (a' := ?_) #[true, false, true, false, false, true, false, true, false, false, false, true, false, false, false, false, false, false] rfl rfl (any_of HT_.out (by kernel_rfl)) (fun _ _ _ h => h) (Or.inl ⟨by rfl, ?_⟩) ?_ ?_
      rotate_left
      ·intro w'
       go_simp
       with_reducible rfl
      rotate_left
      ·simp only [Act.put, List.setIfInBounds_toArray, List.set_cons_zero, List.set_cons_succ, i64_w, i32_w]
       rfl
      refine pure_ (i := 13) (N := some 63) (v := ?_) (a' := ?_) #[true, false, true, false, false, true, false, true, false, false, false, true, false, true, false, false, false, false] rfl rfl (any_of HT_.out (by kernel_rfl)) (fun _ _ _ h => h) (Or.inl ⟨by rfl, ?_⟩) ?_ ?_
      rotate_left
      ·intro w'
       go_simp
       with_reducible rfl
      rotate_left
      ·simp only [Act.put, List.setIfInBounds_toArray, List.set_cons_zero, List.set_cons_succ, i64_w, i32_w]
       rfl
      refine take_ (i := 1) (N := some 51) (v := ?_) (a' := ?_) #[true, true, true, false, false, true, false, true, false, false, false, true, false, true, false, false, false, false] rfl rfl (take_ofW HT_.out HW_.out (by kernel_rfl)) (fun _ _ _ h => h) (Or.inl ⟨by rfl, ?_⟩) hHeld ?_ ?_
      rotate_left
      ·rintro w' ⟨s0, s1, s2, s3⟩
       go_simp
       with_reducible rfl
      rotate_left
      ·simp only [Act.put, List.setIfInBounds_toArray, List.set_cons_zero, List.set_cons_succ, i64_w, i32_w]
       rfl
      refine take_ (i := 3) (N := some 53) (v := ?_) (a' := ?_) #[true, true, true, true, false, true, false, true, false, false, false, true, false, true, false, false, false, false] rfl rfl (take_ofW HT_.out HW_.out (by kernel_rfl)) (fun _ _ _ h => h) (Or.inl ⟨by rfl, ?_⟩) hHeld ?_ ?_
      rotate_left
      ·rintro w' ⟨s0, s1, s2, s3⟩
       go_simp
       with_reducible rfl
      rotate_left
      ·simp only [Act.put, List.setIfInBounds_toArray, List.set_cons_zero, List.set_cons_succ, i64_w, i32_w]
       rfl
      refine take_ (i := 6) (N := some 56) (v := ?_) (a' := ?_) #[true, true, true, true, false, true, true, true, false, false, false, true, false, true, false, false, false, false] rfl rfl (take_ofW HT_.out HW_.out (by kernel_rfl)) (fun _ _ _ h => h) (Or.inl ⟨by rfl, ?_⟩) hHeld ?_ ?_
      rotate_left
      ·rintro w' ⟨s0, s1, s2, s3⟩
       go_simp
       with_reducible rfl
      rotate_left
      ·simp only [Act.put, List.setIfInBounds_toArray, List.set_cons_zero, List.set_cons_succ, i64_w, i32_w]
       rfl
      refine take_ (i := 8) (N := some 58) (v := ?_) (a' := ?_) #[true, true, true, true, false, true, true, true, true, false, false, true, false, true, false, false, false, false] rfl rfl (take_ofW HT_.out HW_.out (by kernel_rfl)) (fun _ _ _ h => h) (Or.inl ⟨by rfl, ?_⟩) hHeld ?_ ?_
      rotate_left
      ·rintro w' ⟨s0, s1, s2, s3⟩
       go_simp
       with_reducible rfl
      rotate_left
      ·simp only [Act.put, List.setIfInBounds_toArray, List.set_cons_zero, List.set_cons_succ, i64_w, i32_w]
       rfl
      refine take_ (i := 12) (N := some 62) (v := ?_) (a' := ?_) #[true, true, true, true, false, true, true, true, true, false, false, true, true, true, false, false, false, false] rfl rfl (take_ofW HT_.out HW_.out (by kernel_rfl)) (fun _ _ _ h => h) (Or.inl ⟨by rfl, ?_⟩) hHeld ?_ ?_
      rotate_left
      ·rintro w' ⟨s0, s1, s2, s3⟩
       go_simp
       with_reducible rfl
      rotate_left
      ·simp only [Act.put, List.setIfInBounds_toArray, List.set_cons_zero, List.set_cons_succ, i64_w, i32_w]
       rfl
      refine take_ (i := 14) (N := some 64) (v := ?_) (a' := ?_) #[true, true, true, true, false, true, true, true, true, false, false, true, true, true, true, false, false, false] rfl rfl (take_ofW HT_.out HW_.out (by kernel_rfl)) (fun _ _ _ h => h) (Or.inl ⟨by rfl, ?_⟩) hHeld ?_ ?_
      rotate_left
      ·rintro w' ⟨s0, s1, s2, s3⟩
       go_simp
       with_reducible rfl
      rotate_left
      ·simp only [Act.put, List.setIfInBounds_toArray, List.set_cons_zero, List.set_cons_succ, i64_w, i32_w]
       rfl
      refine one_ (i := 4) (N := some 54) #[true, true, true, true, true, true, true, true, true, false, false, true, true, true, true, false, false, false] rfl rfl (one_of HT_.out (by kernel_rfl)) (by decide) (fun K hK => ?_)
      refine goes_ Tryz.func77 (by kernel_rfl) rfl #[.string a0_0, .string a1_1] (by rfl) rfl rfl (by (try simp only [List.map_toArray, List.map_cons, List.map_nil]); first | done | rfl | (simp only [List.length_drop, List.length_take]; rfl)) ?_
      with_reducible refine (whole_Mul.calls kj25 a0_0 a1_1 t236 _ ?gG A46.out).mono ?_
      (case gG => exact gw HG.out HB.out)
      rintro e w52 ⟨rfl, hb⟩
      refine ⟨_, rfl, ?_⟩
      have n0_ := Aside0.mk (blk_below (g := gb224) (o := .cells #[.string a0_0, .string a0_1] 103 (0, 0)) (bx BK224.out) hb)
      have n1_ := Aside0.mk (blk_below (g := gb225) (o := .cells #[.string a1_0, .string a1_1] 103 (0, 0)) (bx BK225.out) hb)
      have n2_ := Aside0.mk (blk_below (g := gb226) (o := .cells #[.string x227000_25, .string x227001_25] 103 (0, 0)) (bx BK226.out) hb)
      have n3_ := Aside0.mk (below_step (by repeat (first | (with_reducible first | exact HB.out | apply below_alloc | apply pw_below_drewN | apply below_drew1 | refine below_set ?_ GE224.out | refine below_set ?_ GE225.out | refine below_set ?_ GE226.out) | exact HB.out)) hb)
      clear BK224
      clear BK225
      clear BK226
      clear HB
      have BK224 := n0_
      have BK225 := n1_
      have BK226 := n2_
      have HB := n3_
      clear n0_ n1_ n2_ n3_
      (try clear hb)
      (try clear hb2)
      (try clear hk)
      (try clear hi)
      refine hK.out _ _ ⟨(blk_cell BK224.out 0).trans rfl, (blk_cell BK224.out 1).trans rfl, (blk_cell BK225.out 0).trans rfl, (blk_cell BK225.out 1).trans rfl⟩ (fun hHeld => ?_)
      clear hK K
      refine norm_ (a' := ?_) ?_ ?_
      rotate_left
      ·show Act.put _ (some 54) _ = _
       simp only [Act.put, List.setIfInBounds_toArray, List.set_cons_zero, List.set_cons_succ, i64_w, i32_w]
       rfl
      refine one_ (i := 9) (N := some 59) #[true, true, true, true, true, true, true, true, true, true, false, true, true, true, true, false, false, false] rfl rfl (one_of HT_.out (by kernel_rfl)) (by decide) (fun K hK => ?_)
      refine goes_ Tryz.func77 (by kernel_rfl) rfl #[.string a1_0, .string a0_1] (by rfl) rfl rfl (by (try simp only [List.map_toArray, List.map_cons, List.map_nil]); first | done | rfl | (simp only [List.length_drop, List.length_take]; rfl)) ?_
      with_reducible refine (whole_Mul.calls kj25 a1_0 a0_1 t237 _ ?gG A47.out).mono ?_
      (case gG => exact gw HG.out HB.out)
      rintro e w53 ⟨rfl, hb⟩
      refine ⟨_, rfl, ?_⟩
      have n0_ := Aside0.mk (blk_below (g := gb224) (o := .cells #[.string a0_0, .string a0_1] 103 (0, 0)) (bx BK224.out) hb)
      have n1_ := Aside0.mk (blk_below (g := gb225) (o := .cells #[.string a1_0, .string a1_1] 103 (0, 0)) (bx BK225.out) hb)
      have n2_ := Aside0.mk (blk_below (g := gb226) (o := .cells #[.string x227000_25, .string x227001_25] 103 (0, 0)) (bx BK226.out) hb)
      have n3_ := Aside0.mk (below_step (by repeat (first | (with_reducible first | exact HB.out | apply below_alloc | apply pw_below_drewN | apply below_drew1 | refine below_set ?_ GE224.out | refine below_set ?_ GE225.out | refine below_set ?_ GE226.out) | exact HB.out)) hb)
      clear BK224
      clear BK225
      clear BK226
      clear HB
      have BK224 := n0_
      have BK225 := n1_
      have BK226 := n2_
      have HB := n3_
      clear n0_ n1_ n2_ n3_
      (try clear hb)
      (try clear hb2)
      (try clear hk)
      (try clear hi)
      refine hK.out _ _ ⟨(blk_cell BK224.out 0).trans rfl, (blk_cell BK224.out 1).trans rfl, (blk_cell BK225.out 0).trans rfl, (blk_cell BK225.out 1).trans rfl⟩ (fun hHeld => ?_)
      clear hK K
      refine norm_ (a' := ?_) ?_ ?_
      rotate_left
      ·show Act.put _ (some 59) _ = _
       simp only [Act.put, List.setIfInBounds_toArray, List.set_cons_zero, List.set_cons_succ, i64_w, i32_w]
       rfl
      refine one_ (i := 10) (N := some 60) #[true, true, true, true, true, true, true, true, true, true, true, true, true, true, true, false, false, false] rfl rfl (one_of HT_.out (by kernel_rfl)) (by decide) (fun K hK => ?_)
      refine goes_ Tryz.func121 (by kernel_rfl) rfl #[.string t236, .string t237] (by rfl) rfl rfl (by (try simp only [List.map_toArray, List.map_cons, List.map_nil]); first | done | rfl | (simp only [List.length_drop, List.length_take]; rfl)) ?_
      with_reducible refine (whole_Add.calls kj25 t236 t237 t238 _ ?gG A48.out).mono ?_
      (case gG => exact gw HG.out HB.out)
      rintro e w54 ⟨rfl, hb⟩
      refine ⟨_, rfl, ?_⟩
      have n0_ := Aside0.mk (blk_below (g := gb224) (o := .cells #[.string a0_0, .string a0_1] 103 (0, 0)) (bx BK224.out) hb)
      have n1_ := Aside0.mk (blk_below (g := gb225) (o := .cells #[.string a1_0, .string a1_1] 103 (0, 0)) (bx BK225.out) hb)
      have n2_ := Aside0.mk (blk_below (g := gb226) (o := .cells #[.string x227000_25, .string x227001_25] 103 (0, 0)) (bx BK226.out) hb)
      have n3_ := Aside0.mk (below_step (by repeat (first | (with_reducible first | exact HB.out | apply below_alloc | apply pw_below_drewN | apply below_drew1 | refine below_set ?_ GE224.out | refine below_set ?_ GE225.out | refine below_set ?_ GE226.out) | exact HB.out)) hb)
      clear BK224
      clear BK225
      clear BK226
      clear HB
      have BK224 := n0_
      have BK225 := n1_
      have BK226 := n2_
      have HB := n3_
      clear n0_ n1_ n2_ n3_
      (try clear hb)
      (try clear hb2)
      (try clear hk)
      (try clear hi)
      refine hK.out _ _ ⟨(blk_cell BK224.out 0).trans rfl, (blk_cell BK224.out 1).trans rfl, (blk_cell BK225.out 0).trans rfl, (blk_cell BK225.out 1).trans rfl⟩ (fun hHeld => ?_)
      clear hK K
      refine norm_ (a' := ?_) ?_ ?_
      rotate_left
      ·show Act.put _ (some 60) _ = _
       simp only [Act.put, List.setIfInBounds_toArray, List.set_cons_zero, List.set_cons_succ, i64_w, i32_w]
       rfl
      refine one_ (i := 15) (N := some 65) #[true, true, true, true, true, true, true, true, true, true, true, true, true, true, true, true, false, false] rfl rfl (one_of HT_.out (by kernel_rfl)) (by decide) (fun K hK => ?_)
      refine goes_ Tryz.func77 (by kernel_rfl) rfl #[.string a0_1, .string a1_1] (by rfl) rfl rfl (by (try simp only [List.map_toArray, List.map_cons, List.map_nil]); first | done | rfl | (simp only [List.length_drop, List.length_take]; rfl)) ?_
      with_reducible refine (whole_Mul.calls kj25 a0_1 a1_1 t239 _ ?gG A49.out).mono ?_
      (case gG => exact gw HG.out HB.out)
      rintro e w55 ⟨rfl, hb⟩
      refine ⟨_, rfl, ?_⟩
      have n0_ := Aside0.mk (blk_below (g := gb224) (o := .cells #[.string a0_0, .string a0_1] 103 (0, 0)) (bx BK224.out) hb)
      have n1_ := Aside0.mk (blk_below (g := gb225) (o := .cells #[.string a1_0, .string a1_1] 103 (0, 0)) (bx BK225.out) hb)
      have n2_ := Aside0.mk (blk_below (g := gb226) (o := .cells #[.string x227000_25, .string x227001_25] 103 (0, 0)) (bx BK226.out) hb)
      have n3_ := Aside0.mk (below_step (by repeat (first | (with_reducible first | exact HB.out | apply below_alloc | apply pw_below_drewN | apply below_drew1 | refine below_set ?_ GE224.out | refine below_set ?_ GE225.out | refine below_set ?_ GE226.out) | exact HB.out)) hb)
      clear BK224
      clear BK225
      clear BK226
      clear HB
      have BK224 := n0_
      have BK225 := n1_
      have BK226 := n2_
      have HB := n3_
      clear n0_ n1_ n2_ n3_
      (try clear hb)
      (try clear hb2)
      (try clear hk)
      (try clear hi)
      refine hK.out _ _ ⟨(blk_cell BK224.out 0).trans rfl, (blk_cell BK224.out 1).trans rfl, (blk_cell BK225.out 0).trans rfl, (blk_cell BK225.out 1).trans rfl⟩ (fun hHeld => ?_)
      clear hK K
      refine norm_ (a' := ?_) ?_ ?_
      rotate_left
      ·show Act.put _ (some 65) _ = _
       simp only [Act.put, List.setIfInBounds_toArray, List.set_cons_zero, List.set_cons_succ, i64_w, i32_w]
       rfl
      refine one_ (i := 16) (N := some 66) #[true, true, true, true, true, true, true, true, true, true, true, true, true, true, true, true, true, false] rfl rfl (one_of HT_.out (by kernel_rfl)) (by decide) (fun K hK => ?_)
      refine goes_ Tryz.func152 (by kernel_rfl) rfl #[.string t238, .string t239] (by rfl) rfl rfl (by (try simp only [List.map_toArray, List.map_cons, List.map_nil]); first | done | rfl | (simp only [List.length_drop, List.length_take]; rfl)) ?_
      with_reducible refine (fraction_lowest.calls kj25 t238 t239 t240 t241 _ ?gG A50.out).mono ?_
      (case gG => exact gw HG.out HB.out)
      rintro e w56 ⟨rfl, hb⟩
      refine ⟨_, rfl, ?_⟩
      have n0_ := Aside0.mk (blk_below (g := gb224) (o := .cells #[.string a0_0, .string a0_1] 103 (0, 0)) (bx BK224.out) hb)
      have n1_ := Aside0.mk (blk_below (g := gb225) (o := .cells #[.string a1_0, .string a1_1] 103 (0, 0)) (bx BK225.out) hb)
      have n2_ := Aside0.mk (blk_below (g := gb226) (o := .cells #[.string x227000_25, .string x227001_25] 103 (0, 0)) (bx BK226.out) hb)
      have n3_ := Aside0.mk (below_step (by repeat (first | (with_reducible first | exact HB.out | apply below_alloc | apply pw_below_drewN | apply below_drew1 | refine below_set ?_ GE224.out | refine below_set ?_ GE225.out | refine below_set ?_ GE226.out) | exact HB.out)) hb)
      clear BK224
      clear BK225
      clear BK226
      clear HB
      have BK224 := n0_
      have BK225 := n1_
      have BK226 := n2_
      have HB := n3_
      clear n0_ n1_ n2_ n3_
      (try clear hb)
      (try clear hb2)
      (try clear hk)
      (try clear hi)
      refine hK.out _ _ ⟨(blk_cell BK224.out 0).trans rfl, (blk_cell BK224.out 1).trans rfl, (blk_cell BK225.out 0).trans rfl, (blk_cell BK225.out 1).trans rfl⟩ (fun hHeld => ?_)
      clear hK K
      refine norm_ (a' := ?_) ?_ ?_
      rotate_left
      ·show Act.put _ (some 66) _ = _
       simp only [Act.put, List.setIfInBounds_toArray, List.set_cons_zero, List.set_cons_succ, i64_w, i32_w]
       rfl
      refine one_ (i := 17) (N := none) #[true, true, true, true, true, true, true, true, true, true, true, true, true, true, true, true, true, true] rfl rfl (one_of HT_.out (by kernel_rfl)) (by decide) (fun K hK => ?_)
      have hs57 : w56.cell? ⟨gb226, 0, none⟩ = some (.string x227000_25) := (blk_cell BK226.out 0).trans rfl
      have hfs57 := blk_frozen BK226.out 0
      have hns57_0 := NB224_226.out
      have hns57_1 := NB225_226.out
      have hms57_0 := NB226_224.out
      have hms57_1 := NB226_225.out
      have hs58 : w56.cell? ⟨gb226, 1, none⟩ = some (.string x227001_25) := (blk_cell BK226.out 1).trans rfl
      have hfs58 := blk_frozen BK226.out 1
      have hns58_0 := NB224_226.out
      have hns58_1 := NB225_226.out
      have hms58_0 := NB226_224.out
      have hms58_1 := NB226_225.out
      refine skip_ (w1 := ?_) (by rfl) rfl ?_ ?_
      rotate_left
      ·go_simp
       rfl
      refine hK.out _ _ ⟨((cell_far (p := ⟨gb226, _, none⟩) NB224_226.out _).trans (((cell_far (p := ⟨gb226, _, none⟩) NB224_226.out _).trans (hHeld.1)))), ((cell_far (p := ⟨gb226, _, none⟩) NB224_226.out _).trans (((cell_far (p := ⟨gb226, _, none⟩) NB224_226.out _).trans (hHeld.2.1)))), ((cell_far (p := ⟨gb226, _, none⟩) NB225_226.out _).trans (((cell_far (p := ⟨gb226, _, none⟩) NB225_226.out _).trans (hHeld.2.2.1)))), ((cell_far (p := ⟨gb226, _, none⟩) NB225_226.out _).trans (((cell_far (p := ⟨gb226, _, none⟩) NB225_226.out _).trans (hHeld.2.2.2))))⟩ (fun hHeld => ?_)
      clear hK K
      refine done_ (done_of HT_.out (by kernel_rfl)) ?_
      try go_wp2
      refine bodyPost_ret (results_cell_row rfl _ _ gb226 103 #[.string t240, .string t241] (0, 0) _ rfl (by (with_reducible repeat (first | refine blk_drewN ?_ _ | refine blk_drew ?_ | refine blk_alloc ?_ _)); refine blk_put (cs := #[.string t240, .string x227001_25]) ?_ 1 _ rfl; (with_reducible repeat (first | refine blk_drewN ?_ _ | refine blk_drew ?_ | refine blk_alloc ?_ _)); refine blk_put (cs := #[.string x227000_25, .string x227001_25]) ?_ 0 _ rfl; (with_reducible repeat (first | refine blk_drewN ?_ _ | refine blk_drew ?_ | refine blk_alloc ?_ _)); exact BK226.out) Tryz.underlying103 rfl (by kernel_rfl)) rfl ?_
      exact ⟨by first | rfl | (simp [errW_none, errW_some] <;> rfl) | (simp [*, errW_none, errW_some] <;> rfl), by repeat (first | (with_reducible first | exact HB.out | apply below_alloc | apply pw_below_drewN | apply below_drew1 | refine below_set ?_ GE224.out | refine below_set ?_ GE225.out | refine below_set ?_ GE226.out) | exact HB.out)⟩
end Go.Proofs.YtegffolimjiioaaGreatDoor.PB
