/- table.Determinant, table.Rank -/
import Derived.Test.YtegffolimjiioaaGreatDoorZX0
import Derived.Test.YtegffolimjiioaaGreatDoorZPBx0
import Derived.Test.YtegffolimjiioaaGreatDoorZHq
import Derived.Test.YtegffolimjiioaaGreatDoorZGw
import Derived.Test.YtegffolimjiioaaGreatDoorZHk
import Derived.Test.YtegffolimjiioaaGreatDoorZPBx2
import Derived.Test.YtegffolimjiioaaGreatDoorZPBx11
namespace Go.Proofs.YtegffolimjiioaaGreatDoor.PB
open Go.RowKit Go.Proofs.YtegffolimjiioaaGreatDoorW.PrintWords Go.Proofs.YtegffolimjiioaaGreatDoorW.PrintLast Go.Proofs.YtegffolimjiioaaGreatDoorW.PrintMore
set_option linter.unusedVariables false
set_option linter.unusedSimpArgs false
def ratsV (m : List (List Int)) : List (List S103) := rowsV (fun _ => []) m m.length
def colsM (m : List (List Int)) : Nat := (m.headD []).length
theorem columns_f (m : List (List Int)) : table_Columns.f m = some (colsM m : Int) := by
 unfold table_Columns.f colsM
 cases m with
 | nil => simp
 | cons r l => simp [rd_L1]; omega
theorem checkRows_ok {c : Nat} : ∀ (m : List (List Int)), checkRows c m = 0 → ∀ r ∈ m, r.length ≤ 12 ∧ r.length = c ∧ ∀ n ∈ r, -1000000000 ≤ n ∧ n ≤ 1000000000
 | [], _, r, hr => by simp at hr
 | r0 :: rest, h, r, hr => by
  unfold checkRows at h
  by_cases h1 : 12 < r0.length
  ·rw [if_pos h1] at h; exact absurd h (by decide)
  rw [if_neg h1] at h
  by_cases h2 : r0.length ≠ c
  ·rw [if_pos h2] at h; exact absurd h (by decide)
  rw [if_neg h2] at h
  by_cases h3 : r0.any greatB = true
  ·rw [if_pos h3] at h; exact absurd h (by decide)
  rw [if_neg h3] at h
  rcases List.mem_cons.1 hr with rfl | hr
  ·refine ⟨by omega, by omega, fun n hn => ?_⟩
   have h4 : greatB n = false := by
    cases hg : greatB n with
    | false => rfl
    | true => exact absurd (List.any_eq_true.2 ⟨n, hn, hg⟩) h3
   simp [greatB] at h4
   omega
  ·exact checkRows_ok rest h r hr
theorem checkM_ok {m : List (List Int)} (h : checkM m = 0) : m.length ≤ 12 ∧ ∀ r ∈ m, r.length ≤ 12 ∧ r.length = colsM m ∧ ∀ n ∈ r, -1000000000 ≤ n ∧ n ≤ 1000000000 := by
 unfold checkM at h
 by_cases h1 : 12 < m.length
 ·simp [h1] at h
 ·rw [if_neg h1] at h
  exact ⟨by omega, checkRows_ok m h⟩
set_option maxRecDepth 100000 in
theorem nothing_call (n : Int) (w : World) : Calls Tryz.prog 95 #[.int .i64 n] w fun e w' => ∃ v, e = .returned v ∧ Kd.R k103 103 w' w.heap.size (fun _ => True) v [] ∧ Below w.heap.size w w' := by
 go_enter Tryz.func95, Tryz.ntmps95
 go_wp2
 go_ret
 exact ⟨_, rfl, Kd.R_nil _ _ _ _ _, Below.refl _ _⟩
theorem rats_call (A0 : Option Addr) (c0 : Nat) (m : List (List Int)) (w : World) (hr0 : Kd.C (Kd.slice 3 (Kd.int .i64)) w A0 m.length m) (hc0 : m.length ≤ c0) (hG : GW w) (hm : checkM m = 0) :
  Calls Tryz.prog 94 #[.slice A0 m.length c0, .func (.func 95) #[] #[]] w fun e w' => ∃ v : Value, e = .returned v ∧ Kd.S (Kd.slice 103 k103) 39 w' w.heap.size (fun _ => True) v (ratsV m) ∧ Below w.heap.size w w' := by
 obtain ⟨h1, h2⟩ := checkM_ok hm
 refine table_rows.calls 95 #[] (fun _ => []) A0 c0 m w hr0 hc0 hG (fun i W hi hb => ?_) Tryz.f95 Tryz.func95 (by kernel_rfl) rfl (by omega) (fun i hi => ?_) (fun r hr n hn => ?_)
 ·exact nothing_call _ _
 ·rw [List.getD_eq_getElem?_getD, List.getElem?_eq_getElem hi]
  exact ⟨by have := (h2 m[i] (List.getElem_mem _)).1; simp; omega, by simp⟩
 ·have := (h2 r hr).2.2 n hn
  simp [in64]; omega
def table_Determinant.f (k : Nat) (m : List (List Int)) : Option (ByteArray × Int) :=
 if checkM m = 0 then (if 0 < m.length ∧ colsM m ≠ m.length then some (⟨#[]⟩, 5) else (table_reduce.f k (ratsV m) (m.length : Int)).bind fun t => some (t.2.1, 0)) else some (⟨#[]⟩, checkM m)
set_option maxRecDepth 100000 in
theorem table_Determinant.calls (k : Nat) (A0 : Option Addr) (c0 : Nat) (l0 : List (List Int)) (r1 : ByteArray) (r2 : Int) (w : World) (hr0 : Kd.C (Kd.slice 3 (Kd.int .i64)) w A0 l0.length l0) (hc0 : l0.length ≤ c0) (hG : GW w) (h : table_Determinant.f k l0 = some (r1, r2)) :
  Calls Tryz.prog 26 #[.slice A0 l0.length c0] w fun e w' => e = .returned (.tuple #[.string r1, .int .i64 r2]) ∧ Below w.heap.size w w' := by
 have HG := Aside0.mk hG
 have HR0 := Aside0.mk hr0
 have HC0 := Aside0.mk hc0
 clear hG hr0 hc0
 unfold table_Determinant.f at h
 go_enter Tryz.func26, Tryz.ntmps26
 by_cases c1 : checkM l0 = 0
 ·rw [if_pos c1] at h
  by_cases c2 : 0 < l0.length ∧ colsM l0 ≠ l0.length
  ·rw [if_pos c2] at h
   obtain ⟨rfl, rfl⟩ : (⟨#[]⟩ : ByteArray) = r1 ∧ (5 : Int) = r2 := by simpa using h
   obtain ⟨c2, c3⟩ := c2
   have HCk := Aside0.mk (show table_Check.f l0 = some 0 from by rw [table_Check.f, c1])
   have c3b : ((colsM l0 : Int) != (l0.length : Int)) = true := by simp; omega
   go_wp2_with (first | (go_at_call 70; (refine (table_Check.calls A0 c0 l0 0 _ (by repeat (first | (with_reducible exact HR0.out) | (with_reducible refine Kd.C_drewN ?_ _) | (with_reducible refine Kd.C_drew ?_) | exact HR0.out)) HC0.out HCk.out).mono ?_); rintro e w1 ⟨rfl, hb⟩; have HR1 := Aside0.mk (Kd.C_below HR0.out hb); have HB := Aside0.mk hb; clear hb) | (go_at_call 72; (refine (table_Columns.calls A0 c0 l0 (colsM l0 : Int) _ HR1.out HC0.out (columns_f l0)).mono ?_); rintro e w2 ⟨rfl, ⟨nd, rfl⟩⟩))
   go_ret2
   exact ⟨rfl, by repeat (first | (with_reducible first | exact HB.out | apply below_alloc | apply pw_below_drewN | apply below_drew1) | exact HB.out)⟩
  ·rw [if_neg c2] at h
   obtain ⟨⟨tl, tn, td, tm⟩, hA, h⟩ := Option.bind_eq_some_iff.mp h
   obtain ⟨rfl, rfl⟩ : tn = r1 ∧ (0 : Int) = r2 := by simpa using h
   have HA := Aside0.mk hA
   have HCk1 := Aside0.mk c1
   have HCk := Aside0.mk (show table_Check.f l0 = some 0 from by rw [table_Check.f, c1])
   clear hA h c1
   by_cases c3 : 0 < l0.length
   ·have c3b : ((colsM l0 : Int) != (l0.length : Int)) = false := by
     have : colsM l0 = l0.length := by
      rcases Nat.lt_trichotomy (colsM l0) l0.length with h | h | h
      ·exact absurd ⟨c3, by omega⟩ c2
      ·exact h
      ·exact absurd ⟨c3, by omega⟩ c2
     simp [this]
    clear c2
    go_wp2_with (first | (go_at_call 70; (refine (table_Check.calls A0 c0 l0 0 _ (by repeat (first | (with_reducible exact HR0.out) | (with_reducible refine Kd.C_drewN ?_ _) | (with_reducible refine Kd.C_drew ?_) | exact HR0.out)) HC0.out HCk.out).mono ?_); rintro e w1 ⟨rfl, hb⟩; have HR1 := Aside0.mk (Kd.C_below HR0.out hb); have HB := Aside0.mk hb; clear hb) | (go_at_call 72; (refine (table_Columns.calls A0 c0 l0 (colsM l0 : Int) _ HR1.out HC0.out (columns_f l0)).mono ?_); rintro e w2 ⟨rfl, ⟨nd, rfl⟩⟩) | (go_at_call 94; (refine (rats_call A0 c0 l0 _ (by repeat (first | (with_reducible exact HR1.out) | (with_reducible refine Kd.C_drewN ?_ _) | (with_reducible refine Kd.C_drew ?_) | exact HR1.out)) HC0.out (GW.below HG.out (bl HB.out)) HCk1.out).mono ?_); rintro e w3 ⟨vr, rfl, hS, hb⟩; have HS := Aside0.mk (Kd.S_lower hS (below_size (bl HB.out))); have HB2 := Aside0.mk (below_step (bl HB.out) hb); clear HB hS hb; have HB := HB2; clear HB2) | (go_at_call 93; (refine (table_reduce.calls k (fun _ => True) vr (ratsV l0) (l0.length : Int) tl tn td tm w _ (bl HB.out) (sx HS.out) HG.out HA.out).mono ?_); rintro e w4 ⟨vl, rfl, hl, _, hb, _⟩; have HL := Aside0.mk hl; clear HB hl; have HB := Aside0.mk hb; clear hb))
    go_ret2
    exact ⟨rfl, by repeat (first | (with_reducible first | exact HB.out | apply below_alloc | apply pw_below_drewN | apply below_drew1) | exact HB.out)⟩
   ·clear c2
    go_wp2_with (first | (go_at_call 70; (refine (table_Check.calls A0 c0 l0 0 _ (by repeat (first | (with_reducible exact HR0.out) | (with_reducible refine Kd.C_drewN ?_ _) | (with_reducible refine Kd.C_drew ?_) | exact HR0.out)) HC0.out HCk.out).mono ?_); rintro e w1 ⟨rfl, hb⟩; have HR1 := Aside0.mk (Kd.C_below HR0.out hb); have HB := Aside0.mk hb; clear hb) | (go_at_call 72; (refine (table_Columns.calls A0 c0 l0 (colsM l0 : Int) _ HR1.out HC0.out (columns_f l0)).mono ?_); rintro e w2 ⟨rfl, ⟨nd, rfl⟩⟩) | (go_at_call 94; (refine (rats_call A0 c0 l0 _ (by repeat (first | (with_reducible exact HR1.out) | (with_reducible refine Kd.C_drewN ?_ _) | (with_reducible refine Kd.C_drew ?_) | exact HR1.out)) HC0.out (GW.below HG.out (bl HB.out)) HCk1.out).mono ?_); rintro e w3 ⟨vr, rfl, hS, hb⟩; have HS := Aside0.mk (Kd.S_lower hS (below_size (bl HB.out))); have HB2 := Aside0.mk (below_step (bl HB.out) hb); clear HB hS hb; have HB := HB2; clear HB2) | (go_at_call 93; (refine (table_reduce.calls k (fun _ => True) vr (ratsV l0) (l0.length : Int) tl tn td tm w _ (bl HB.out) (sx HS.out) HG.out HA.out).mono ?_); rintro e w4 ⟨vl, rfl, hl, _, hb, _⟩; have HL := Aside0.mk hl; clear HB hl; have HB := Aside0.mk hb; clear hb))
    go_ret2
    exact ⟨rfl, by repeat (first | (with_reducible first | exact HB.out | apply below_alloc | apply pw_below_drewN | apply below_drew1) | exact HB.out)⟩
 ·rw [if_neg c1] at h
  obtain ⟨rfl, rfl⟩ : (⟨#[]⟩ : ByteArray) = r1 ∧ checkM l0 = r2 := by simpa using h
  have HCk := Aside0.mk (show table_Check.f l0 = some (checkM l0) from rfl)
  go_wp2_with (first | (go_at_call 70; (refine (table_Check.calls A0 c0 l0 (checkM l0) _ (by repeat (first | (with_reducible exact HR0.out) | (with_reducible refine Kd.C_drewN ?_ _) | (with_reducible refine Kd.C_drew ?_) | exact HR0.out)) HC0.out HCk.out).mono ?_); rintro e w1 ⟨rfl, hb⟩; have HR1 := Aside0.mk (Kd.C_below HR0.out hb); have HB := Aside0.mk hb; clear hb))
  go_ret2
  exact ⟨rfl, by repeat (first | (with_reducible first | exact HB.out | apply below_alloc | apply pw_below_drewN | apply below_drew1) | exact HB.out)⟩
end Go.Proofs.YtegffolimjiioaaGreatDoor.PB
