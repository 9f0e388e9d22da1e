/- table.Inverse and table.Solve -/
import Derived.Test.YtegffolimjiioaaGreatDoorZX0
import Derived.Test.YtegffolimjiioaaGreatDoorZPBx0
import Derived.Test.YtegffolimjiioaaGreatDoorZHq
import Derived.Test.YtegffolimjiioaaGreatDoorZGw
import Derived.Test.YtegffolimjiioaaGreatDoorZHr
import Derived.Test.YtegffolimjiioaaGreatDoorZHx
import Derived.Test.YtegffolimjiioaaGreatDoorZHk
import Derived.Test.YtegffolimjiioaaGreatDoorZPBx2
import Derived.Test.YtegffolimjiioaaGreatDoorZPBx11
namespace Go.Proofs.YtegffolimjiioaaGreatDoor.PB
open Go.RowKit Go.Proofs.YtegffolimjiioaaGreatDoorW.PrintWords Go.Proofs.YtegffolimjiioaaGreatDoorW.PrintLast Go.Proofs.YtegffolimjiioaaGreatDoorW.PrintMore
set_option linter.unusedVariables false
set_option linter.unusedSimpArgs false
theorem clone_cut (A : Addr) (m c : Nat) (row : List S103) (w : World) (hm : m ≤ row.length) (hc : row.length ≤ c) (hn : row.length ≤ 1000) (hr : Kd.C k103 w (some A) row.length row) :
  Calls Tryz.prog 100 #[.slice (if c = m then some A else some (A.add (m * 2))) (row.length - m) (c - m)] w fun e w' => ∃ v, e = .returned v ∧ Kd.R k103 103 w' w.heap.size (fun _ => True) v (row.drop m) ∧ Below w.heap.size w w' := by
 have hd := Kd.C_drop (c := c) hr hm hc
 have hl : (row.drop m).length = row.length - m := List.length_drop
 rw [← hl]
 have hl2 : (row.drop m).length ≤ 1000 := by omega
 by_cases h : c = m
 ·rw [if_pos h] at hd ⊢
  exact clone_call A (c - m) (row.drop m) w hl2 hd
 ·rw [if_neg h] at hd ⊢
  exact clone_call (A.add (m * 2)) (c - m) (row.drop m) w hl2 hd
def rightOk (n : Nat) (m : List (List S103)) : Bool := m.all fun r => decide (n ≤ r.length) && decide (r.length ≤ 1000)
def table_Inverse.f (k : Nat) (m : List (List Int)) : Option (List (List S103) × Int) :=
 if checkM m = 0 then (if 0 < m.length ∧ colsM m ≠ m.length then some ([], 5) else (table_reduce.f k (rowsV (fun i => unitV m.length i) m m.length) (m.length : Int)).bind fun t =>
  if t.1.length < m.length then some ([], 18) else if rightOk m.length t.2.2.2 = true ∧ t.2.2.2.length = m.length then some (t.2.2.2.map (·.drop m.length), 0) else none) else some ([], checkM m)
theorem rowsI_call (A0 : Option Addr) (c0 : Nat) (m : List (List Int)) (b : Nat) (w : World) (hr0 : Kd.C (Kd.slice 3 (Kd.int .i64)) w A0 m.length m) (hc0 : m.length ≤ c0) (hG : GW w) (hm : checkM m = 0) (hb : w.cell? ⟨b, 0, none⟩ = some (.int .i64 m.length)) :
  Calls Tryz.prog 94 #[.slice A0 m.length c0, .func (.func 96) #[] #[.pointer (some ⟨b, 0, none⟩)]] w fun e w' => ∃ v : Value, e = .returned v ∧ Kd.S (Kd.slice 103 k103) 39 w' w.heap.size (fun _ => True) v (rowsV (fun i => unitV m.length i) m m.length) ∧ Below w.heap.size w w' := by
 obtain ⟨h1, h2⟩ := checkM_ok hm
 refine table_rows.calls 96 #[.pointer (some ⟨b, 0, none⟩)] (fun i => unitV m.length i) A0 c0 m w hr0 hc0 hG (fun i W hi hb1 => ?_) Tryz.f96 Tryz.func96 (by kernel_rfl) rfl (by omega) (fun i hi => ?_) (fun r hr n hn => ?_)
 ·exact inv_call m.length i b W (by omega) hi ((hb1.cell (World.block_lt_of_cell? _ _ hb)).trans hb)
 ·rw [List.getD_eq_getElem?_getD, List.getElem?_eq_getElem hi]
  exact ⟨by have := (h2 m[i] (List.getElem_mem _)).1; simp; omega, by simp [unitV]; omega⟩
 ·have := (h2 r hr).2.2 n hn
  simp [in64]; omega
set_option maxHeartbeats 8000000 in
set_option maxRecDepth 100000 in
theorem table_Inverse.calls (k : Nat) (A0 : Option Addr) (c0 : Nat) (l0 : List (List Int)) (r1 : List (List S103)) (r2 : Int) (w : World) (hr0 : Kd.C (Kd.slice 3 (Kd.int .i64)) w A0 l0.length l0) (hc0 : l0.length ≤ c0) (hG : GW w) (h : table_Inverse.f k l0 = some (r1, r2)) :
  Calls Tryz.prog 27 #[.slice A0 l0.length c0] w fun e w' => ∃ v0_ : Value, e = .returned (.tuple #[v0_, .int .i64 r2]) ∧ Kd.S (Kd.slice 103 k103) 39 w' w.heap.size (fun _ => True) v0_ r1 ∧ Below w.heap.size w w' := by
 have HG := Aside0.mk hG
 have HR0 := Aside0.mk hr0
 have HC0 := Aside0.mk hc0
 clear hG hr0 hc0
 unfold table_Inverse.f at h
 go_enter Tryz.func27, Tryz.ntmps27
 by_cases c1 : checkM l0 = 0
 ·rw [if_pos c1] at h
  have HCk1 := Aside0.mk c1
  have HCk := Aside0.mk (show table_Check.f l0 = some 0 from by rw [table_Check.f, c1])
  clear c1
  go_wp2_with (first | (go_at_call 70; (refine (table_Check.calls A0 c0 l0 0 _ (by repeat (first | (with_reducible exact HR0.out) | (with_reducible refine Kd.C_drewN ?_ _) | (with_reducible refine Kd.C_drew ?_) | exact HR0.out)) HC0.out HCk.out).mono ?_); rintro e w1 ⟨rfl, hb⟩; have HR1 := Aside0.mk (Kd.C_below HR0.out hb); have HB := Aside0.mk hb; clear hb))
  obtain ⟨g5, hg5⟩ : ∃ g, g = w1.heap.size := ⟨_, rfl⟩
  obtain ⟨W5, hW5⟩ : ∃ W, W = w1.alloc (.cells #[.int .i64 l0.length] 3) := ⟨_, rfl⟩
  have hx5 : W5.cell? ⟨g5, 0, none⟩ = some (.int .i64 l0.length) := by rw [hW5, hg5]; exact blk_cell (heap_alloc_new _ _) 0
  rw [← hg5, ← hW5]
  have HR5 := Aside0.mk (show Kd.C (Kd.slice 3 (Kd.int .i64)) W5 A0 l0.length l0 from by rw [hW5]; exact Kd.C_alloc HR1.out _)
  have HB5 := Aside0.mk (show Below w.heap.size w W5 from by rw [hW5]; exact below_alloc HB.out _)
  clear HB HR1 hW5 hg5
  by_cases c2 : 0 < l0.length ∧ colsM l0 ≠ l0.length
  ·rw [if_pos c2] at h
   obtain ⟨rfl, rfl⟩ : ([] : List (List S103)) = r1 ∧ (5 : Int) = r2 := by simpa using h
   obtain ⟨c2, c3⟩ := c2
   have c3b : ((colsM l0 : Int) != (l0.length : Int)) = true := by simp; omega
   have c2b : decide ((l0.length : Int) > 0) = true := decide_eq_true (by omega)
   go_region_with (first | (go_at_call 72; (refine (table_Columns.calls A0 c0 l0 (colsM l0 : Int) _ (by repeat (first | (with_reducible exact HR5.out) | (with_reducible refine Kd.C_drewN ?_ _) | (with_reducible refine Kd.C_drew ?_) | exact HR5.out)) HC0.out (columns_f l0)).mono ?_); rintro e w2 ⟨rfl, ⟨nd, rfl⟩⟩))
   all_goals go_wp2
   all_goals go_ret2
   all_goals exact ⟨_, rfl, Kd.S_nil _ _ _ _ _, (bl HB5.out)⟩
  ·rw [if_neg c2] at h
   obtain ⟨⟨tl, tn, td, tm⟩, hA, h⟩ := Option.bind_eq_some_iff.mp h
   have HA := Aside0.mk hA
   clear hA
   have c3b : l0.length ≠ 0 → ((colsM l0 : Int) != (l0.length : Int)) = false := by
    intro h0
    have : colsM l0 = l0.length := by
     rcases Nat.lt_trichotomy (colsM l0) l0.length with h | h | h
     ·exact absurd ⟨by omega, by omega⟩ c2
     ·exact h
     ·exact absurd ⟨by omega, by omega⟩ c2
    simp [this]
   have HC3 := Aside0.mk c3b
   clear c2 c3b
   have HGW5 := Aside0.mk (GW.below HG.out HB5.out)
   have HB6 := Aside0.mk (Below.refl W5.heap.size W5)
   have HX5 := Aside0.mk hx5
   rcases Nat.eq_zero_or_pos l0.length with c2 | c2
   ·have c2b : decide ((l0.length : Int) > 0) = false := decide_eq_false (by omega)
    have c2n : (0 < l0.length) = False := eq_false (by omega)
    have c2m : ((0 : Int) < (l0.length : Int)) = False := eq_false (by omega)
    have c2d : decide (0 < l0.length) = false := decide_eq_false (by omega)
    have HC2 := Aside0.mk c2
    clear c2
    go_region
    all_goals clear hx5
    all_goals go_wp2_with (first | (go_at_call 94; (refine (rowsI_call A0 c0 l0 g5 _ (by repeat (first | (with_reducible exact HR5.out) | (with_reducible refine Kd.C_drewN ?_ _) | (with_reducible refine Kd.C_drew ?_) | exact HR5.out)) HC0.out (GW.below HG.out (bl HB5.out)) HCk1.out (((show Below W5.heap.size W5 _ from by repeat (first | (with_reducible first | exact HB6.out | apply below_alloc | apply pw_below_drewN | apply below_drew1) | exact HB6.out)).cell (World.block_lt_of_cell? _ _ HX5.out)).trans HX5.out)).mono ?_); rintro e w3 ⟨vr, rfl, hS, hb⟩; have HS := Aside0.mk (Kd.S_lower hS (below_size (show Below W5.heap.size W5 _ from (bl HB6.out)))); have HB7 := Aside0.mk (below_step (show Below W5.heap.size W5 _ from (bl HB6.out)) hb); have hx6 := (HB7.out.cell (World.block_lt_of_cell? _ _ HX5.out)).trans HX5.out; clear hS hb; obtain ⟨Ar, cr, er⟩ := Kd.S_slice HS.out; subst er) | (go_at_call 93; (refine (table_reduce.calls k (fun _ => True) _ _ (l0.length : Int) tl tn td tm W5 _ (bl HB7.out) (sx HS.out) HGW5.out HA.out).mono ?_); rintro e w4 ⟨vl, rfl, hl, hs4, hb, _⟩; have HL := Aside0.mk hl; have HS4 := Aside0.mk hs4; have HB8 := Aside0.mk hb; have hx7 := (hb.cell (World.block_lt_of_cell? _ _ HX5.out)).trans HX5.out; have hx8 : ∀ o, (w4.alloc o).cell? ⟨g5, 0, none⟩ = some (.int .i64 l0.length) := fun o => ((below_alloc (Below.refl w4.heap.size w4) o).cell (World.block_lt_of_cell? _ _ hx7)).trans hx7; clear hl hs4 hb hx6; obtain ⟨Al, cl, el⟩ := Kd.R_slice HL.out; subst el))
    all_goals try (rename_i h4; have h5 := h; rw [if_pos h4] at h5; (obtain ⟨rfl, rfl⟩ : ([] : List (List S103)) = r1 ∧ (18 : Int) = r2 := by simpa using h5); go_ret2; exact ⟨_, rfl, Kd.S_nil _ _ _ _ _, below_alloc (below_step HB5.out HB8.out) _⟩)
    all_goals (
     have h5 := h
     rw [if_neg (show ¬ tl.length < l0.length by omega)] at h5
     by_cases c6 : ¬ (rightOk l0.length tm = true ∧ tm.length = l0.length)
     ·rw [if_neg c6] at h5; simp at h5
     replace c6 := Decidable.not_not.1 c6
     rw [if_pos c6] at h5
     obtain ⟨rfl, rfl⟩ : tm.map (·.drop l0.length) = r1 ∧ (0 : Int) = r2 := by simpa using h5
     obtain ⟨c6, c7⟩ := c6
     obtain ⟨W8, hW8⟩ : ∃ W, W = w4.alloc (.cells #[.string tn, .string td] 103) := ⟨_, rfl⟩
     have HX9 := Aside0.mk (show W8.cell? ⟨g5, 0, none⟩ = some (.int .i64 l0.length) from by rw [hW8]; exact hx8 _)
     have HS8 := Aside0.mk (show Kd.S (Kd.slice 103 k103) 39 W8 W5.heap.size _ _ tm from by rw [hW8]; exact Kd.S_alloc HS4.out _)
     have HB9 := Aside0.mk (show Below w.heap.size w W8 from by rw [hW8]; exact below_alloc (below_step HB5.out HB8.out) _)
     rw [← hW8]
     obtain ⟨hn1, hn2, hC⟩ := Kd.S_reads' HS8.out
     rw [hn1]
     try rw [show decide (tl.length < l0.length) = false from decide_eq_false (by omega)]
     have HC8 := Aside0.mk hC
     have HC6 := Aside0.mk c6
     have HC7 := Aside0.mk c7
     clear hC HS8 hn1 hn2 hW8 hx7 hx8 HS4 HL h5 h c6 c7
     go_loopg [9, 42] (tm.length + 1) (fun kq v9 v42 w' => ∃ (j : Nat), v42 = .int .i64 j ∧ Aside0 (j ≤ tm.length) ∧ Aside0 (tm.length - j + 1 ≤ kq) ∧ Aside0 (Kd.S (Kd.slice 103 k103) 39 w' W8.heap.size (fun _ => True) v9 ((tm.take j).map (·.drop l0.length))) ∧ Aside0 (Below W8.heap.size W8 w'))
     case atStart => exact ⟨0, rfl, ⟨Nat.zero_le _⟩, ⟨by omega⟩, ⟨Kd.S_nil _ _ _ _ _⟩, ⟨Below.refl _ _⟩⟩
     case round =>
      obtain ⟨j, rfl, HJ1, HJ2, HO, HB⟩ := hrel
      by_cases cj : j < tm.length
      ·obtain ⟨ad1, A1, c1, e1, hx1, hl1, hi1⟩ := at_L4 HC8.out (j : Int) (by omega) (by omega)
       cases e1
       replace hx1 := (HB.out.cell (World.block_lt_of_cell? W8 _ hx1)).trans hx1
       simp only [Int.toNat_natCast] at hx1
       obtain ⟨row, hrow⟩ : ∃ r, r = rd_L4 tm (j : Int) := ⟨_, rfl⟩
       rw [← hrow] at hx1 hl1 hi1
       have hrow2 : row = tm[j] := by rw [hrow]; simp [rd_L4, List.getD_eq_getElem?_getD, List.getElem?_eq_getElem cj]
       have hro : l0.length ≤ row.length ∧ row.length ≤ 1000 := by
        have := List.all_eq_true.1 HC6.out row (by rw [hrow2]; exact List.getElem_mem _)
        simpa using this
       have hx10 := (HB.out.cell (World.block_lt_of_cell? W8 _ HX9.out)).trans HX9.out
       obtain ⟨k1, rfl⟩ : ∃ k1, gk = k1 + 1 := ⟨gk - 1, by have := HJ2.out; omega⟩
       obtain ⟨ad2, ea2, _, _⟩ := at_T103 hi1 0 (by omega) (by have := HC7.out; omega)
       cases ea2
       have HRW := Aside0.mk hrow2
       have HI1 := Aside0.mk hi1
       have HCJ := Aside0.mk cj
       have hro1 := hro.1
       have HRO := Aside0.mk hro
       clear hrow hrow2 hi1 hro
       obtain ⟨rwd, hrwd⟩ : ∃ r, r = row.drop l0.length := ⟨_, rfl⟩
       have HRD := Aside0.mk hrwd
       clear hrwd
       have HN := Aside0.mk (show (tm.take (j + 1)).map (·.drop l0.length) = (tm.take j).map (·.drop l0.length) ++ [rwd] from by rw [List.take_succ_eq_append_getElem cj, List.map_append, HRD.out, HRW.out]; rfl)
       have htm : tm.length ≤ 1000 := by have := (checkM_ok HCk1.out).1; have := HC7.out; omega
       have HNl := Aside0.mk (show ((tm.take j).map (·.drop l0.length)).length ≤ 1000 from by rw [List.length_map, List.length_take]; have := (checkM_ok HCk1.out).1; have := HC7.out; omega)
       go_wp2_with (first | (go_at_call 100; (refine (clone_cut ad2 l0.length c1 row _ hro1 hl1 HRO.out.2 (Kd.C_below HI1.out HB.out)).mono ?_); rintro e w9 ⟨vc, rfl, hR, hb⟩; rw [← HRD.out] at hR; have n0_ := Aside0.mk (Kd.S_elder' (v := vc) HO.out (Kd.R_base hR) hb); have HL := Aside0.mk (Kd.R_lower hR (below_size HB.out)); have n2_ := Aside0.mk (below_step HB.out hb); clear HO HB hR hb hx10; have HO := n0_; have HB := n2_; clear n0_ n2_; obtain ⟨Ao, co, eo⟩ := Kd.R_slice HL.out; subst eo) | ((with_reducible refine gate_builtin (b := .append) (xs := #[.tmp 46, .tmp 51]) rfl ?_); at_builtin; refine Kd.S_append (Kd.slice 103 k103) (w0 := W8) W8.heap.size rfl (.tmp 46) (.tmp 51) 30 39 (.slice none 0 0) 24 rfl Tryz.underlying30 info39 rfl (by decide) (by omega) u9 ((tm.take j).map (·.drop l0.length)) rwd [.slice Ao rwd.length co] (fun _ => True) (fun k_ => some k_ = (.slice Ao rwd.length co : Value).ownBlock) rfl rfl ?aP (fun k_ hk_ => ((Kd.R_mono (ok' := fun k_ => ((fun _ => True)) k_ ∧ some k_ ≠ (u9 : Value).ownBlock) (Kd.R_apart' (HL.out) (Kd.S_typed HO.out) (by decide)) (fun k_ hk => ⟨trivial, hk.2⟩))).1 k_ hk_.symm) ?aF ?aO ?aB ?aS ?aL ?_; (case aP => exact Kd.M_row (Kd.R_mono (Kd.R_tight rfl (Kd.R_mono (ok' := fun k_ => ((fun _ => True)) k_ ∧ some k_ ≠ (u9 : Value).ownBlock) (Kd.R_apart' (HL.out) (Kd.S_typed HO.out) (by decide)) (fun k_ hk => ⟨trivial, hk.2⟩))) (fun _ h_ => h_))); (case aB => exact (bl HB.out)); (case aF => exact (fun _ _ => trivial)); (case aO => exact (by (with_reducible repeat (first | apply Kd.S_alloc | apply Kd.S_drewN | apply Kd.S_drew)); exact Kd.S_mono HO.out (fun k_ hk => ⟨trivial, fun e_ => hk.2 e_⟩))); (case aS => exact (below_size (bl HB.out))); (case aL => have := HNl.out; omega); intro v750 w12 ho hb hg hat; rw [← HN.out] at ho; have n0_ := Aside0.mk (hb); have n1_ := Aside0.mk (ho); clear HB HO HL; have HB := n0_; have HO := n1_; clear n0_ n1_; clear ho hb hg hat))
       all_goals (
        go_roundg k1
        case measure => exact Nat.lt_succ_self _
        case rel => exact ⟨j + 1, by go_num, ⟨by have := HCJ.out; omega⟩, ⟨by have := HJ2.out; have := HCJ.out; omega⟩, ⟨by (with_reducible repeat (first | apply Kd.S_alloc | apply Kd.S_drewN | apply Kd.S_drew)); exact HO.out⟩, ⟨(bl HB.out)⟩⟩)
      ·obtain rfl : j = tm.length := by have := HJ1.out; omega
       rw [List.take_length] at HO
       go_wp2
       go_ret2
       exact ⟨_, rfl, Kd.S_lower HO.out (below_size HB9.out), below_step HB9.out HB.out⟩)
   ·have c2b : decide ((l0.length : Int) > 0) = true := decide_eq_true (by omega)
    have c3b := HC3.out (by omega)
    go_region_with (first | (go_at_call 72; (refine (table_Columns.calls A0 c0 l0 (colsM l0 : Int) _ (by repeat (first | (with_reducible exact HR5.out) | (with_reducible refine Kd.C_drewN ?_ _) | (with_reducible refine Kd.C_drew ?_) | exact HR5.out)) HC0.out (columns_f l0)).mono ?_); rintro e w2 ⟨rfl, ⟨nd, rfl⟩⟩))
    all_goals clear hx5
    all_goals go_wp2_with (first | (go_at_call 94; (refine (rowsI_call A0 c0 l0 g5 _ (by repeat (first | (with_reducible exact HR5.out) | (with_reducible refine Kd.C_drewN ?_ _) | (with_reducible refine Kd.C_drew ?_) | exact HR5.out)) HC0.out (GW.below HG.out (bl HB5.out)) HCk1.out (((show Below W5.heap.size W5 _ from by repeat (first | (with_reducible first | exact HB6.out | apply below_alloc | apply pw_below_drewN | apply below_drew1) | exact HB6.out)).cell (World.block_lt_of_cell? _ _ HX5.out)).trans HX5.out)).mono ?_); rintro e w3 ⟨vr, rfl, hS, hb⟩; have HS := Aside0.mk (Kd.S_lower hS (below_size (show Below W5.heap.size W5 _ from (bl HB6.out)))); have HB7 := Aside0.mk (below_step (show Below W5.heap.size W5 _ from (bl HB6.out)) hb); have hx6 := (HB7.out.cell (World.block_lt_of_cell? _ _ HX5.out)).trans HX5.out; clear hS hb; obtain ⟨Ar, cr, er⟩ := Kd.S_slice HS.out; subst er) | (go_at_call 93; (refine (table_reduce.calls k (fun _ => True) _ _ (l0.length : Int) tl tn td tm W5 _ (bl HB7.out) (sx HS.out) HGW5.out HA.out).mono ?_); rintro e w4 ⟨vl, rfl, hl, hs4, hb, _⟩; have HL := Aside0.mk hl; have HS4 := Aside0.mk hs4; have HB8 := Aside0.mk hb; have hx7 := (hb.cell (World.block_lt_of_cell? _ _ HX5.out)).trans HX5.out; have hx8 : ∀ o, (w4.alloc o).cell? ⟨g5, 0, none⟩ = some (.int .i64 l0.length) := fun o => ((below_alloc (Below.refl w4.heap.size w4) o).cell (World.block_lt_of_cell? _ _ hx7)).trans hx7; clear hl hs4 hb hx6; obtain ⟨Al, cl, el⟩ := Kd.R_slice HL.out; subst el))
    all_goals try (rename_i h4; have h5 := h; rw [if_pos h4] at h5; (obtain ⟨rfl, rfl⟩ : ([] : List (List S103)) = r1 ∧ (18 : Int) = r2 := by simpa using h5); go_ret2; exact ⟨_, rfl, Kd.S_nil _ _ _ _ _, below_alloc (below_step HB5.out HB8.out) _⟩)
    all_goals (
     have h5 := h
     rw [if_neg (show ¬ tl.length < l0.length by omega)] at h5
     by_cases c6 : ¬ (rightOk l0.length tm = true ∧ tm.length = l0.length)
     ·rw [if_neg c6] at h5; simp at h5
     replace c6 := Decidable.not_not.1 c6
     rw [if_pos c6] at h5
     obtain ⟨rfl, rfl⟩ : tm.map (·.drop l0.length) = r1 ∧ (0 : Int) = r2 := by simpa using h5
     obtain ⟨c6, c7⟩ := c6
     obtain ⟨W8, hW8⟩ : ∃ W, W = w4.alloc (.cells #[.string tn, .string td] 103) := ⟨_, rfl⟩
     have HX9 := Aside0.mk (show W8.cell? ⟨g5, 0, none⟩ = some (.int .i64 l0.length) from by rw [hW8]; exact hx8 _)
     have HS8 := Aside0.mk (show Kd.S (Kd.slice 103 k103) 39 W8 W5.heap.size _ _ tm from by rw [hW8]; exact Kd.S_alloc HS4.out _)
     have HB9 := Aside0.mk (show Below w.heap.size w W8 from by rw [hW8]; exact below_alloc (below_step HB5.out HB8.out) _)
     rw [← hW8]
     obtain ⟨hn1, hn2, hC⟩ := Kd.S_reads' HS8.out
     rw [hn1]
     try rw [show decide (tl.length < l0.length) = false from decide_eq_false (by omega)]
     have HC8 := Aside0.mk hC
     have HC6 := Aside0.mk c6
     have HC7 := Aside0.mk c7
     clear hC HS8 hn1 hn2 hW8 hx7 hx8 HS4 HL h5 h c6 c7
     go_loopg [9, 42] (tm.length + 1) (fun kq v9 v42 w' => ∃ (j : Nat), v42 = .int .i64 j ∧ Aside0 (j ≤ tm.length) ∧ Aside0 (tm.length - j + 1 ≤ kq) ∧ Aside0 (Kd.S (Kd.slice 103 k103) 39 w' W8.heap.size (fun _ => True) v9 ((tm.take j).map (·.drop l0.length))) ∧ Aside0 (Below W8.heap.size W8 w'))
     case atStart => exact ⟨0, rfl, ⟨Nat.zero_le _⟩, ⟨by omega⟩, ⟨Kd.S_nil _ _ _ _ _⟩, ⟨Below.refl _ _⟩⟩
     case round =>
      obtain ⟨j, rfl, HJ1, HJ2, HO, HB⟩ := hrel
      by_cases cj : j < tm.length
      ·obtain ⟨ad1, A1, c1, e1, hx1, hl1, hi1⟩ := at_L4 HC8.out (j : Int) (by omega) (by omega)
       cases e1
       replace hx1 := (HB.out.cell (World.block_lt_of_cell? W8 _ hx1)).trans hx1
       simp only [Int.toNat_natCast] at hx1
       obtain ⟨row, hrow⟩ : ∃ r, r = rd_L4 tm (j : Int) := ⟨_, rfl⟩
       rw [← hrow] at hx1 hl1 hi1
       have hrow2 : row = tm[j] := by rw [hrow]; simp [rd_L4, List.getD_eq_getElem?_getD, List.getElem?_eq_getElem cj]
       have hro : l0.length ≤ row.length ∧ row.length ≤ 1000 := by
        have := List.all_eq_true.1 HC6.out row (by rw [hrow2]; exact List.getElem_mem _)
        simpa using this
       have hx10 := (HB.out.cell (World.block_lt_of_cell? W8 _ HX9.out)).trans HX9.out
       obtain ⟨k1, rfl⟩ : ∃ k1, gk = k1 + 1 := ⟨gk - 1, by have := HJ2.out; omega⟩
       obtain ⟨ad2, ea2, _, _⟩ := at_T103 hi1 0 (by omega) (by have := HC7.out; omega)
       cases ea2
       have HRW := Aside0.mk hrow2
       have HI1 := Aside0.mk hi1
       have HCJ := Aside0.mk cj
       have hro1 := hro.1
       have HRO := Aside0.mk hro
       clear hrow hrow2 hi1 hro
       obtain ⟨rwd, hrwd⟩ : ∃ r, r = row.drop l0.length := ⟨_, rfl⟩
       have HRD := Aside0.mk hrwd
       clear hrwd
       have HN := Aside0.mk (show (tm.take (j + 1)).map (·.drop l0.length) = (tm.take j).map (·.drop l0.length) ++ [rwd] from by rw [List.take_succ_eq_append_getElem cj, List.map_append, HRD.out, HRW.out]; rfl)
       have htm : tm.length ≤ 1000 := by have := (checkM_ok HCk1.out).1; have := HC7.out; omega
       have HNl := Aside0.mk (show ((tm.take j).map (·.drop l0.length)).length ≤ 1000 from by rw [List.length_map, List.length_take]; have := (checkM_ok HCk1.out).1; have := HC7.out; omega)
       go_wp2_with (first | (go_at_call 100; (refine (clone_cut ad2 l0.length c1 row _ hro1 hl1 HRO.out.2 (Kd.C_below HI1.out HB.out)).mono ?_); rintro e w9 ⟨vc, rfl, hR, hb⟩; rw [← HRD.out] at hR; have n0_ := Aside0.mk (Kd.S_elder' (v := vc) HO.out (Kd.R_base hR) hb); have HL := Aside0.mk (Kd.R_lower hR (below_size HB.out)); have n2_ := Aside0.mk (below_step HB.out hb); clear HO HB hR hb hx10; have HO := n0_; have HB := n2_; clear n0_ n2_; obtain ⟨Ao, co, eo⟩ := Kd.R_slice HL.out; subst eo) | ((with_reducible refine gate_builtin (b := .append) (xs := #[.tmp 46, .tmp 51]) rfl ?_); at_builtin; refine Kd.S_append (Kd.slice 103 k103) (w0 := W8) W8.heap.size rfl (.tmp 46) (.tmp 51) 30 39 (.slice none 0 0) 24 rfl Tryz.underlying30 info39 rfl (by decide) (by omega) u9 ((tm.take j).map (·.drop l0.length)) rwd [.slice Ao rwd.length co] (fun _ => True) (fun k_ => some k_ = (.slice Ao rwd.length co : Value).ownBlock) rfl rfl ?aP (fun k_ hk_ => ((Kd.R_mono (ok' := fun k_ => ((fun _ => True)) k_ ∧ some k_ ≠ (u9 : Value).ownBlock) (Kd.R_apart' (HL.out) (Kd.S_typed HO.out) (by decide)) (fun k_ hk => ⟨trivial, hk.2⟩))).1 k_ hk_.symm) ?aF ?aO ?aB ?aS ?aL ?_; (case aP => exact Kd.M_row (Kd.R_mono (Kd.R_tight rfl (Kd.R_mono (ok' := fun k_ => ((fun _ => True)) k_ ∧ some k_ ≠ (u9 : Value).ownBlock) (Kd.R_apart' (HL.out) (Kd.S_typed HO.out) (by decide)) (fun k_ hk => ⟨trivial, hk.2⟩))) (fun _ h_ => h_))); (case aB => exact (bl HB.out)); (case aF => exact (fun _ _ => trivial)); (case aO => exact (by (with_reducible repeat (first | apply Kd.S_alloc | apply Kd.S_drewN | apply Kd.S_drew)); exact Kd.S_mono HO.out (fun k_ hk => ⟨trivial, fun e_ => hk.2 e_⟩))); (case aS => exact (below_size (bl HB.out))); (case aL => have := HNl.out; omega); intro v750 w12 ho hb hg hat; rw [← HN.out] at ho; have n0_ := Aside0.mk (hb); have n1_ := Aside0.mk (ho); clear HB HO HL; have HB := n0_; have HO := n1_; clear n0_ n1_; clear ho hb hg hat))
       all_goals (
        go_roundg k1
        case measure => exact Nat.lt_succ_self _
        case rel => exact ⟨j + 1, by go_num, ⟨by have := HCJ.out; omega⟩, ⟨by have := HJ2.out; have := HCJ.out; omega⟩, ⟨by (with_reducible repeat (first | apply Kd.S_alloc | apply Kd.S_drewN | apply Kd.S_drew)); exact HO.out⟩, ⟨(bl HB.out)⟩⟩)
      ·obtain rfl : j = tm.length := by have := HJ1.out; omega
       rw [List.take_length] at HO
       go_wp2
       go_ret2
       exact ⟨_, rfl, Kd.S_lower HO.out (below_size HB9.out), below_step HB9.out HB.out⟩)
 ·rw [if_neg c1] at h
  obtain ⟨rfl, rfl⟩ : ([] : List (List S103)) = r1 ∧ checkM l0 = r2 := by simpa using h
  have HCk := Aside0.mk (show table_Check.f l0 = some (checkM l0) from rfl)
  go_wp2_with (first | (go_at_call 70; (refine (table_Check.calls A0 c0 l0 (checkM l0) _ (by repeat (first | (with_reducible exact HR0.out) | (with_reducible refine Kd.C_drewN ?_ _) | (with_reducible refine Kd.C_drew ?_) | exact HR0.out)) HC0.out HCk.out).mono ?_); rintro e w1 ⟨rfl, hb⟩; have HR1 := Aside0.mk (Kd.C_below HR0.out hb); have HB := Aside0.mk hb; clear hb))
  go_ret2
  exact ⟨_, rfl, Kd.S_nil _ _ _ _ _, HB.out⟩
end Go.Proofs.YtegffolimjiioaaGreatDoor.PB
