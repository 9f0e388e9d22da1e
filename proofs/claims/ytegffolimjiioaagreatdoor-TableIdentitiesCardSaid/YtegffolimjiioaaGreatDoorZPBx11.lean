/- Walks and contracts of the program's functions: printed for this claim. -/
import Derived.Test.YtegffolimjiioaaGreatDoorZX0
import Derived.Test.YtegffolimjiioaaGreatDoorZPBx0
import Derived.Test.YtegffolimjiioaaGreatDoorZPBx2
import Derived.Test.YtegffolimjiioaaGreatDoorZPBx8
import Derived.Test.YtegffolimjiioaaGreatDoorZPBx10
namespace Go.Proofs.YtegffolimjiioaaGreatDoor.PB
open Go.RowKit Go.Proofs.YtegffolimjiioaaGreatDoorW.PrintWords Go.Proofs.YtegffolimjiioaaGreatDoorW.PrintLast Go.Proofs.YtegffolimjiioaaGreatDoorW.PrintMore
attribute [local go_sem] max2_int min2_int max_two min_two
set_option linter.unusedVariables false
set_option linter.unusedSimpArgs false
mutual
def table_reduce.l0 : Nat → List (List (S103)) → List Int → Int → Int → ByteArray → ByteArray → Option (List Int × ByteArray × ByteArray × (List (List (S103))))
 | 0, _, _, _, _, _, _ => none
 | k + 1, x0, x4, x15, x16, x250000, x250001 => if x16 < x15 then (table_reduce.l1 k x0 x4 x16 (x4.length : Int) x15 x16 x250000 x250001) else (some (x4, x250000, x250001, x0))
def table_reduce.j2 : Nat → List (List (S103)) → List Int → Int → Int → Int → Int → ByteArray → ByteArray → Option (List Int × ByteArray × ByteArray × (List (List (S103))))
 | 0, _, _, _, _, _, _, _, _ => none
 | k + 1, x0, x4, x6, x7, x15, x16, x250000, x250001 => if x7 = (x0.length : Int) then ((table_zero.f).bind fun bt255 => (table_reduce.l0 k x0 x4 x15 (wrap64 (x16 + 1)) bt255.1 bt255.2)) else (if x7 = (x4.length : Int) then (table_reduce.j3 k x0 x4 x6 (x4.length : Int) x15 x16 x250000 x250001) else (if 0 ≤ (x4.length : Int) then (if (x4.length : Int) < (x0.length : Int) then (if 0 ≤ x7 then (if x7 < (x0.length : Int) then ((fraction_Neg.f x250000 x250001).bind fun bt258 => (table_reduce.j3 k (swapL [] x0 ((x4.length : Int) : Int).toNat (x7 : Int).toNat) x4 x6 (x4.length : Int) x15 x16 bt258.1 bt258.2)) else (none)) else (none)) else (none)) else (none)))
def table_reduce.j3 : Nat → List (List (S103)) → List Int → Int → Int → Int → Int → ByteArray → ByteArray → Option (List Int × ByteArray × ByteArray × (List (List (S103))))
 | 0, _, _, _, _, _, _, _, _ => none
 | k + 1, x0, x4, x6, x8, x15, x16, x250000, x250001 => if 0 ≤ x8 then (if x8 < (x0.length : Int) then (if 0 ≤ x6 then (if x6 < ((rd_L4 x0 x8).length : Int) then ((fraction_Mul.f k x250000 x250001 ((rd_T103 (rd_L4 x0 x8) x6).f0) ((rd_T103 (rd_L4 x0 x8) x6).f1)).bind fun bt263 => (table_reduce.l2 k x0 x4 x6 x8 x15 x16 ((rd_L4 x0 x8).length : Int) 0 bt263.1 bt263.2 ((rd_T103 (rd_L4 x0 x8) x6).f0) ((rd_T103 (rd_L4 x0 x8) x6).f1))) else (none)) else (none)) else (none)) else (none)
def table_reduce.l2 : Nat → List (List (S103)) → List Int → Int → Int → Int → Int → Int → Int → ByteArray → ByteArray → ByteArray → ByteArray → Option (List Int × ByteArray × ByteArray × (List (List (S103))))
 | 0, _, _, _, _, _, _, _, _, _, _, _, _ => none
 | k + 1, x0, x4, x6, x8, x15, x16, x78, x79, x250000, x250001, x263000, x263001 => if x79 < x78 then (if 0 ≤ x8 then (if x8 < (x0.length : Int) then (if 0 ≤ x79 then (if x79 < ((rd_L4 x0 x8).length : Int) then ((fraction_Div.f k ((rd_T103 (rd_L4 x0 x8) x79).f0) ((rd_T103 (rd_L4 x0 x8) x79).f1) x263000 x263001).bind fun bt269 => (table_reduce.l2 k (x0.set (x8 : Int).toNat ((rd_L4 x0 x8).set (x79 : Int).toNat (⟨bt269.1, bt269.2.1⟩ : S103))) x4 x6 x8 x15 x16 x78 (wrap64 (x79 + 1)) x250000 x250001 x263000 x263001)) else (none)) else (none)) else (none)) else (none)) else (table_reduce.l3 k x0 x4 x6 x8 x15 x16 (x0.length : Int) 0 x250000 x250001)
def table_reduce.l3 : Nat → List (List (S103)) → List Int → Int → Int → Int → Int → Int → Int → ByteArray → ByteArray → Option (List Int × ByteArray × ByteArray × (List (List (S103))))
 | 0, _, _, _, _, _, _, _, _, _, _ => none
 | k + 1, x0, x4, x6, x8, x15, x16, x102, x103, x250000, x250001 => if x103 < x102 then (if 0 ≤ x103 then (if x103 < (x0.length : Int) then (if 0 ≤ x6 then (if x6 < ((rd_L4 x0 x103).length : Int) then (if x103 = x8 then (table_reduce.j6 k x0 x4 x6 x8 x103 x15 x16 x102 x103 true x250000 x250001 ((rd_T103 (rd_L4 x0 x103) x6).f0) ((rd_T103 (rd_L4 x0 x103) x6).f1)) else ((fraction_Sign.f ((rd_T103 (rd_L4 x0 x103) x6).f0) ((rd_T103 (rd_L4 x0 x103) x6).f1)).bind fun t281 => (table_reduce.j6 k x0 x4 x6 x8 x103 x15 x16 x102 x103 (t281 == 0) x250000 x250001 ((rd_T103 (rd_L4 x0 x103) x6).f0) ((rd_T103 (rd_L4 x0 x103) x6).f1)))) else (none)) else (none)) else (none)) else (none)) else (if x4.length < 17592186044416 then (table_reduce.l0 k x0 (x4 ++ [x6]) x15 (wrap64 (x16 + 1)) x250000 x250001) else (none))
def table_reduce.j6 : Nat → List (List (S103)) → List Int → Int → Int → Int → Int → Int → Int → Int → Bool → ByteArray → ByteArray → ByteArray → ByteArray → Option (List Int × ByteArray × ByteArray × (List (List (S103))))
 | 0, _, _, _, _, _, _, _, _, _, _, _, _, _, _ => none
 | k + 1, x0, x4, x6, x8, x11, x15, x16, x102, x103, x120, x250000, x250001, x281000, x281001 => if x120 = true then (table_reduce.l3 k x0 x4 x6 x8 x15 x16 x102 (wrap64 (x103 + 1)) x250000 x250001) else (if 0 ≤ x11 then (if x11 < (x0.length : Int) then (table_reduce.l4 k x0 x4 x6 x8 x11 x15 x16 x102 x103 ((rd_L4 x0 x11).length : Int) 0 x250000 x250001 x281000 x281001) else (none)) else (none))
def table_reduce.l4 : Nat → List (List (S103)) → List Int → Int → Int → Int → Int → Int → Int → Int → Int → Int → ByteArray → ByteArray → ByteArray → ByteArray → Option (List Int × ByteArray × ByteArray × (List (List (S103))))
 | 0, _, _, _, _, _, _, _, _, _, _, _, _, _, _, _ => none
 | k + 1, x0, x4, x6, x8, x11, x15, x16, x102, x103, x125, x126, x250000, x250001, x281000, x281001 => if x126 < x125 then (if 0 ≤ x11 then (if x11 < (x0.length : Int) then (if 0 ≤ x126 then (if x126 < ((rd_L4 x0 x11).length : Int) then (if 0 ≤ x8 then (if x8 < (x0.length : Int) then (if x126 < ((rd_L4 x0 x8).length : Int) then ((fraction_Mul.f k x281000 x281001 ((rd_T103 (rd_L4 x0 x8) x126).f0) ((rd_T103 (rd_L4 x0 x8) x126).f1)).bind fun bt288 => ((fraction_Sub.f k ((rd_T103 (rd_L4 x0 x11) x126).f0) ((rd_T103 (rd_L4 x0 x11) x126).f1) bt288.1 bt288.2).bind fun bt290 => (table_reduce.l4 k (x0.set (x11 : Int).toNat ((rd_L4 x0 x11).set (x126 : Int).toNat (⟨bt290.1, bt290.2⟩ : S103))) x4 x6 x8 x11 x15 x16 x102 x103 x125 (wrap64 (x126 + 1)) x250000 x250001 x281000 x281001))) else (none)) else (none)) else (none)) else (none)) else (none)) else (none)) else (none)) else (table_reduce.l3 k x0 x4 x6 x8 x15 x16 x102 (wrap64 (x103 + 1)) x250000 x250001)
def table_reduce.l1 : Nat → List (List (S103)) → List Int → Int → Int → Int → Int → ByteArray → ByteArray → Option (List Int × ByteArray × ByteArray × (List (List (S103))))
 | 0, _, _, _, _, _, _, _, _ => none
 | k + 1, x0, x4, x6, x7, x15, x16, x250000, x250001 => if x7 < (x0.length : Int) then (if 0 ≤ x7 then (if 0 ≤ x6 then (if x6 < ((rd_L4 x0 x7).length : Int) then ((fraction_Sign.f ((rd_T103 (rd_L4 x0 x7) x6).f0) ((rd_T103 (rd_L4 x0 x7) x6).f1)).bind fun t254 => (if t254 = 0 then (table_reduce.l1 k x0 x4 x6 (wrap64 (x7 + 1)) x15 x16 x250000 x250001) else (table_reduce.j2 k x0 x4 x6 x7 x15 x16 x250000 x250001))) else (none)) else (none)) else (none)) else (table_reduce.j2 k x0 x4 x6 x7 x15 x16 x250000 x250001)
end
def table_reduce.f (k : Nat) (l0 : List (List (S103))) (a1 : Int) : Option (List Int × ByteArray × ByteArray × (List (List (S103)))) := (table_one.f).bind fun bt250 => (table_reduce.l0 k l0 ([] : List Int) a1 0 bt250.1 bt250.2)
def table_reduce.T19 : Bool × List (List Nat × List Nat) := (true, [([], []), ([], []), ([0, 1], [0, 1]), ([2], [2]), ([], []), ([], []), ([], []), ([5, 6], [5, 6]), ([7], [7]), ([], []), ([8, 9], [8, 9]), ([10], [10]), ([], []), ([11, 12], [11, 12]), ([13], [13]), ([14], [14]), ([14], [14]), ([3, 4, 0, 1, 2, 3, 4, 5, 6, 7, 8, 9, 10, 11, 12, 13, 14, 15], [3, 4]), ([17, 15, 13, 0, 1, 2, 3, 4, 5, 6, 7, 8, 9, 10, 11, 12, 13, 14, 15], [15, 17])])
def table_reduce.B19 : List Nat := [0, 0, 3, 7, 0, 0, 0, 96, 224, 0, 992, 2016, 0, 8160, 16352, 32736, 32736, 65535, 196607]
theorem table_reduce.tab19 : rtab .any (opsOf Tryz.f93 19) = table_reduce.T19 := by kernel_rfl
theorem table_reduce.bits19 : waitsOk table_reduce.T19.2 table_reduce.B19 = true := by kernel_rfl
def table_reduce.T29 : Bool × List (List Nat × List Nat) := (true, [([], []), ([], []), ([0, 1], [0, 1]), ([2], [2]), ([], []), ([], []), ([], []), ([5, 6], [5, 6]), ([7], [7]), ([], []), ([8, 9], [8, 9]), ([10], [10]), ([], []), ([], []), ([], []), ([13, 14], [13, 14]), ([15], [15]), ([], []), ([16, 17], [16, 17]), ([18], [18]), ([12, 19], [12, 19]), ([11, 20, 20], [11, 20]), ([3, 4, 0, 1, 2, 3, 4, 5, 6, 7, 8, 9, 10, 11, 12, 13, 14, 15, 16, 17, 18, 19, 20, 21], [3, 4]), ([22, 21, 21, 0, 1, 2, 3, 4, 5, 6, 7, 8, 9, 10, 11, 12, 13, 14, 15, 16, 17, 18, 19, 20, 21], [21, 22])])
def table_reduce.B29 : List Nat := [0, 0, 3, 7, 0, 0, 0, 96, 224, 0, 992, 2016, 0, 0, 0, 24576, 57344, 0, 253952, 516096, 1044480, 2097120, 4194303, 8388607]
theorem table_reduce.tab29 : rtab .any (opsOf Tryz.f93 29) = table_reduce.T29 := by kernel_rfl
theorem table_reduce.bits29 : waitsOk table_reduce.T29.2 table_reduce.B29 = true := by kernel_rfl
set_option maxHeartbeats 8000000 in
set_option maxRecDepth 100000 in
theorem table_reduce.calls (k : Nat) (P0_ : Nat → Prop) (u9000_ : Value) (l0 : List (List (S103))) (a1 : Int) (r1 : List Int) (r2 : ByteArray) (r3 : ByteArray) (r4 : List (List (S103))) (w0 w : World) (hB : Below w0.heap.size w0 w) (ho0 : Kd.S (Kd.slice 103 k103) 39 w w0.heap.size P0_ u9000_ l0) (hG : GW w0) (h : table_reduce.f k l0 a1 = some (r1, r2, r3, r4)) :
  Calls Tryz.prog 93 #[u9000_, .int .i64 a1] w fun e w' => ∃ v0_ : Value, e = .returned (.tuple #[v0_, .agg #[.string r2, .string r3]]) ∧ Kd.R (Kd.int .i64) 3 w' w0.heap.size (fun k_ => (P0_ k_ ∨ w.heap.size ≤ k_)) v0_ r1 ∧ Kd.S (Kd.slice 103 k103) 39 w' w0.heap.size (fun k_ => (P0_ k_ ∨ w.heap.size ≤ k_)) u9000_ r4 ∧ Below w0.heap.size w0 w' ∧ Kept w w' (fun k_ => P0_ k_) := by
 have HG := Aside0.mk hG
 clear hG
 have hu103 := Tryz.underlying103
 have HO0 := Aside0.mk (show Kd.S (Kd.slice 103 k103) 39 w w0.heap.size (fun k_ => (P0_ k_ ∨ w.heap.size ≤ k_)) u9000_ l0 from Kd.S_mono ho0 (fun k_ hk => (.inl hk)))
 have HK := Aside0.mk (Kept.refl w (fun k_ => P0_ k_))
 have HW0 := Aside0.mk hB.size
 have HB := Aside0.mk hB
 clear hB
 have H : ((table_one.f).bind fun bt250 => (table_reduce.l0 k l0 ([] : List Int) a1 0 bt250.1 bt250.2)) = some (r1, r2, r3, r4) := h
 clear h
 replace H := Option.bind_eq_some_iff.mp H
 obtain ⟨⟨t250, t251⟩, A30, H⟩ := H
 replace H : (table_reduce.l0 k l0 ([] : List Int) a1 0 t250 t251) = some (r1, r2, r3, r4) := H
 have A3 := Aside0.mk A30
 clear A30
 have H' := Aside0.mk H
 clear H
 go_enter Tryz.func93, Tryz.ntmps93
 go_wp2_with (first | ((with_reducible refine gate_dst (N := 5) rfl ?_); refine box_event ?hg (N := 5) ?hd (cs := #[.string (⟨#[]⟩ : ByteArray), .string (⟨#[]⟩ : ByteArray)]) (t := 103) ?hr ?_; (case hd => rfl); (case hg => rfl); (case hr => first | (go_simp; done) | (go_simp; rfl)); intro gb249 hg w4 hbox hb; have n0_ := Aside0.mk (Kd.S_below (Kd.S_elderB (sx HO0.out) gb249 (Nat.le_of_eq hg.symm)) hb); have n1_ := Aside0.mk (Kept.below (S := (fun k_ => P0_ k_)) (by repeat (first | (with_reducible first | exact HK.out | apply Kept.alloc | apply Kept.drewN | apply Kept.drew) | exact HK.out)) hb); have n2_ := Aside0.mk (below_step (bl HB.out) hb); have n3_ := Aside0.mk (hbox); have n4_ := Aside0.mk ((by rw [hg]; exact (by first | exact HK.out.1 | exact (show Kept w _ (fun k_ => P0_ k_) from by repeat (first | (with_reducible first | exact HK.out | apply Kept.alloc | apply Kept.drewN | apply Kept.drew) | exact HK.out)).1) : w.heap.size ≤ gb249)); have n5_ := Aside0.mk ((by rw [hg]; exact (below_size (bl HB.out)) : w0.heap.size ≤ gb249)); clear HO0; clear HK; clear HB; have HO0 := n0_; have HK := n1_; have HB := n2_; have BK249 := n3_; have GW249 := n4_; have GE249 := n5_; clear n0_ n1_ n2_ n3_ n4_ n5_; clear hb hbox hg) | ((with_reducible refine gate_callee (f := 99) rfl ?_); refine goesL_ (some 14) rfl rfl Tryz.func99 (by kernel_rfl) rfl #[] rfl (by (try simp only [List.map_toArray, List.map_cons, List.map_nil]); first | done | rfl | (simp only [List.length_drop, List.length_take]; rfl)) ?_; (with_reducible refine (table_one.calls  t250 t251 _ A3.out).mono ?_); rintro e w5 ⟨rfl, hb⟩; refine ⟨_, rfl, ?_⟩; have n0_ := Aside0.mk (Kd.S_below (sx HO0.out) hb); have n1_ := Aside0.mk (blk_below (g := gb249) (o := .cells #[.string (⟨#[]⟩ : ByteArray), .string (⟨#[]⟩ : ByteArray)] 103 (0, 0)) (bx BK249.out) hb); have n2_ := Aside0.mk (Kept.below (S := (fun k_ => P0_ k_)) (by repeat (first | (with_reducible first | exact HK.out | apply Kept.alloc | apply Kept.drewN | apply Kept.drew | refine Kept.setCell ?_ (.inr GW249.out) _) | exact HK.out)) hb); have n3_ := Aside0.mk (below_step (by repeat (first | (with_reducible first | exact HB.out | apply below_alloc | apply pw_below_drewN | apply below_drew1 | refine below_set ?_ GE249.out) | exact HB.out)) hb); clear HO0; clear BK249; clear HK; clear HB; have HO0 := n0_; have BK249 := n1_; have HK := n2_; have HB := n3_; clear n0_ n1_ n2_ n3_; (try clear hb); (try clear hb2); (try clear hk); (try clear hi); have hcz6_0 : w5.cell? ⟨gb249, 0, none⟩ = some (.string (⟨#[]⟩ : ByteArray)) := (blk_cell BK249.out 0).trans rfl; have hcz6_1 : w5.cell? ⟨gb249, 1, none⟩ = some (.string (⟨#[]⟩ : ByteArray)) := (blk_cell BK249.out 1).trans rfl; have hfz6_0 := blk_frozen BK249.out 0; have hfz6_1 := blk_frozen BK249.out 1))
 go_loopg [4, 16] k (fun kq v4 v16 w' => ∃ (x0_1 : List (List (S103))) (x4_1 : List Int) (x16_1 : Int) (x250000_1 : ByteArray) (x250001_1 : ByteArray), v16 = .int .i64 x16_1 ∧ Aside0 (table_reduce.l0 kq x0_1 x4_1 a1 x16_1 x250000_1 x250001_1 = some (r1, r2, r3, r4)) ∧ Aside0 (kq ≤ k) ∧ Aside0 (Kd.S (Kd.slice 103 k103) 39 w' w0.heap.size (fun k_ => (P0_ k_ ∨ w.heap.size ≤ k_) ∧ k_ ≠ gb249) u9000_ x0_1) ∧ Aside0 (Kd.R (Kd.int .i64) 3 w' w0.heap.size (fun k_ => (P0_ k_ ∨ w.heap.size ≤ k_)) v4 x4_1) ∧ Aside0 (w'.heap[gb249]? = some (.cells #[.string x250000_1, .string x250001_1] 103 (0, 0))) ∧ Aside0 (Kept w w' (fun k_ => P0_ k_)) ∧ Aside0 (Below w0.heap.size w0 w'))
 case atStart => exact ⟨(l0), (([] : List Int)), (0), (t250), (t251), (by first | rfl | (simp; done) | (simp [*]; done)), H', ⟨Nat.le_refl _⟩, ⟨by (with_reducible repeat (first | apply Kd.S_alloc | apply Kd.S_drewN | apply Kd.S_drew)); exact Kd.S_mono (Kd.S_far (p := ⟨gb249, 1, none⟩) (Kd.S_far (p := ⟨gb249, 0, none⟩) (Kd.S_mono HO0.out (fun k_ hk => (⟨hk, hk.2⟩ : _ ∧ k_ ≠ gb249))) (fun _ hk => hk.2) (.string t250)) (fun _ hk => hk.2) (.string t251)) (fun _ hk => ⟨hk.1.1, hk.1.2⟩)⟩, ⟨by first | exact Kd.R_nil _ _ _ _ _ | exact Kd.N_nil _ _ _ _ _ | exact Kd.V_nil _ _ _ _ _ | exact Kd.Q_nil _ _ _ _ _ | exact Kd.S_nil _ _ _ _ _⟩, ⟨by (with_reducible repeat (first | refine blk_drewN ?_ _ | refine blk_drew ?_ | refine blk_alloc ?_ _)); refine blk_put (cs := #[.string t250, .string (⟨#[]⟩ : ByteArray)]) ?_ 1 _ rfl; (with_reducible repeat (first | refine blk_drewN ?_ _ | refine blk_drew ?_ | refine blk_alloc ?_ _)); refine blk_put (cs := #[.string (⟨#[]⟩ : ByteArray), .string (⟨#[]⟩ : ByteArray)]) ?_ 0 _ rfl; (with_reducible repeat (first | refine blk_drewN ?_ _ | refine blk_drew ?_ | refine blk_alloc ?_ _)); exact BK249.out⟩, ⟨by repeat (first | (with_reducible first | exact HK.out | apply Kept.alloc | apply Kept.drewN | apply Kept.drew | refine Kept.setCell ?_ (.inr GW249.out) _) | exact HK.out)⟩, ⟨by repeat (first | (with_reducible first | exact HB.out | apply below_alloc | apply pw_below_drewN | apply below_drew1 | refine below_set ?_ GE249.out) | exact HB.out)⟩⟩
 case round =>
  clear H'
  try clear p2
  try clear hcz6_0
  try clear hcz6_1
  try clear hfz6_0
  try clear hfz6_1
  obtain ⟨x0_1, x4_1, x16_1, x250000_1, x250001_1, rfl, HA, HK1, HO_0, HO_4, BK249, HK, HB⟩ := hrel
  cases gk with
  | zero => exact absurd HA.out (by simp [table_reduce.l0])
  | succ k1 =>
   have H := HA.out
   clear HA
   simp only [table_reduce.l0] at H
   by_cases c7 : x16_1 < a1
   ·rw [if_pos c7] at H
    have c7b0 : decide (x16_1 < a1) = true := decide_eq_true c7
    clear c7
    have HC8 := Aside0.mk H
    clear H
    obtain ⟨Ao9, co9, eo9⟩ := Kd.R_slice HO_4.out
    subst eo9
    go_upto_block 2 with (fail)
    go_cut [7] (fun v7 wc => ∃ (kq : Nat) (x7_7 : Int), v7 = .int .i64 x7_7 ∧ Aside0 (table_reduce.j2 kq x0_1 x4_1 x16_1 x7_7 a1 x16_1 x250000_1 x250001_1 = some (r1, r2, r3, r4)) ∧ Aside0 (kq ≤ k1) ∧ Aside0 (Kd.S (Kd.slice 103 k103) 39 wc w0.heap.size (fun k_ => (P0_ k_ ∨ w.heap.size ≤ k_) ∧ k_ ≠ gb249) u9000_ x0_1) ∧ Aside0 (Kd.R (Kd.int .i64) 3 wc w0.heap.size (fun k_ => (P0_ k_ ∨ w.heap.size ≤ k_)) (.slice Ao9 x4_1.length co9) x4_1) ∧ Aside0 (wc.heap[gb249]? = some (.cells #[.string x250000_1, .string x250001_1] 103 (0, 0))) ∧ Aside0 (Kept w wc (fun k_ => P0_ k_)) ∧ Aside0 (Below w0.heap.size w0 wc))
    case first =>
     have H := HC8.out
     clear HC8
     have H' := Aside0.mk H
     clear H
     go_wp2
     go_loopg [7] k1 (fun kq v7 w' => ∃ (x7_2 : Int), v7 = .int .i64 x7_2 ∧ Aside0 (table_reduce.l1 kq x0_1 x4_1 x16_1 x7_2 a1 x16_1 x250000_1 x250001_1 = some (r1, r2, r3, r4)) ∧ Aside0 (kq ≤ k1) ∧ Aside0 (Kd.S (Kd.slice 103 k103) 39 w' w0.heap.size (fun k_ => (P0_ k_ ∨ w.heap.size ≤ k_) ∧ k_ ≠ gb249) u9000_ x0_1) ∧ Aside0 (Kd.R (Kd.int .i64) 3 w' w0.heap.size (fun k_ => (P0_ k_ ∨ w.heap.size ≤ k_)) (.slice Ao9 x4_1.length co9) x4_1) ∧ Aside0 (w'.heap[gb249]? = some (.cells #[.string x250000_1, .string x250001_1] 103 (0, 0))) ∧ Aside0 (Kept w w' (fun k_ => P0_ k_)) ∧ Aside0 (Below w0.heap.size w0 w'))
     case atStart => exact ⟨((x4_1.length : Int)), (by first | rfl | (simp; done) | (simp [*]; done)), H', ⟨Nat.le_refl _⟩, ⟨by (with_reducible repeat (first | apply Kd.S_alloc | apply Kd.S_drewN | apply Kd.S_drew)); exact HO_0.out⟩, ⟨by (with_reducible repeat (first | apply Kd.R_alloc | apply Kd.R_drewN | apply Kd.R_drew)); exact HO_4.out⟩, ⟨by (with_reducible repeat (first | refine blk_drewN ?_ _ | refine blk_drew ?_ | refine blk_alloc ?_ _)); exact BK249.out⟩, ⟨by repeat (first | (with_reducible first | exact HK.out | apply Kept.alloc | apply Kept.drewN | apply Kept.drew | refine Kept.setCell ?_ (.inr GW249.out) _) | exact HK.out)⟩, ⟨by repeat (first | (with_reducible first | exact HB.out | apply below_alloc | apply pw_below_drewN | apply below_drew1 | refine below_set ?_ GE249.out) | exact HB.out)⟩⟩
     case round =>
      clear H'
      try clear p2
      try clear c7
      try clear c7b0
      try clear c9
      try clear hcz6_0
      try clear hcz6_1
      try clear hfz6_0
      try clear hfz6_1
      try clear p2
      obtain ⟨x7_2, rfl, HA, HK2, HO_0, HO_4, BK249, HK, HB⟩ := hrel
      cases gk with
      | zero => exact absurd HA.out (by simp [table_reduce.l1])
      | succ k2 =>
       have H := HA.out
       clear HA
       simp only [table_reduce.l1] at H
       by_cases c10 : x7_2 < (x0_1.length : Int)
       ·rw [if_pos c10] at H
        have c10b0 : decide (x7_2 < (x0_1.length : Int)) = true := decide_eq_true c10
        clear c10
        (first | rw [c10b0] | (simp only [i64_w, i32_w]; rw [c10b0]) | skip)
        by_cases c11 : 0 ≤ x7_2
        ·rw [if_pos c11] at H
         have c11b0 : decide (0 ≤ x7_2) = true := decide_eq_true c11
         clear c11
         by_cases c12 : 0 ≤ x16_1
         ·rw [if_pos c12] at H
          have c12b0 : decide (0 ≤ x16_1) = true := decide_eq_true c12
          clear c12
          by_cases c13 : x16_1 < ((rd_L4 x0_1 x7_2).length : Int)
          ·rw [if_pos c13] at H
           have c13b0 : decide (x16_1 < ((rd_L4 x0_1 x7_2).length : Int)) = true := decide_eq_true c13
           clear c13
           replace H := Option.bind_eq_some_iff.mp H
           obtain ⟨t254, A140, H⟩ := H
           replace H : (if t254 = 0 then (table_reduce.l1 k2 x0_1 x4_1 x16_1 (wrap64 (x7_2 + 1)) a1 x16_1 x250000_1 x250001_1) else (table_reduce.j2 k2 x0_1 x4_1 x16_1 x7_2 a1 x16_1 x250000_1 x250001_1)) = some (r1, r2, r3, r4) := H
           have A14 := Aside0.mk A140
           clear A140
           by_cases c15 : t254 = 0
           ·rw [if_pos c15] at H
            have c15b0 : (t254 == 0) = true := beq_iff_eq.mpr c15
            have c15b1 : (t254 != 0) = false := bne_eq_false_iff_eq.mpr c15
            clear c15
            have H' := Aside0.mk H
            clear H
            obtain ⟨Ao16, co16, eo16⟩ := Kd.S_slice HO_0.out
            subst eo16
            have p252 : 0 ≤ (x7_2 : Int) := of_decide_eq_true (by first | (with_reducible assumption) | assumption)
            have q252 : x7_2 < (x0_1.length : Int) := of_decide_eq_true (by first | (with_reducible assumption) | assumption)
            obtain ⟨ad252, A252_0, c252_0, e252, hx252_0, hl252_0, hi252_0⟩ := at_L4 (Kd.S_reads' HO_0.out).2.2 x7_2 p252 q252
            cases e252
            obtain ⟨ce252, hce252, hMe252, hcc252⟩ := Kd.S_get HO_0.out [] x7_2 p252 (by first | exact q252 | exact of_decide_eq_true (by first | (with_reducible assumption) | assumption) | (have e_ := (Kd.S_reads' HO_0.out).1; omega))
            obtain ⟨ve252_0, rfl, ge252_0⟩ := hMe252
            have hv252_0 := hcc252 0 _ rfl
            rw [Nat.add_zero, show ((Kd.slice 103 k103)).sz = 1 from rfl, Nat.mul_one] at hv252_0
            replace hv252_0 := Option.some.inj (hv252_0.symm.trans hx252_0)
            rw [hv252_0] at ge252_0
            have HL252_0 := Aside0.mk (show Kd.R k103 103 _ _ _ _ (rd_L4 x0_1 x7_2) from ge252_0)
            clear hv252_0 ge252_0
            have HX252_0 := Aside0.mk hx252_0
            clear hcc252 hce252
            have HR252_0 := Aside0.mk hi252_0
            have HC252_0 := Aside0.mk hl252_0
            clear hi252_0 hl252_0
            replace p252 := eq_true p252
            replace q252 := eq_true q252
            have p253 : 0 ≤ (x16_1 : Int) := of_decide_eq_true (by first | (with_reducible assumption) | assumption)
            have q253 : x16_1 < ((rd_L4 x0_1 x7_2).length : Int) := of_decide_eq_true (by first | (with_reducible assumption) | assumption)
            obtain ⟨ad253, e253, hx253_0, hx253_1⟩ := at_T103 (by repeat (first | (with_reducible exact HR252_0.out) | (with_reducible refine Kd.C_alloc ?_ _) | (with_reducible refine Kd.C_drewN ?_ _) | (with_reducible refine Kd.C_drew ?_) | exact HR252_0.out)) x16_1 p253 q253
            cases e253
            replace p253 := eq_true p253
            replace q253 := eq_true q253
            go_wp2_with (first | (go_at_call 112; (with_reducible refine (fraction_Sign.calls ((rd_T103 (rd_L4 x0_1 x7_2) x16_1).f0) ((rd_T103 (rd_L4 x0_1 x7_2) x16_1).f1) t254 _ A14.out).mono ?_); rintro e w17 ⟨rfl, hb⟩; have n0_ := Aside0.mk (Kd.S_below (sx HO_0.out) hb); have n1_ := Aside0.mk (Kd.R_below (rx HO_4.out) hb); have n2_ := Aside0.mk (Kd.R_below (rx HL252_0.out) hb); have n3_ := Aside0.mk (blk_below (g := gb249) (o := .cells #[.string x250000_1, .string x250001_1] 103 (0, 0)) (bx BK249.out) hb); (first | have n4_ := Aside0.mk (Kd.C_below (by repeat (first | (with_reducible exact HR252_0.out) | (with_reducible refine Kd.C_alloc ?_ _) | (with_reducible refine Kd.C_drewN ?_ _) | (with_reducible refine Kd.C_drew ?_) | exact HR252_0.out)) hb) | have n4_ := Aside0.mk True.intro); (first | have n5_ := Aside0.mk (pw_cell_below hb HX252_0.out) | have n5_ := Aside0.mk True.intro); have n6_ := Aside0.mk (Kept.below (S := (fun k_ => P0_ k_)) (by repeat (first | (with_reducible first | exact HK.out | apply Kept.alloc | apply Kept.drewN | apply Kept.drew | refine Kept.setCell ?_ (.inr GW249.out) _) | exact HK.out)) hb); have n7_ := Aside0.mk (below_step (by repeat (first | (with_reducible first | exact HB.out | apply below_alloc | apply pw_below_drewN | apply below_drew1 | refine below_set ?_ GE249.out) | exact HB.out)) hb); clear HO_0; clear HO_4; clear HL252_0; clear BK249; clear HR252_0; clear HX252_0; clear HK; clear HB; have HO_0 := n0_; have HO_4 := n1_; have HL252_0 := n2_; have BK249 := n3_; have HR252_0 := n4_; have HX252_0 := n5_; have HK := n6_; have HB := n7_; clear n0_ n1_ n2_ n3_ n4_ n5_ n6_ n7_; (try clear hb); (try clear hb2); (try clear hk); (try clear hi)))
            go_roundg k2
            case measure => have := HK1.out; have := HK2.out; omega
            case rel => exact ⟨(wrap64 (x7_2 + 1)), (by first | rfl | (simp; done) | (simp [*]; done)), H', ⟨by have := HK1.out; have := HK2.out; omega⟩, ⟨by (with_reducible repeat (first | apply Kd.S_alloc | apply Kd.S_drewN | apply Kd.S_drew)); exact HO_0.out⟩, ⟨by (with_reducible repeat (first | apply Kd.R_alloc | apply Kd.R_drewN | apply Kd.R_drew)); exact HO_4.out⟩, ⟨by (with_reducible repeat (first | refine blk_drewN ?_ _ | refine blk_drew ?_ | refine blk_alloc ?_ _)); exact BK249.out⟩, ⟨by repeat (first | (with_reducible first | exact HK.out | apply Kept.alloc | apply Kept.drewN | apply Kept.drew | refine Kept.setCell ?_ (.inr GW249.out) _) | exact HK.out)⟩, ⟨by repeat (first | (with_reducible first | exact HB.out | apply below_alloc | apply pw_below_drewN | apply below_drew1 | refine below_set ?_ GE249.out) | exact HB.out)⟩⟩
           ·rw [if_neg c15] at H
            have c15b0 : (t254 == 0) = false := beq_eq_false_iff_ne.mpr c15
            have c15b1 : (t254 != 0) = true := bne_iff_ne.mpr c15
            have H' := Aside0.mk H
            clear H
            obtain ⟨Ao18, co18, eo18⟩ := Kd.S_slice HO_0.out
            subst eo18
            have p252 : 0 ≤ (x7_2 : Int) := of_decide_eq_true (by first | (with_reducible assumption) | assumption)
            have q252 : x7_2 < (x0_1.length : Int) := of_decide_eq_true (by first | (with_reducible assumption) | assumption)
            obtain ⟨ad252, A252_0, c252_0, e252, hx252_0, hl252_0, hi252_0⟩ := at_L4 (Kd.S_reads' HO_0.out).2.2 x7_2 p252 q252
            cases e252
            obtain ⟨ce252, hce252, hMe252, hcc252⟩ := Kd.S_get HO_0.out [] x7_2 p252 (by first | exact q252 | exact of_decide_eq_true (by first | (with_reducible assumption) | assumption) | (have e_ := (Kd.S_reads' HO_0.out).1; omega))
            obtain ⟨ve252_0, rfl, ge252_0⟩ := hMe252
            have hv252_0 := hcc252 0 _ rfl
            rw [Nat.add_zero, show ((Kd.slice 103 k103)).sz = 1 from rfl, Nat.mul_one] at hv252_0
            replace hv252_0 := Option.some.inj (hv252_0.symm.trans hx252_0)
            rw [hv252_0] at ge252_0
            have HL252_0 := Aside0.mk (show Kd.R k103 103 _ _ _ _ (rd_L4 x0_1 x7_2) from ge252_0)
            clear hv252_0 ge252_0
            have HX252_0 := Aside0.mk hx252_0
            clear hcc252 hce252
            have HR252_0 := Aside0.mk hi252_0
            have HC252_0 := Aside0.mk hl252_0
            clear hi252_0 hl252_0
            replace p252 := eq_true p252
            replace q252 := eq_true q252
            have p253 : 0 ≤ (x16_1 : Int) := of_decide_eq_true (by first | (with_reducible assumption) | assumption)
            have q253 : x16_1 < ((rd_L4 x0_1 x7_2).length : Int) := of_decide_eq_true (by first | (with_reducible assumption) | assumption)
            obtain ⟨ad253, e253, hx253_0, hx253_1⟩ := at_T103 (by repeat (first | (with_reducible exact HR252_0.out) | (with_reducible refine Kd.C_alloc ?_ _) | (with_reducible refine Kd.C_drewN ?_ _) | (with_reducible refine Kd.C_drew ?_) | exact HR252_0.out)) x16_1 p253 q253
            cases e253
            replace p253 := eq_true p253
            replace q253 := eq_true q253
            go_wp2_with (first | (go_at_call 112; (with_reducible refine (fraction_Sign.calls ((rd_T103 (rd_L4 x0_1 x7_2) x16_1).f0) ((rd_T103 (rd_L4 x0_1 x7_2) x16_1).f1) t254 _ A14.out).mono ?_); rintro e w19 ⟨rfl, hb⟩; have n0_ := Aside0.mk (Kd.S_below (sx HO_0.out) hb); have n1_ := Aside0.mk (Kd.R_below (rx HO_4.out) hb); have n2_ := Aside0.mk (Kd.R_below (rx HL252_0.out) hb); have n3_ := Aside0.mk (blk_below (g := gb249) (o := .cells #[.string x250000_1, .string x250001_1] 103 (0, 0)) (bx BK249.out) hb); (first | have n4_ := Aside0.mk (Kd.C_below (by repeat (first | (with_reducible exact HR252_0.out) | (with_reducible refine Kd.C_alloc ?_ _) | (with_reducible refine Kd.C_drewN ?_ _) | (with_reducible refine Kd.C_drew ?_) | exact HR252_0.out)) hb) | have n4_ := Aside0.mk True.intro); (first | have n5_ := Aside0.mk (pw_cell_below hb HX252_0.out) | have n5_ := Aside0.mk True.intro); have n6_ := Aside0.mk (Kept.below (S := (fun k_ => P0_ k_)) (by repeat (first | (with_reducible first | exact HK.out | apply Kept.alloc | apply Kept.drewN | apply Kept.drew | refine Kept.setCell ?_ (.inr GW249.out) _) | exact HK.out)) hb); have n7_ := Aside0.mk (below_step (by repeat (first | (with_reducible first | exact HB.out | apply below_alloc | apply pw_below_drewN | apply below_drew1 | refine below_set ?_ GE249.out) | exact HB.out)) hb); clear HO_0; clear HO_4; clear HL252_0; clear BK249; clear HR252_0; clear HX252_0; clear HK; clear HB; have HO_0 := n0_; have HO_4 := n1_; have HL252_0 := n2_; have BK249 := n3_; have HR252_0 := n4_; have HX252_0 := n5_; have HK := n6_; have HB := n7_; clear n0_ n1_ n2_ n3_ n4_ n5_ n6_ n7_; (try clear hb); (try clear hb2); (try clear hk); (try clear hi)))
            go_meet
            case rel => exact ⟨_, (x7_2), (by first | rfl | (simp; done) | (simp [*]; done)), H', ⟨by have := HK1.out; have := HK2.out; first | omega | exact Nat.le_refl _⟩, ⟨by (with_reducible repeat (first | apply Kd.S_alloc | apply Kd.S_drewN | apply Kd.S_drew)); exact HO_0.out⟩, ⟨by (with_reducible repeat (first | apply Kd.R_alloc | apply Kd.R_drewN | apply Kd.R_drew)); exact HO_4.out⟩, ⟨by (with_reducible repeat (first | refine blk_drewN ?_ _ | refine blk_drew ?_ | refine blk_alloc ?_ _)); exact BK249.out⟩, ⟨by repeat (first | (with_reducible first | exact HK.out | apply Kept.alloc | apply Kept.drewN | apply Kept.drew | refine Kept.setCell ?_ (.inr GW249.out) _) | exact HK.out)⟩, ⟨by repeat (first | (with_reducible first | exact HB.out | apply below_alloc | apply pw_below_drewN | apply below_drew1 | refine below_set ?_ GE249.out) | exact HB.out)⟩⟩
          ·rw [if_neg c13] at H
           exact absurd H (by simp)
         ·rw [if_neg c12] at H
          exact absurd H (by simp)
        ·rw [if_neg c11] at H
         exact absurd H (by simp)
       ·rw [if_neg c10] at H
        have c10b0 : decide (x7_2 < (x0_1.length : Int)) = false := decide_eq_false c10
        clear c10
        (first | rw [c10b0] | (simp only [i64_w, i32_w]; rw [c10b0]) | skip)
        have H' := Aside0.mk H
        clear H
        obtain ⟨Ao20, co20, eo20⟩ := Kd.S_slice HO_0.out
        subst eo20
        go_wp2
        go_meet
        case rel => exact ⟨_, (x7_2), (by first | rfl | (simp; done) | (simp [*]; done)), H', ⟨by have := HK1.out; have := HK2.out; first | omega | exact Nat.le_refl _⟩, ⟨by (with_reducible repeat (first | apply Kd.S_alloc | apply Kd.S_drewN | apply Kd.S_drew)); exact HO_0.out⟩, ⟨by (with_reducible repeat (first | apply Kd.R_alloc | apply Kd.R_drewN | apply Kd.R_drew)); exact HO_4.out⟩, ⟨by (with_reducible repeat (first | refine blk_drewN ?_ _ | refine blk_drew ?_ | refine blk_alloc ?_ _)); exact BK249.out⟩, ⟨by repeat (first | (with_reducible first | exact HK.out | apply Kept.alloc | apply Kept.drewN | apply Kept.drew | refine Kept.setCell ?_ (.inr GW249.out) _) | exact HK.out)⟩, ⟨by repeat (first | (with_reducible first | exact HB.out | apply below_alloc | apply pw_below_drewN | apply below_drew1 | refine below_set ?_ GE249.out) | exact HB.out)⟩⟩
    case rest =>
     clear HC8
     try clear c1
     try clear c2
     try clear p2
     try clear q2
     try clear hx2
     try clear p6
     try clear c7
     try clear c7b0
     try clear c9
     try clear c10
     try clear c10b0
     try clear c11
     try clear c11b0
     try clear c12
     try clear c12b0
     try clear c13
     try clear c13b0
     try clear c15
     try clear c15b0
     try clear c15b1
     try clear hcz6_0
     try clear hcz6_1
     try clear hfz6_0
     try clear hfz6_1
     try clear hx252_0
     try clear hx253_0
     try clear hx253_1
     try clear p2
     try clear p252
     try clear p253
     try clear q252
     try clear q253
     obtain ⟨kq, x7_7, rfl, HA, HJ7, HO_0, HO_4, BK249, HK, HB⟩ := hcut
     cases kq with
     | zero => exact absurd HA.out (by simp [table_reduce.j2])
     | succ kj7 =>
      have H := HA.out
      clear HA
      simp only [table_reduce.j2] at H
      by_cases c21 : x7_7 = (x0_1.length : Int)
      ·rw [if_pos c21] at H
       have c21b0 : (x7_7 == (x0_1.length : Int)) = true := beq_iff_eq.mpr c21
       have c21b1 : (x7_7 != (x0_1.length : Int)) = false := bne_eq_false_iff_eq.mpr c21
       clear c21
       replace H := Option.bind_eq_some_iff.mp H
       obtain ⟨⟨t255, t256⟩, A220, H⟩ := H
       replace H : (table_reduce.l0 kj7 x0_1 x4_1 a1 (wrap64 (x16_1 + 1)) t255 t256) = some (r1, r2, r3, r4) := H
       have A22 := Aside0.mk A220
       clear A220
       have H' := Aside0.mk H
       clear H
       obtain ⟨Ao23, co23, eo23⟩ := Kd.S_slice HO_0.out
       subst eo23
       go_wp2_with (first | ((with_reducible refine gate_callee (f := 98) rfl ?_); refine goesL_ (some 42) rfl rfl Tryz.func98 (by kernel_rfl) rfl #[] rfl (by (try simp only [List.map_toArray, List.map_cons, List.map_nil]); first | done | rfl | (simp only [List.length_drop, List.length_take]; rfl)) ?_; (with_reducible refine (table_zero.calls  t255 t256 _ A22.out).mono ?_); rintro e w24 ⟨rfl, hb⟩; refine ⟨_, rfl, ?_⟩; have n0_ := Aside0.mk (Kd.S_below (sx HO_0.out) hb); have n1_ := Aside0.mk (Kd.R_below (rx HO_4.out) hb); have n2_ := Aside0.mk (blk_below (g := gb249) (o := .cells #[.string x250000_1, .string x250001_1] 103 (0, 0)) (bx BK249.out) hb); have n3_ := Aside0.mk (Kept.below (S := (fun k_ => P0_ k_)) (by repeat (first | (with_reducible first | exact HK.out | apply Kept.alloc | apply Kept.drewN | apply Kept.drew | refine Kept.setCell ?_ (.inr GW249.out) _) | exact HK.out)) hb); have n4_ := Aside0.mk (below_step (by repeat (first | (with_reducible first | exact HB.out | apply below_alloc | apply pw_below_drewN | apply below_drew1 | refine below_set ?_ GE249.out) | exact HB.out)) hb); clear HO_0; clear HO_4; clear BK249; clear HK; clear HB; have HO_0 := n0_; have HO_4 := n1_; have BK249 := n2_; have HK := n3_; have HB := n4_; clear n0_ n1_ n2_ n3_ n4_; (try clear hb); (try clear hb2); (try clear hk); (try clear hi); have hcz25_0 : w24.cell? ⟨gb249, 0, none⟩ = some (.string x250000_1) := (blk_cell BK249.out 0).trans rfl; have hcz25_1 : w24.cell? ⟨gb249, 1, none⟩ = some (.string x250001_1) := (blk_cell BK249.out 1).trans rfl; have hfz25_0 := blk_frozen BK249.out 0; have hfz25_1 := blk_frozen BK249.out 1))
       go_roundg kj7
       case measure => have := HK1.out; have := HJ7.out; omega
       case rel => exact ⟨(x0_1), (x4_1), (wrap64 (x16_1 + 1)), (t255), (t256), (by first | rfl | (simp; done) | (simp [*]; done)), H', ⟨by have := HK1.out; have := HJ7.out; omega⟩, ⟨by (with_reducible repeat (first | apply Kd.S_alloc | apply Kd.S_drewN | apply Kd.S_drew)); exact Kd.S_mono (Kd.S_far (p := ⟨gb249, 1, none⟩) (Kd.S_far (p := ⟨gb249, 0, none⟩) (Kd.S_mono HO_0.out (fun k_ hk => (⟨hk, hk.2⟩ : _ ∧ k_ ≠ gb249))) (fun _ hk => hk.2) (.string t255)) (fun _ hk => hk.2) (.string t256)) (fun _ hk => ⟨hk.1.1, hk.1.2⟩)⟩, ⟨by (with_reducible repeat (first | apply Kd.R_alloc | apply Kd.R_drewN | apply Kd.R_drew)); exact Kd.R_mono (Kd.R_far (p := ⟨gb249, 1, none⟩) (Kd.R_far (p := ⟨gb249, 0, none⟩) (Kd.R_types HO_4.out BK249.out (by decide)) (fun _ hk => hk.2) (.string t255)) (fun _ hk => hk.2) (.string t256)) (fun _ hk => hk.1)⟩, ⟨by (with_reducible repeat (first | refine blk_drewN ?_ _ | refine blk_drew ?_ | refine blk_alloc ?_ _)); refine blk_put (cs := #[.string t255, .string x250001_1]) ?_ 1 _ rfl; (with_reducible repeat (first | refine blk_drewN ?_ _ | refine blk_drew ?_ | refine blk_alloc ?_ _)); refine blk_put (cs := #[.string x250000_1, .string x250001_1]) ?_ 0 _ rfl; (with_reducible repeat (first | refine blk_drewN ?_ _ | refine blk_drew ?_ | refine blk_alloc ?_ _)); exact BK249.out⟩, ⟨by repeat (first | (with_reducible first | exact HK.out | apply Kept.alloc | apply Kept.drewN | apply Kept.drew | refine Kept.setCell ?_ (.inr GW249.out) _) | exact HK.out)⟩, ⟨by repeat (first | (with_reducible first | exact HB.out | apply below_alloc | apply pw_below_drewN | apply below_drew1 | refine below_set ?_ GE249.out) | exact HB.out)⟩⟩
      ·rw [if_neg c21] at H
       have c21b0 : (x7_7 == (x0_1.length : Int)) = false := beq_eq_false_iff_ne.mpr c21
       have c21b1 : (x7_7 != (x0_1.length : Int)) = true := bne_iff_ne.mpr c21
       have HC26 := Aside0.mk H
       clear H
       obtain ⟨Ao27, co27, eo27⟩ := Kd.S_slice HO_0.out
       subst eo27
       go_upto_if 47 with (fail)
       go_cut [] (fun wc => ∃ (kq : Nat) (x0_25 : List (List (S103))) (x250000_25 : ByteArray) (x250001_25 : ByteArray), Aside0 (table_reduce.j3 kq x0_25 x4_1 x16_1 (x4_1.length : Int) a1 x16_1 x250000_25 x250001_25 = some (r1, r2, r3, r4)) ∧ Aside0 (kq ≤ kj7) ∧ Aside0 (Kd.S (Kd.slice 103 k103) 39 wc w0.heap.size (fun k_ => (P0_ k_ ∨ w.heap.size ≤ k_) ∧ k_ ≠ gb249) (.slice Ao27 x0_1.length co27) x0_25) ∧ Aside0 (Kd.R (Kd.int .i64) 3 wc w0.heap.size (fun k_ => (P0_ k_ ∨ w.heap.size ≤ k_)) (.slice Ao9 x4_1.length co9) x4_1) ∧ Aside0 (wc.heap[gb249]? = some (.cells #[.string x250000_25, .string x250001_25] 103 (0, 0))) ∧ Aside0 (Kept w wc (fun k_ => P0_ k_)) ∧ Aside0 (Below w0.heap.size w0 wc))
       case first =>
        have H := HC26.out
        clear HC26
        by_cases c28 : x7_7 = (x4_1.length : Int)
        ·rw [if_pos c28] at H
         have c28b0 : (x7_7 == (x4_1.length : Int)) = true := beq_iff_eq.mpr c28
         have c28b1 : (x7_7 != (x4_1.length : Int)) = false := bne_eq_false_iff_eq.mpr c28
         clear c28
         (first | rw [c28b0] | (simp only [i64_w, i32_w]; rw [c28b0]) | skip)
         have H' := Aside0.mk H
         clear H
         go_wp2
         go_meet
         case rel => exact ⟨_, (x0_1), (x250000_1), (x250001_1), H', ⟨by have := HK1.out; have := HJ7.out; first | omega | exact Nat.le_refl _⟩, ⟨by (with_reducible repeat (first | apply Kd.S_alloc | apply Kd.S_drewN | apply Kd.S_drew)); exact HO_0.out⟩, ⟨by (with_reducible repeat (first | apply Kd.R_alloc | apply Kd.R_drewN | apply Kd.R_drew)); exact HO_4.out⟩, ⟨by (with_reducible repeat (first | refine blk_drewN ?_ _ | refine blk_drew ?_ | refine blk_alloc ?_ _)); exact BK249.out⟩, ⟨by repeat (first | (with_reducible first | exact HK.out | apply Kept.alloc | apply Kept.drewN | apply Kept.drew | refine Kept.setCell ?_ (.inr GW249.out) _) | exact HK.out)⟩, ⟨by repeat (first | (with_reducible first | exact HB.out | apply below_alloc | apply pw_below_drewN | apply below_drew1 | refine below_set ?_ GE249.out) | exact HB.out)⟩⟩
        ·rw [if_neg c28] at H
         have c28b0 : (x7_7 == (x4_1.length : Int)) = false := beq_eq_false_iff_ne.mpr c28
         have c28b1 : (x7_7 != (x4_1.length : Int)) = true := bne_iff_ne.mpr c28
         (first | rw [c28b0] | (simp only [i64_w, i32_w]; rw [c28b0]) | skip)
         by_cases c29 : 0 ≤ (x4_1.length : Int)
         ·rw [if_pos c29] at H
          have c29b0 : decide (0 ≤ (x4_1.length : Int)) = true := decide_eq_true c29
          have c29b1 : decide (0 ≤ x4_1.length) = true := decide_eq_true (by omega)
          clear c29
          by_cases c30 : (x4_1.length : Int) < (x0_1.length : Int)
          ·rw [if_pos c30] at H
           have c30b0 : decide ((x4_1.length : Int) < (x0_1.length : Int)) = true := decide_eq_true c30
           have c30b1 : decide (x4_1.length < x0_1.length) = true := decide_eq_true (Int.ofNat_lt.mp c30)
           clear c30
           by_cases c31 : 0 ≤ x7_7
           ·rw [if_pos c31] at H
            have c31b0 : decide (0 ≤ x7_7) = true := decide_eq_true c31
            clear c31
            by_cases c32 : x7_7 < (x0_1.length : Int)
            ·rw [if_pos c32] at H
             have c32b0 : decide (x7_7 < (x0_1.length : Int)) = true := decide_eq_true c32
             clear c32
             obtain ⟨y257, hy257⟩ : ∃ y_ : List (List (S103)), y_ = (swapL [] x0_1 ((x4_1.length : Int) : Int).toNat (x7_7 : Int).toNat) := ⟨_, rfl⟩
             replace H : ((fraction_Neg.f x250000_1 x250001_1).bind fun bt258 => (table_reduce.j3 kj7 y257 x4_1 x16_1 (x4_1.length : Int) a1 x16_1 bt258.1 bt258.2)) = some (r1, r2, r3, r4) := by first | (rw [hy257]; with_reducible exact H) | (have H2_ := (Option.bind_some _ _).symm.trans H; rw [hy257]; with_reducible exact H2_) | (have H2_ := (Option.bind_some _ _).symm.trans H; with_reducible exact H2_) | with_reducible exact H | (rw [hy257]; exact H) | exact H
             have Ny257 := Aside0.mk hy257
             clear hy257
             replace H := Option.bind_eq_some_iff.mp H
             obtain ⟨⟨t258, t259⟩, A330, H⟩ := H
             replace H : (table_reduce.j3 kj7 y257 x4_1 x16_1 (x4_1.length : Int) a1 x16_1 t258 t259) = some (r1, r2, r3, r4) := H
             have A33 := Aside0.mk A330
             clear A330
             have H' := Aside0.mk H
             clear H
             try go_wp2
             obtain ⟨gsw, Asi, Asj, nsi, nsj, csi, csj, esw, hxs1, hxs2, hfs1, hfs2, hgb_, hgo_, ⟨cur_, hcur_⟩, hsw_⟩ := S_swap HO_0.out ((x4_1.length : Int) : Int).toNat (x7_7 : Int).toNat (by have h2_ : (x4_1.length : Int) < (x0_1.length : Int) := (by first | omega | exact of_decide_eq_true (by first | (with_reducible assumption) | assumption)); first | omega | (have h1_ : 0 ≤ ((x4_1.length : Int) : Int) := of_decide_eq_true (by first | (with_reducible assumption) | assumption); omega)) (by have h2_ : x7_7 < (x0_1.length : Int) := (by first | omega | exact of_decide_eq_true (by first | (with_reducible assumption) | assumption)); first | omega | (have h1_ : 0 ≤ (x7_7 : Int) := of_decide_eq_true (by first | (with_reducible assumption) | assumption); omega))
             (first | subst esw | (injection esw with esw; subst esw))
             (try simp only [Int.toNat_natCast] at hxs1 hxs2 hfs1 hfs2 hsw_)
             have HSW := Aside0.mk hsw_
             have HSB := Aside0.mk hgb_
             have HSO := Aside0.mk hgo_
             have HSC := Aside0.mk hcur_
             clear hsw_ hgb_ hgo_ hcur_
             have : (x4_1.length : Int) < (x0_1.length : Int) := (by first | omega | exact of_decide_eq_true (by first | (with_reducible assumption) | assumption))
             have : 0 ≤ ((x4_1.length : Int) : Int) := (by first | omega | exact of_decide_eq_true (by first | (with_reducible assumption) | assumption))
             have : x4_1.length < x0_1.length := by omega
             have : x7_7 < (x0_1.length : Int) := (by first | omega | exact of_decide_eq_true (by first | (with_reducible assumption) | assumption))
             have : 0 ≤ (x7_7 : Int) := (by first | omega | exact of_decide_eq_true (by first | (with_reducible assumption) | assumption))
             have : (x7_7 : Int).toNat < x0_1.length := by omega
             go_region
             have hs_ := HSW.out _ rfl
             have m0_ := Aside0.mk (Kd.S_drew (S_eq hs_.1 Ny257.out))
             have m1_ := Aside0.mk (Kd.R_drew (Kd.R_mono (Kd.R_grown (Kd.R_types HO_4.out HSC.out (by decide)) hs_.2 (fun _ h_ e_ => h_.2 (Option.some.inj e_))) (fun _ h_ => h_.1)))
             have m2_ := Aside0.mk (blk_drew (blk_grown BK249.out hs_.2 (fun e_ => HSO.out.2 (Option.some.inj e_).symm)))
             have m3_ := Aside0.mk (Kept.drew (Kept.of_grown hs_.2 HK.out (fun k_ e_ => by injection e_ with e_; subst e_; first | exact HSO.out | exact HSO.out.1)))
             have m4_ := Aside0.mk (below_drew1 (Below.grown HB.out hs_.2 HB.out.size (fun k_ e_ => by injection e_ with e_; subst e_; exact HSB.out)))
             clear hs_ HSW HSC HSO HSB HO_0 HO_4 BK249 HK HB
             revert m0_ m1_ m2_ m3_ m4_
             generalize (World.setCell (World.setCell _ _ _) _ _).drew = wc
             intro HO_0 HO_4 BK249 HK HB
             have hcz34_0 : wc.cell? ⟨gb249, 0, none⟩ = some (.string x250000_1) := (blk_cell BK249.out 0).trans rfl
             have hcz34_1 : wc.cell? ⟨gb249, 1, none⟩ = some (.string x250001_1) := (blk_cell BK249.out 1).trans rfl
             have hfz34_0 := blk_frozen BK249.out 0
             have hfz34_1 := blk_frozen BK249.out 1
             go_wp2_with (first | ((with_reducible refine gate_callee (f := 166) rfl ?_); refine goesL_ (some 63) rfl rfl Tryz.func166 (by kernel_rfl) rfl #[.agg #[.string x250000_1, .string x250001_1]] rfl (by (try simp only [List.map_toArray, List.map_cons, List.map_nil]); first | done | rfl | (simp only [List.length_drop, List.length_take]; rfl)) ?_; (with_reducible refine (fraction_Neg.calls x250000_1 x250001_1 t258 t259 _ A33.out).mono ?_); rintro e w35 ⟨rfl, hb⟩; refine ⟨_, rfl, ?_⟩; have n0_ := Aside0.mk (Kd.S_below (sx HO_0.out) hb); have n1_ := Aside0.mk (Kd.R_below (rx HO_4.out) hb); have n2_ := Aside0.mk (blk_below (g := gb249) (o := .cells #[.string x250000_1, .string x250001_1] 103 (0, 0)) (bx BK249.out) hb); have n3_ := Aside0.mk (Kept.below (S := (fun k_ => P0_ k_)) (by repeat (first | (with_reducible first | exact HK.out | apply Kept.alloc | apply Kept.drewN | apply Kept.drew | refine Kept.setCell ?_ (.inr GW249.out) _) | exact HK.out)) hb); have n4_ := Aside0.mk (below_step (by repeat (first | (with_reducible first | exact HB.out | apply below_alloc | apply pw_below_drewN | apply below_drew1 | refine below_set ?_ GE249.out) | exact HB.out)) hb); clear HO_0; clear HO_4; clear BK249; clear HK; clear HB; have HO_0 := n0_; have HO_4 := n1_; have BK249 := n2_; have HK := n3_; have HB := n4_; clear n0_ n1_ n2_ n3_ n4_; (try clear hb); (try clear hb2); (try clear hk); (try clear hi); have hcz36_0 : w35.cell? ⟨gb249, 0, none⟩ = some (.string x250000_1) := (blk_cell BK249.out 0).trans rfl; have hcz36_1 : w35.cell? ⟨gb249, 1, none⟩ = some (.string x250001_1) := (blk_cell BK249.out 1).trans rfl; have hfz36_0 := blk_frozen BK249.out 0; have hfz36_1 := blk_frozen BK249.out 1))
             go_meet
             case rel => exact ⟨_, (y257), (t258), (t259), H', ⟨by have := HK1.out; have := HJ7.out; first | omega | exact Nat.le_refl _⟩, ⟨by (with_reducible repeat (first | apply Kd.S_alloc | apply Kd.S_drewN | apply Kd.S_drew)); exact Kd.S_mono (Kd.S_far (p := ⟨gb249, 1, none⟩) (Kd.S_far (p := ⟨gb249, 0, none⟩) (Kd.S_mono HO_0.out (fun k_ hk => (⟨hk, hk.2⟩ : _ ∧ k_ ≠ gb249))) (fun _ hk => hk.2) (.string t258)) (fun _ hk => hk.2) (.string t259)) (fun _ hk => ⟨hk.1.1, hk.1.2⟩)⟩, ⟨by (with_reducible repeat (first | apply Kd.R_alloc | apply Kd.R_drewN | apply Kd.R_drew)); exact Kd.R_mono (Kd.R_far (p := ⟨gb249, 1, none⟩) (Kd.R_far (p := ⟨gb249, 0, none⟩) (Kd.R_types HO_4.out BK249.out (by decide)) (fun _ hk => hk.2) (.string t258)) (fun _ hk => hk.2) (.string t259)) (fun _ hk => hk.1)⟩, ⟨by (with_reducible repeat (first | refine blk_drewN ?_ _ | refine blk_drew ?_ | refine blk_alloc ?_ _)); refine blk_put (cs := #[.string t258, .string x250001_1]) ?_ 1 _ rfl; (with_reducible repeat (first | refine blk_drewN ?_ _ | refine blk_drew ?_ | refine blk_alloc ?_ _)); refine blk_put (cs := #[.string x250000_1, .string x250001_1]) ?_ 0 _ rfl; (with_reducible repeat (first | refine blk_drewN ?_ _ | refine blk_drew ?_ | refine blk_alloc ?_ _)); exact BK249.out⟩, ⟨by repeat (first | (with_reducible first | exact HK.out | apply Kept.alloc | apply Kept.drewN | apply Kept.drew | refine Kept.setCell ?_ (.inr GW249.out) _) | exact HK.out)⟩, ⟨by repeat (first | (with_reducible first | exact HB.out | apply below_alloc | apply pw_below_drewN | apply below_drew1 | refine below_set ?_ GE249.out) | exact HB.out)⟩⟩
            ·rw [if_neg c32] at H
             exact absurd H (by simp)
           ·rw [if_neg c31] at H
            exact absurd H (by simp)
          ·rw [if_neg c30] at H
           exact absurd H (by simp)
         ·rw [if_neg c29] at H
          exact absurd H (by simp)
       case rest =>
        clear HC26
        try clear c1
        try clear c2
        try clear p2
        try clear q2
        try clear hx2
        try clear c3
        try clear p6
        try clear c7
        try clear c7b0
        try clear c9
        try clear c10
        try clear c10b0
        try clear c11
        try clear c11b0
        try clear c12
        try clear c12b0
        try clear c13
        try clear c13b0
        try clear c15
        try clear c15b0
        try clear c15b1
        try clear c16
        try clear c21
        try clear c21b0
        try clear c21b1
        try clear c25
        try clear p25
        try clear q25
        try clear hx25
        try clear c28
        try clear c28b0
        try clear c28b1
        try clear c29
        try clear c29b0
        try clear c29b1
        try clear c30
        try clear c30b0
        try clear c30b1
        try clear c31
        try clear c31b0
        try clear c32
        try clear c32b0
        try clear hcz25_0
        try clear hcz25_1
        try clear hcz34_0
        try clear hcz34_1
        try clear hcz36_0
        try clear hcz36_1
        try clear hcz6_0
        try clear hcz6_1
        try clear hfz25_0
        try clear hfz25_1
        try clear hfz34_0
        try clear hfz34_1
        try clear hfz36_0
        try clear hfz36_1
        try clear hfz6_0
        try clear hfz6_1
        try clear hx252_0
        try clear hx253_0
        try clear hx253_1
        try clear p2
        try clear p252
        try clear p253
        try clear p6
        try clear q2
        try clear q252
        try clear q253
        obtain ⟨kq, x0_25, x250000_25, x250001_25, HA, HJ25, HO_0, HO_4, BK249, HK, HB⟩ := hcut
        have hl0_25 := (Kd.S_reads' HO_0.out).1
        rw [hl0_25] at HO_0
        (try simp only [hl0_25])
        (try simp only [hl0_25] at BK249)
        (try simp only [hl0_25] at HO_4)
        cases kq with
        | zero => exact absurd HA.out (by simp [table_reduce.j3])
        | succ kj25 =>
         have H := HA.out
         clear HA
         simp only [table_reduce.j3] at H
         by_cases c37 : 0 ≤ (x4_1.length : Int)
         ·rw [if_pos c37] at H
          have c37b0 : decide (0 ≤ (x4_1.length : Int)) = true := decide_eq_true c37
          have c37b1 : decide (0 ≤ x4_1.length) = true := decide_eq_true (by omega)
          clear c37
          by_cases c38 : (x4_1.length : Int) < (x0_25.length : Int)
          ·rw [if_pos c38] at H
           have c38b0 : decide ((x4_1.length : Int) < (x0_25.length : Int)) = true := decide_eq_true c38
           have c38b1 : decide (x4_1.length < x0_25.length) = true := decide_eq_true (Int.ofNat_lt.mp c38)
           clear c38
           by_cases c39 : 0 ≤ x16_1
           ·rw [if_pos c39] at H
            have c39b0 : decide (0 ≤ x16_1) = true := decide_eq_true c39
            clear c39
            by_cases c40 : x16_1 < ((rd_L4 x0_25 (x4_1.length : Int)).length : Int)
            ·rw [if_pos c40] at H
             have c40b0 : decide (x16_1 < ((rd_L4 x0_25 (x4_1.length : Int)).length : Int)) = true := decide_eq_true c40
             clear c40
             replace H := Option.bind_eq_some_iff.mp H
             obtain ⟨⟨t263, t264⟩, A410, H⟩ := H
             replace H : (table_reduce.l2 kj25 x0_25 x4_1 x16_1 (x4_1.length : Int) a1 x16_1 ((rd_L4 x0_25 (x4_1.length : Int)).length : Int) 0 t263 t264 ((rd_T103 (rd_L4 x0_25 (x4_1.length : Int)) x16_1).f0) ((rd_T103 (rd_L4 x0_25 (x4_1.length : Int)) x16_1).f1)) = some (r1, r2, r3, r4) := H
             have A41 := Aside0.mk A410
             clear A410
             have H' := Aside0.mk H
             clear H
             have p260 : 0 ≤ ((x4_1.length : Int) : Int) := of_decide_eq_true (by first | (with_reducible assumption) | assumption)
             have q260 : (x4_1.length : Int) < (x0_25.length : Int) := of_decide_eq_true (by first | (with_reducible assumption) | assumption)
             obtain ⟨ad260, A260_0, c260_0, e260, hx260_0, hl260_0, hi260_0⟩ := at_L4 (Kd.S_reads' HO_0.out).2.2 (x4_1.length : Int) p260 q260
             cases e260
             obtain ⟨ce260, hce260, hMe260, hcc260⟩ := Kd.S_get HO_0.out [] (x4_1.length : Int) p260 (by first | exact q260 | exact of_decide_eq_true (by first | (with_reducible assumption) | assumption) | (have e_ := (Kd.S_reads' HO_0.out).1; omega))
             obtain ⟨ve260_0, rfl, ge260_0⟩ := hMe260
             have hv260_0 := hcc260 0 _ rfl
             rw [Nat.add_zero, show ((Kd.slice 103 k103)).sz = 1 from rfl, Nat.mul_one] at hv260_0
             replace hv260_0 := Option.some.inj (hv260_0.symm.trans hx260_0)
             rw [hv260_0] at ge260_0
             have HL260_0 := Aside0.mk (show Kd.R k103 103 _ _ _ _ (rd_L4 x0_25 (x4_1.length : Int)) from ge260_0)
             clear hv260_0 ge260_0
             have HX260_0 := Aside0.mk hx260_0
             clear hcc260 hce260
             have HR260_0 := Aside0.mk hi260_0
             have HC260_0 := Aside0.mk hl260_0
             clear hi260_0 hl260_0
             (try simp only [Go.IntWalk.toNatUp] at hx260_0)
             (try simp only [hl0_25] at p260)
             (try simp only [hl0_25] at q260)
             (try simp only [hl0_25] at hx260_0)
             replace p260 := eq_true p260
             replace q260 := eq_true q260
             have p261 : 0 ≤ (x16_1 : Int) := of_decide_eq_true (by first | (with_reducible assumption) | assumption)
             have q261 : x16_1 < ((rd_L4 x0_25 (x4_1.length : Int)).length : Int) := of_decide_eq_true (by first | (with_reducible assumption) | assumption)
             obtain ⟨ad261, e261, hx261_0, hx261_1⟩ := at_T103 (by repeat (first | (with_reducible exact HR260_0.out) | (with_reducible refine Kd.C_alloc ?_ _) | (with_reducible refine Kd.C_drewN ?_ _) | (with_reducible refine Kd.C_drew ?_) | exact HR260_0.out)) x16_1 p261 q261
             cases e261
             replace p261 := eq_true p261
             replace q261 := eq_true q261
             go_wp2_with (first | ((with_reducible refine gate_dst (N := 9) rfl ?_); refine box_event ?hg (N := 9) ?hd (cs := #[.string (⟨#[]⟩ : ByteArray), .string (⟨#[]⟩ : ByteArray)]) (t := 103) ?hr ?_; (case hd => rfl); (case hg => rfl); (case hr => first | (go_simp; done) | (go_simp; rfl)); intro gb262 hg w42 hbox hb; have n0_ := Aside0.mk (Kd.S_below (Kd.S_elderB (sx HO_0.out) gb262 (Nat.le_of_eq hg.symm)) hb); have n1_ := Aside0.mk (Kd.R_below (rx HO_4.out) hb); have n2_ := Aside0.mk (Kd.R_below (Kd.R_elderB (rx HL260_0.out) gb262 (Nat.le_of_eq hg.symm)) hb); have n3_ := Aside0.mk (blk_below (g := gb249) (o := .cells #[.string x250000_25, .string x250001_25] 103 (0, 0)) (bx BK249.out) hb); (first | have n4_ := Aside0.mk (Kd.C_below (by repeat (first | (with_reducible exact HR260_0.out) | (with_reducible refine Kd.C_alloc ?_ _) | (with_reducible refine Kd.C_drewN ?_ _) | (with_reducible refine Kd.C_drew ?_) | exact HR260_0.out)) hb) | have n4_ := Aside0.mk True.intro); (first | have n5_ := Aside0.mk (pw_cell_below hb HX260_0.out) | have n5_ := Aside0.mk True.intro); have n6_ := Aside0.mk (Kept.below (S := (fun k_ => P0_ k_)) (by repeat (first | (with_reducible first | exact HK.out | apply Kept.alloc | apply Kept.drewN | apply Kept.drew | refine Kept.setCell ?_ (.inr GW249.out) _) | exact HK.out)) hb); have n7_ := Aside0.mk (below_step (by repeat (first | (with_reducible first | exact HB.out | apply below_alloc | apply pw_below_drewN | apply below_drew1 | refine below_set ?_ GE249.out) | exact HB.out)) hb); have n8_ := Aside0.mk (hbox); have n9_ := Aside0.mk ((by rw [hg]; exact (by first | exact HK.out.1 | exact (show Kept w _ (fun k_ => P0_ k_) from by repeat (first | (with_reducible first | exact HK.out | apply Kept.alloc | apply Kept.drewN | apply Kept.drew | refine Kept.setCell ?_ (.inr GW249.out) _) | exact HK.out)).1) : w.heap.size ≤ gb262)); have n10_ := Aside0.mk ((by rw [hg]; exact (below_size (by repeat (first | (with_reducible first | exact HB.out | apply below_alloc | apply pw_below_drewN | apply below_drew1 | refine below_set ?_ GE249.out) | exact HB.out))) : w0.heap.size ≤ gb262)); have n11_ := Aside0.mk ((by rw [hg]; exact Nat.ne_of_lt (blk_lt (g := gb249) (o := .cells #[.string x250000_25, .string x250001_25] 103 (0, 0)) (bx BK249.out)) : gb249 ≠ gb262)); have n12_ := Aside0.mk ((by rw [hg]; exact Nat.ne_of_gt (blk_lt (g := gb249) (o := .cells #[.string x250000_25, .string x250001_25] 103 (0, 0)) (bx BK249.out)) : gb262 ≠ gb249)); clear HO_0; clear HO_4; clear HL260_0; clear BK249; clear HR260_0; clear HX260_0; clear HK; clear HB; have HO_0 := n0_; have HO_4 := n1_; have HL260_0 := n2_; have BK249 := n3_; have HR260_0 := n4_; have HX260_0 := n5_; have HK := n6_; have HB := n7_; have BK262 := n8_; have GW262 := n9_; have GE262 := n10_; have NB249_262 := n11_; have NB262_249 := n12_; clear n0_ n1_ n2_ n3_ n4_ n5_ n6_ n7_ n8_ n9_ n10_ n11_ n12_; clear hb hbox hg; have hnb43 := NB262_249.out; have hnc43 := NB249_262.out; have hcz44_0 : w42.cell? ⟨gb262, 0, none⟩ = some (.string (⟨#[]⟩ : ByteArray)) := (blk_cell BK262.out 0).trans rfl; have hcz44_1 : w42.cell? ⟨gb262, 1, none⟩ = some (.string (⟨#[]⟩ : ByteArray)) := (blk_cell BK262.out 1).trans rfl; have hfz44_0 := blk_frozen BK262.out 0; have hfz44_1 := blk_frozen BK262.out 1; have hcz45_0 : w42.cell? ⟨gb249, 0, none⟩ = some (.string x250000_25) := (blk_cell BK249.out 0).trans rfl; have hcz45_1 : w42.cell? ⟨gb249, 1, none⟩ = some (.string x250001_25) := (blk_cell BK249.out 1).trans rfl; have hfz45_0 := blk_frozen BK249.out 0; have hfz45_1 := blk_frozen BK249.out 1) | ((with_reducible refine gate_callee (f := 76) rfl ?_); refine goesL_ (some 73) rfl rfl Tryz.func76 (by kernel_rfl) rfl #[.agg #[.string x250000_25, .string x250001_25], .agg #[.string ((rd_T103 (rd_L4 x0_25 (x4_1.length : Int)) x16_1).f0), .string ((rd_T103 (rd_L4 x0_25 (x4_1.length : Int)) x16_1).f1)]] rfl (by (try simp only [List.map_toArray, List.map_cons, List.map_nil]); first | done | rfl | (simp only [List.length_drop, List.length_take]; rfl)) ?_; (with_reducible refine (fraction_Mul.calls kj25 x250000_25 x250001_25 ((rd_T103 (rd_L4 x0_25 (x4_1.length : Int)) x16_1).f0) ((rd_T103 (rd_L4 x0_25 (x4_1.length : Int)) x16_1).f1) t263 t264 _ ?gG A41.out).mono ?_); (case gG => first | exact HG.out | exact GW.below HG.out (by repeat (first | (with_reducible first | exact HB.out | apply below_alloc | apply pw_below_drewN | apply below_drew1 | refine below_set ?_ GE249.out | refine below_set ?_ GE262.out) | exact HB.out))); rintro e w46 ⟨rfl, hb⟩; refine ⟨_, rfl, ?_⟩; have n0_ := Aside0.mk (Kd.S_below (by (with_reducible repeat (first | apply Kd.S_alloc | apply Kd.S_drewN | apply Kd.S_drew)); exact (Kd.S_mono (Kd.S_far (p := ⟨gb262, 1, none⟩) (Kd.S_far (p := ⟨gb262, 0, none⟩) (Kd.S_mono HO_0.out (fun k_ hk => (⟨hk, hk.2⟩ : _ ∧ k_ ≠ gb262))) (fun _ hk => hk.2) (.string ((rd_T103 (rd_L4 x0_25 (x4_1.length : Int)) x16_1).f0))) (fun _ hk => hk.2) (.string ((rd_T103 (rd_L4 x0_25 (x4_1.length : Int)) x16_1).f1))) (fun _ h_ => h_.1))) hb); have n1_ := Aside0.mk (Kd.R_below (by (with_reducible repeat (first | apply Kd.R_alloc | apply Kd.R_drewN | apply Kd.R_drew)); exact (Kd.R_mono (Kd.R_far (p := ⟨gb262, 1, none⟩) (Kd.R_far (p := ⟨gb262, 0, none⟩) (Kd.R_types HO_4.out BK262.out (by decide)) (fun _ hk => hk.2) (.string ((rd_T103 (rd_L4 x0_25 (x4_1.length : Int)) x16_1).f0))) (fun _ hk => hk.2) (.string ((rd_T103 (rd_L4 x0_25 (x4_1.length : Int)) x16_1).f1))) (fun _ h_ => h_.1))) hb); have n2_ := Aside0.mk (Kd.R_below (by (with_reducible repeat (first | apply Kd.R_alloc | apply Kd.R_drewN | apply Kd.R_drew)); exact (Kd.R_mono (Kd.R_far (p := ⟨gb262, 1, none⟩) (Kd.R_far (p := ⟨gb262, 0, none⟩) (Kd.R_mono HL260_0.out (fun k_ hk => (⟨hk, hk.2⟩ : _ ∧ k_ ≠ gb262))) (fun _ hk => hk.2) (.string ((rd_T103 (rd_L4 x0_25 (x4_1.length : Int)) x16_1).f0))) (fun _ hk => hk.2) (.string ((rd_T103 (rd_L4 x0_25 (x4_1.length : Int)) x16_1).f1))) (fun _ h_ => h_.1))) hb); have n3_ := Aside0.mk (blk_below (g := gb249) (o := .cells #[.string x250000_25, .string x250001_25] 103 (0, 0)) (by (with_reducible repeat (first | refine blk_drewN ?_ _ | refine blk_drew ?_ | refine blk_alloc ?_ _)); refine blk_far ?_ NB249_262.out _; (with_reducible repeat (first | refine blk_drewN ?_ _ | refine blk_drew ?_ | refine blk_alloc ?_ _)); refine blk_far ?_ NB249_262.out _; (with_reducible repeat (first | refine blk_drewN ?_ _ | refine blk_drew ?_ | refine blk_alloc ?_ _)); exact BK249.out) hb); (first | have n4_ := Aside0.mk (Kd.C_below ((Kd.R_reads' (by (with_reducible repeat (first | apply Kd.R_alloc | apply Kd.R_drewN | apply Kd.R_drew)); exact (Kd.R_mono (Kd.R_far (p := ⟨gb262, 1, none⟩) (Kd.R_far (p := ⟨gb262, 0, none⟩) (Kd.R_mono HL260_0.out (fun k_ hk => (⟨hk, hk.2⟩ : _ ∧ k_ ≠ gb262))) (fun _ hk => hk.2) (.string ((rd_T103 (rd_L4 x0_25 (x4_1.length : Int)) x16_1).f0))) (fun _ hk => hk.2) (.string ((rd_T103 (rd_L4 x0_25 (x4_1.length : Int)) x16_1).f1))) (fun _ h_ => h_.1)))).2.2) hb) | have n4_ := Aside0.mk True.intro); (first | have n5_ := Aside0.mk (pw_cell_below hb HX260_0.out) | have n5_ := Aside0.mk True.intro); have n6_ := Aside0.mk (blk_below (g := gb262) (o := .cells #[.string ((rd_T103 (rd_L4 x0_25 (x4_1.length : Int)) x16_1).f0), .string ((rd_T103 (rd_L4 x0_25 (x4_1.length : Int)) x16_1).f1)] 103 (0, 0)) (by (with_reducible repeat (first | refine blk_drewN ?_ _ | refine blk_drew ?_ | refine blk_alloc ?_ _)); refine blk_put (cs := #[.string ((rd_T103 (rd_L4 x0_25 (x4_1.length : Int)) x16_1).f0), .string (⟨#[]⟩ : ByteArray)]) ?_ 1 _ rfl; (with_reducible repeat (first | refine blk_drewN ?_ _ | refine blk_drew ?_ | refine blk_alloc ?_ _)); refine blk_put (cs := #[.string (⟨#[]⟩ : ByteArray), .string (⟨#[]⟩ : ByteArray)]) ?_ 0 _ rfl; (with_reducible repeat (first | refine blk_drewN ?_ _ | refine blk_drew ?_ | refine blk_alloc ?_ _)); exact BK262.out) hb); have n7_ := Aside0.mk (Kept.below (S := (fun k_ => P0_ k_)) (by repeat (first | (with_reducible first | exact HK.out | apply Kept.alloc | apply Kept.drewN | apply Kept.drew | refine Kept.setCell ?_ (.inr GW249.out) _ | refine Kept.setCell ?_ (.inr GW262.out) _) | exact HK.out)) hb); have n8_ := Aside0.mk (below_step (by repeat (first | (with_reducible first | exact HB.out | apply below_alloc | apply pw_below_drewN | apply below_drew1 | refine below_set ?_ GE249.out | refine below_set ?_ GE262.out) | exact HB.out)) hb); clear HO_0; clear HO_4; clear HL260_0; clear BK249; clear HR260_0; clear HX260_0; clear BK262; clear HK; clear HB; have HO_0 := n0_; have HO_4 := n1_; have HL260_0 := n2_; have BK249 := n3_; have HR260_0 := n4_; have HX260_0 := n5_; have BK262 := n6_; have HK := n7_; have HB := n8_; clear n0_ n1_ n2_ n3_ n4_ n5_ n6_ n7_ n8_; (try clear hb); (try clear hb2); (try clear hk); (try clear hi); have hcz47_0 : w46.cell? ⟨gb249, 0, none⟩ = some (.string x250000_25) := (blk_cell BK249.out 0).trans rfl; have hcz47_1 : w46.cell? ⟨gb249, 1, none⟩ = some (.string x250001_25) := (blk_cell BK249.out 1).trans rfl; have hfz47_0 := blk_frozen BK249.out 0; have hfz47_1 := blk_frozen BK249.out 1) | ((with_reducible refine gate_store (t := 103) (p := 5) rfl ?_); refine store_event (t := 103) (p := 5) (v := ?vo_w48) (w1 := ((w46.setCell ⟨gb249, 0, none⟩ (.string t263)).setCell ⟨gb249, 1, none⟩ (.string t264))) ?hg ?ho ?hn ?hr ?_; (case ho => rfl); (case hg => rfl); (case hn => rfl); (case hr => first | (go_simp; done) | (go_simp; rfl)); intro w48 hw; have n0_ : Aside0 (Kd.S (Kd.slice 103 k103) 39 w48 w0.heap.size (fun k_ => (P0_ k_ ∨ w.heap.size ≤ k_) ∧ k_ ≠ gb249 ∧ k_ ≠ gb262) (.slice (some ad260) x0_25.length co27) x0_25) := ⟨(by rw [hw]; exact (by (with_reducible repeat (first | apply Kd.S_alloc | apply Kd.S_drewN | apply Kd.S_drew)); exact Kd.S_mono (Kd.S_far (p := ⟨gb249, 1, none⟩) (Kd.S_far (p := ⟨gb249, 0, none⟩) (Kd.S_mono HO_0.out (fun k_ hk => (⟨hk, hk.1.2⟩ : _ ∧ k_ ≠ gb249))) (fun _ hk => hk.2) (.string t263)) (fun _ hk => hk.2) (.string t264)) (fun _ hk => ⟨hk.1.1.1, ⟨hk.1.1.2, hk.1.2⟩⟩)))⟩; have n1_ : Aside0 (Kd.R (Kd.int .i64) 3 w48 w0.heap.size (fun k_ => (P0_ k_ ∨ w.heap.size ≤ k_)) (.slice Ao9 x4_1.length co9) x4_1) := ⟨(by rw [hw]; exact (by (with_reducible repeat (first | apply Kd.R_alloc | apply Kd.R_drewN | apply Kd.R_drew)); exact Kd.R_mono (Kd.R_far (p := ⟨gb249, 1, none⟩) (Kd.R_far (p := ⟨gb249, 0, none⟩) (Kd.R_types HO_4.out BK249.out (by decide)) (fun _ hk => hk.2) (.string t263)) (fun _ hk => hk.2) (.string t264)) (fun _ hk => hk.1)))⟩; have n2_ : Aside0 (Kd.R k103 103 w48 w0.heap.size (fun k_ => (P0_ k_ ∨ w.heap.size ≤ k_) ∧ some k_ ≠ (.slice (some ad260) x0_25.length co27 : Value).ownBlock ∧ k_ ≠ gb249 ∧ k_ ≠ gb262) (.slice (some ad261) (rd_L4 x0_25 (x4_1.length : Int)).length c260_0) (rd_L4 x0_25 (x4_1.length : Int))) := ⟨(by rw [hw]; exact (by (with_reducible repeat (first | apply Kd.R_alloc | apply Kd.R_drewN | apply Kd.R_drew)); exact Kd.R_mono (Kd.R_far (p := ⟨gb249, 1, none⟩) (Kd.R_far (p := ⟨gb249, 0, none⟩) (Kd.R_mono HL260_0.out (fun k_ hk => (⟨hk, hk.1.1.2⟩ : _ ∧ k_ ≠ gb249))) (fun _ hk => hk.2) (.string t263)) (fun _ hk => hk.2) (.string t264)) (fun _ hk => ⟨hk.1.1.1.1, ⟨hk.1.1.2, ⟨hk.1.1.1.2, hk.1.2⟩⟩⟩)))⟩; have n3_ : Aside0 (w48.heap[gb249]? = some (.cells #[.string t263, .string t264] 103 (0, 0))) := ⟨(by rw [hw]; exact (by (with_reducible repeat (first | refine blk_drewN ?_ _ | refine blk_drew ?_ | refine blk_alloc ?_ _)); refine blk_put (cs := #[.string t263, .string x250001_25]) ?_ 1 _ rfl; (with_reducible repeat (first | refine blk_drewN ?_ _ | refine blk_drew ?_ | refine blk_alloc ?_ _)); refine blk_put (cs := #[.string x250000_25, .string x250001_25]) ?_ 0 _ rfl; (with_reducible repeat (first | refine blk_drewN ?_ _ | refine blk_drew ?_ | refine blk_alloc ?_ _)); exact BK249.out))⟩; have n4_ : Aside0 (w48.heap[gb262]? = some (.cells #[.string ((rd_T103 (rd_L4 x0_25 (x4_1.length : Int)) x16_1).f0), .string ((rd_T103 (rd_L4 x0_25 (x4_1.length : Int)) x16_1).f1)] 103 (0, 0))) := ⟨(by rw [hw]; exact (by (with_reducible repeat (first | refine blk_drewN ?_ _ | refine blk_drew ?_ | refine blk_alloc ?_ _)); refine blk_far ?_ NB262_249.out _; (with_reducible repeat (first | refine blk_drewN ?_ _ | refine blk_drew ?_ | refine blk_alloc ?_ _)); refine blk_far ?_ NB262_249.out _; (with_reducible repeat (first | refine blk_drewN ?_ _ | refine blk_drew ?_ | refine blk_alloc ?_ _)); exact BK262.out))⟩; have n5_ : Aside0 (Kept w w48 (fun k_ => P0_ k_)) := ⟨(by rw [hw]; exact (by repeat (first | (with_reducible first | exact HK.out | apply Kept.alloc | apply Kept.drewN | apply Kept.drew | refine Kept.setCell ?_ (.inr GW249.out) _ | refine Kept.setCell ?_ (.inr GW262.out) _) | exact HK.out)))⟩; have n6_ : Aside0 (Below w0.heap.size w0 w48) := ⟨(by rw [hw]; exact (by repeat (first | (with_reducible first | exact HB.out | apply below_alloc | apply pw_below_drewN | apply below_drew1 | refine below_set ?_ GE249.out | refine below_set ?_ GE262.out) | exact HB.out)))⟩; clear hw; clear HO_0; clear HO_4; clear HL260_0; clear BK249; clear BK262; clear HK; clear HB; have HO_0 := n0_; have HO_4 := n1_; have HL260_0 := n2_; have BK249 := n3_; have BK262 := n4_; have HK := n5_; have HB := n6_; clear n0_ n1_ n2_ n3_ n4_ n5_ n6_; have p265 : 0 ≤ ((x4_1.length : Int) : Int) := of_decide_eq_true (by first | (with_reducible assumption) | assumption); have q265 : (x4_1.length : Int) < (x0_25.length : Int) := of_decide_eq_true (by first | (with_reducible assumption) | assumption); obtain ⟨ad265, A265_0, c265_0, e265, hx265_0, hl265_0, hi265_0⟩ := at_L4 (Kd.S_reads' HO_0.out).2.2 (x4_1.length : Int) p265 q265; obtain rfl : ad260 = ad265 := (by injection e265); obtain ⟨ce265, hce265, hMe265, hcc265⟩ := Kd.S_get HO_0.out [] (x4_1.length : Int) p265 (by first | exact q265 | exact of_decide_eq_true (by first | (with_reducible assumption) | assumption) | (have e_ := (Kd.S_reads' HO_0.out).1; omega)); obtain ⟨ve265_0, rfl, ge265_0⟩ := hMe265; have hv265_0 := hcc265 0 _ rfl; rw [Nat.add_zero, show ((Kd.slice 103 k103)).sz = 1 from rfl, Nat.mul_one] at hv265_0; replace hv265_0 := Option.some.inj (hv265_0.symm.trans hx265_0); rw [hv265_0] at ge265_0; have HL265_0 := Aside0.mk (show Kd.R k103 103 _ _ _ _ (rd_L4 x0_25 (x4_1.length : Int)) from ge265_0); clear hv265_0 ge265_0; have HX265_0 := Aside0.mk hx265_0; clear hcc265 hce265; have HR265_0 := Aside0.mk hi265_0; have HC265_0 := Aside0.mk hl265_0; clear hi265_0 hl265_0; (try simp only [Go.IntWalk.toNatUp] at hx265_0); (try simp only [hl0_25] at p265); (try simp only [hl0_25] at q265); (try simp only [hl0_25] at hx265_0); replace p265 := eq_true p265; replace q265 := eq_true q265))
             go_loopg [79] kj25 (fun kq v79 w' => ∃ (x0_4 : List (List (S103))) (x79_4 : Int) (x250000_4 : ByteArray) (x250001_4 : ByteArray) (x263000_4 : ByteArray) (x263001_4 : ByteArray), v79 = .int .i64 x79_4 ∧ Aside0 (table_reduce.l2 kq x0_4 x4_1 x16_1 (x4_1.length : Int) a1 x16_1 ((rd_L4 x0_25 (x4_1.length : Int)).length : Int) x79_4 x250000_4 x250001_4 x263000_4 x263001_4 = some (r1, r2, r3, r4)) ∧ Aside0 (kq ≤ kj25) ∧ Aside0 (Kd.S (Kd.slice 103 k103) 39 w' w0.heap.size (fun k_ => (P0_ k_ ∨ w.heap.size ≤ k_) ∧ k_ ≠ gb249 ∧ k_ ≠ gb262) (.slice (some ad260) x0_25.length co27) x0_4) ∧ Aside0 (Kd.R (Kd.int .i64) 3 w' w0.heap.size (fun k_ => (P0_ k_ ∨ w.heap.size ≤ k_)) (.slice Ao9 x4_1.length co9) x4_1) ∧ Aside0 (w'.heap[gb249]? = some (.cells #[.string x250000_4, .string x250001_4] 103 (0, 0))) ∧ Aside0 (w'.heap[gb262]? = some (.cells #[.string x263000_4, .string x263001_4] 103 (0, 0))) ∧ Aside0 (Kept w w' (fun k_ => P0_ k_)) ∧ Aside0 (Below w0.heap.size w0 w'))
             case atStart => exact ⟨(x0_25), (0), (t263), (t264), ((rd_T103 (rd_L4 x0_25 (x4_1.length : Int)) x16_1).f0), ((rd_T103 (rd_L4 x0_25 (x4_1.length : Int)) x16_1).f1), (by first | rfl | (simp; done) | (simp [*]; done)), H', ⟨Nat.le_refl _⟩, ⟨by (try simp only [hl0_25]); (with_reducible repeat (first | apply Kd.S_alloc | apply Kd.S_drewN | apply Kd.S_drew)); exact HO_0.out⟩, ⟨by (try simp only [hl0_25]); (with_reducible repeat (first | apply Kd.R_alloc | apply Kd.R_drewN | apply Kd.R_drew)); exact HO_4.out⟩, ⟨by (try simp only [hl0_25]); (with_reducible repeat (first | refine blk_drewN ?_ _ | refine blk_drew ?_ | refine blk_alloc ?_ _)); exact BK249.out⟩, ⟨by (try simp only [hl0_25]); (with_reducible repeat (first | refine blk_drewN ?_ _ | refine blk_drew ?_ | refine blk_alloc ?_ _)); exact BK262.out⟩, ⟨by repeat (first | (with_reducible first | exact HK.out | apply Kept.alloc | apply Kept.drewN | apply Kept.drew | refine Kept.setCell ?_ (.inr GW249.out) _ | refine Kept.setCell ?_ (.inr GW262.out) _) | exact HK.out)⟩, ⟨by repeat (first | (with_reducible first | exact HB.out | apply below_alloc | apply pw_below_drewN | apply below_drew1 | refine below_set ?_ GE249.out | refine below_set ?_ GE262.out) | exact HB.out)⟩⟩
             case round =>
              clear H'
              try clear c1
              try clear c2
              try clear p2
              try clear q2
              try clear hx2
              try clear c3
              try clear c4
              try clear p6
              try clear c7
              try clear c7b0
              try clear c9
              try clear c10
              try clear c10b0
              try clear c11
              try clear c11b0
              try clear c12
              try clear c12b0
              try clear c13
              try clear c13b0
              try clear c15
              try clear c15b0
              try clear c15b1
              try clear c16
              try clear c21
              try clear c21b0
              try clear c21b1
              try clear c25
              try clear p25
              try clear q25
              try clear hx25
              try clear c26
              try clear p26
              try clear q26
              try clear hx26
              try clear c28
              try clear c28b0
              try clear c28b1
              try clear c29
              try clear c29b0
              try clear c29b1
              try clear c30
              try clear c30b0
              try clear c30b1
              try clear c31
              try clear c31b0
              try clear c32
              try clear c32b0
              try clear c37
              try clear c37b0
              try clear c37b1
              try clear c38
              try clear c38b0
              try clear c38b1
              try clear c39
              try clear c39b0
              try clear c40
              try clear c40b0
              try clear c43
              try clear hcz25_0
              try clear hcz25_1
              try clear hcz34_0
              try clear hcz34_1
              try clear hcz36_0
              try clear hcz36_1
              try clear hcz44_0
              try clear hcz44_1
              try clear hcz45_0
              try clear hcz45_1
              try clear hcz47_0
              try clear hcz47_1
              try clear hcz6_0
              try clear hcz6_1
              try clear hfz25_0
              try clear hfz25_1
              try clear hfz34_0
              try clear hfz34_1
              try clear hfz36_0
              try clear hfz36_1
              try clear hfz44_0
              try clear hfz44_1
              try clear hfz45_0
              try clear hfz45_1
              try clear hfz47_0
              try clear hfz47_1
              try clear hfz6_0
              try clear hfz6_1
              try clear hx252_0
              try clear hx253_0
              try clear hx253_1
              try clear hx260_0
              try clear hx261_0
              try clear hx261_1
              try clear hx265_0
              try clear p2
              try clear p25
              try clear p252
              try clear p253
              try clear p260
              try clear p261
              try clear p265
              try clear p6
              try clear q2
              try clear q25
              try clear q252
              try clear q253
              try clear q260
              try clear q261
              try clear q265
              obtain ⟨x0_4, x79_4, x250000_4, x250001_4, x263000_4, x263001_4, rfl, HA, HK4, HO_0, HO_4, BK249, BK262, HK, HB⟩ := hrel
              have hl0_4 := (Kd.S_reads' HO_0.out).1
              rw [hl0_4] at HO_0
              (try simp only [hl0_4])
              (try simp only [hl0_4] at BK249)
              (try simp only [hl0_4] at BK262)
              (try simp only [hl0_4] at HO_4)
              cases gk with
              | zero => exact absurd HA.out (by simp [table_reduce.l2])
              | succ k4 =>
               have H := HA.out
               clear HA
               simp only [table_reduce.l2] at H
               by_cases c49 : x79_4 < ((rd_L4 x0_25 (x4_1.length : Int)).length : Int)
               ·rw [if_pos c49] at H
                have c49b0 : decide (x79_4 < ((rd_L4 x0_25 (x4_1.length : Int)).length : Int)) = true := decide_eq_true c49
                clear c49
                by_cases c50 : 0 ≤ (x4_1.length : Int)
                ·rw [if_pos c50] at H
                 have c50b0 : decide (0 ≤ (x4_1.length : Int)) = true := decide_eq_true c50
                 have c50b1 : decide (0 ≤ x4_1.length) = true := decide_eq_true (by omega)
                 clear c50
                 by_cases c51 : (x4_1.length : Int) < (x0_4.length : Int)
                 ·rw [if_pos c51] at H
                  have c51b0 : decide ((x4_1.length : Int) < (x0_4.length : Int)) = true := decide_eq_true c51
                  have c51b1 : decide (x4_1.length < x0_4.length) = true := decide_eq_true (Int.ofNat_lt.mp c51)
                  clear c51
                  by_cases c52 : 0 ≤ x79_4
                  ·rw [if_pos c52] at H
                   have c52b0 : decide (0 ≤ x79_4) = true := decide_eq_true c52
                   clear c52
                   by_cases c53 : x79_4 < ((rd_L4 x0_4 (x4_1.length : Int)).length : Int)
                   ·rw [if_pos c53] at H
                    have c53b0 : decide (x79_4 < ((rd_L4 x0_4 (x4_1.length : Int)).length : Int)) = true := decide_eq_true c53
                    clear c53
                    replace H := Option.bind_eq_some_iff.mp H
                    obtain ⟨⟨t269, t270, t271⟩, A540, H⟩ := H
                    replace H : (table_reduce.l2 k4 (x0_4.set ((x4_1.length : Int) : Int).toNat ((rd_L4 x0_4 (x4_1.length : Int)).set (x79_4 : Int).toNat (⟨t269, t270⟩ : S103))) x4_1 x16_1 (x4_1.length : Int) a1 x16_1 ((rd_L4 x0_25 (x4_1.length : Int)).length : Int) (wrap64 (x79_4 + 1)) x250000_4 x250001_4 x263000_4 x263001_4) = some (r1, r2, r3, r4) := H
                    have A54 := Aside0.mk A540
                    clear A540
                    obtain ⟨y272, hy272⟩ : ∃ y_ : List (S103), y_ = ((rd_L4 x0_4 (x4_1.length : Int)).set (x79_4 : Int).toNat (⟨t269, t270⟩ : S103)) := ⟨_, rfl⟩
                    replace H : (table_reduce.l2 k4 (x0_4.set ((x4_1.length : Int) : Int).toNat y272) x4_1 x16_1 (x4_1.length : Int) a1 x16_1 ((rd_L4 x0_25 (x4_1.length : Int)).length : Int) (wrap64 (x79_4 + 1)) x250000_4 x250001_4 x263000_4 x263001_4) = some (r1, r2, r3, r4) := by first | (rw [hy272]; with_reducible exact H) | (have H2_ := (Option.bind_some _ _).symm.trans H; rw [hy272]; with_reducible exact H2_) | (have H2_ := (Option.bind_some _ _).symm.trans H; with_reducible exact H2_) | with_reducible exact H | (rw [hy272]; exact H) | exact H
                    have Ny272 := Aside0.mk hy272
                    clear hy272
                    obtain ⟨y274, hy274⟩ : ∃ y_ : List (List (S103)), y_ = (x0_4.set ((x4_1.length : Int) : Int).toNat y272) := ⟨_, rfl⟩
                    replace H : (table_reduce.l2 k4 y274 x4_1 x16_1 (x4_1.length : Int) a1 x16_1 ((rd_L4 x0_25 (x4_1.length : Int)).length : Int) (wrap64 (x79_4 + 1)) x250000_4 x250001_4 x263000_4 x263001_4) = some (r1, r2, r3, r4) := by first | (rw [hy274]; with_reducible exact H) | (have H2_ := (Option.bind_some _ _).symm.trans H; rw [hy274]; with_reducible exact H2_) | (have H2_ := (Option.bind_some _ _).symm.trans H; with_reducible exact H2_) | with_reducible exact H | (rw [hy274]; exact H) | exact H
                    have Ny274 := Aside0.mk hy274
                    clear hy274
                    have H' := Aside0.mk H
                    clear H
                    try go_wp2
                    have n0_ := Aside0.mk (Kd.S_drew HO_0.out)
                    have n1_ := Aside0.mk (Kd.R_drew HO_4.out)
                    have n2_ := Aside0.mk (blk_drew BK249.out)
                    have n3_ := Aside0.mk (blk_drew BK262.out)
                    have n4_ := Aside0.mk (Kept.drew HK.out)
                    have n5_ := Aside0.mk (below_drew1 HB.out)
                    clear HO_0
                    clear HO_4
                    clear BK249
                    clear BK262
                    clear HK
                    clear HB
                    have HO_0 := n0_
                    have HO_4 := n1_
                    have BK249 := n2_
                    have BK262 := n3_
                    have HK := n4_
                    have HB := n5_
                    clear n0_ n1_ n2_ n3_ n4_ n5_
                    have p266 : 0 ≤ ((x4_1.length : Int) : Int) := of_decide_eq_true (by first | (with_reducible assumption) | assumption)
                    have q266 : (x4_1.length : Int) < (x0_4.length : Int) := of_decide_eq_true (by first | (with_reducible assumption) | assumption)
                    obtain ⟨ad266, A266_0, c266_0, e266, hx266_0, hl266_0, hi266_0⟩ := at_L4 (Kd.S_reads' HO_0.out).2.2 (x4_1.length : Int) p266 q266
                    obtain rfl : ad260 = ad266 := (by injection e266)
                    obtain ⟨ce266, hce266, hMe266, hcc266⟩ := Kd.S_get HO_0.out [] (x4_1.length : Int) p266 (by first | exact q266 | exact of_decide_eq_true (by first | (with_reducible assumption) | assumption) | (have e_ := (Kd.S_reads' HO_0.out).1; omega))
                    obtain ⟨ve266_0, rfl, ge266_0⟩ := hMe266
                    have hv266_0 := hcc266 0 _ rfl
                    rw [Nat.add_zero, show ((Kd.slice 103 k103)).sz = 1 from rfl, Nat.mul_one] at hv266_0
                    replace hv266_0 := Option.some.inj (hv266_0.symm.trans hx266_0)
                    rw [hv266_0] at ge266_0
                    have HL266_0 := Aside0.mk (show Kd.R k103 103 _ _ _ _ (rd_L4 x0_4 (x4_1.length : Int)) from ge266_0)
                    clear hv266_0 ge266_0
                    have HX266_0 := Aside0.mk hx266_0
                    clear hcc266 hce266
                    have HR266_0 := Aside0.mk hi266_0
                    have HC266_0 := Aside0.mk hl266_0
                    clear hi266_0 hl266_0
                    (try simp only [Go.IntWalk.toNatUp] at hx266_0)
                    (try simp only [hl0_25, hl0_4] at p266)
                    (try simp only [hl0_25, hl0_4] at q266)
                    (try simp only [hl0_25, hl0_4] at hx266_0)
                    replace p266 := eq_true p266
                    replace q266 := eq_true q266
                    have p267 : 0 ≤ ((x4_1.length : Int) : Int) := of_decide_eq_true (by first | (with_reducible assumption) | assumption)
                    have q267 : (x4_1.length : Int) < (x0_4.length : Int) := of_decide_eq_true (by first | (with_reducible assumption) | assumption)
                    obtain ⟨ad267, A267_0, c267_0, e267, hx267_0, hl267_0, hi267_0⟩ := at_L4 (Kd.S_reads' HO_0.out).2.2 (x4_1.length : Int) p267 q267
                    obtain rfl : ad260 = ad267 := (by injection e267)
                    obtain ⟨ce267, hce267, hMe267, hcc267⟩ := Kd.S_get HO_0.out [] (x4_1.length : Int) p267 (by first | exact q267 | exact of_decide_eq_true (by first | (with_reducible assumption) | assumption) | (have e_ := (Kd.S_reads' HO_0.out).1; omega))
                    obtain ⟨ve267_0, rfl, ge267_0⟩ := hMe267
                    have hv267_0 := hcc267 0 _ rfl
                    rw [Nat.add_zero, show ((Kd.slice 103 k103)).sz = 1 from rfl, Nat.mul_one] at hv267_0
                    replace hv267_0 := Option.some.inj (hv267_0.symm.trans hx267_0)
                    rw [hv267_0] at ge267_0
                    have HL267_0 := Aside0.mk (show Kd.R k103 103 _ _ _ _ (rd_L4 x0_4 (x4_1.length : Int)) from ge267_0)
                    clear hv267_0 ge267_0
                    have HX267_0 := Aside0.mk hx267_0
                    clear hcc267 hce267
                    have HR267_0 := Aside0.mk hi267_0
                    have HC267_0 := Aside0.mk hl267_0
                    clear hi267_0 hl267_0
                    (try simp only [Go.IntWalk.toNatUp] at hx267_0)
                    (try simp only [hl0_25, hl0_4] at p267)
                    (try simp only [hl0_25, hl0_4] at q267)
                    (try simp only [hl0_25, hl0_4] at hx267_0)
                    replace p267 := eq_true p267
                    replace q267 := eq_true q267
                    have ea_ := Option.some.inj (hx266_0.symm.trans hx267_0)
                    injection ea_ with ea_ en_ ec_
                    subst ea_
                    subst ec_
                    clear en_
                    have p268 : 0 ≤ (x79_4 : Int) := of_decide_eq_true (by first | (with_reducible assumption) | assumption)
                    have q268 : x79_4 < ((rd_L4 x0_4 (x4_1.length : Int)).length : Int) := of_decide_eq_true (by first | (with_reducible assumption) | assumption)
                    obtain ⟨ad268, e268, hx268_0, hx268_1⟩ := at_T103 (by repeat (first | (with_reducible exact HR267_0.out) | (with_reducible refine Kd.C_alloc ?_ _) | (with_reducible refine Kd.C_drewN ?_ _) | (with_reducible refine Kd.C_drew ?_) | exact HR267_0.out)) x79_4 p268 q268
                    cases e268
                    replace p268 := eq_true p268
                    replace q268 := eq_true q268
                    refine start_ (n := 19) (S := fun w' => w'.cell? ⟨gb262, 0, none⟩ = some (.string x263000_4) ∧ w'.cell? ⟨gb262, 1, none⟩ = some (.string x263001_4) ∧ w'.cell? (ad260.add x4_1.length) = some (.slice (some ad268) (rd_L4 x0_4 (x4_1.length : Int)).length c266_0) ∧ w'.cell? (ad260.add x4_1.length) = some (.slice (some ad268) (rd_L4 x0_4 (x4_1.length : Int)).length c266_0) ∧ w'.cell? (ad268.add ((x79_4).toNat * 2)) = some (.string ((rd_T103 (rd_L4 x0_4 (x4_1.length : Int)) x79_4).f0)) ∧ w'.cell? ⟨(ad268.add ((x79_4).toNat * 2)).block, (ad268.add ((x79_4).toNat * 2)).off + 1, none⟩ = some (.string ((rd_T103 (rd_L4 x0_4 (x4_1.length : Int)) x79_4).f1))) (ds := [18]) #[false, false, false, false, false, false, false, false, false, false, false, false, false, false, false, false, false, false, false] (by kernel_rfl) rfl rfl ⟨(blk_cell BK262.out 0).trans rfl, (blk_cell BK262.out 1).trans rfl, hx266_0, hx267_0, hx268_0, hx268_1⟩ (fun hHeld => ?_); refine with_tabW table_reduce.tab19 table_reduce.bits19 (fun HT_ HW_ => ?_)
                    generalize wr.drew = w56 at HO_0 HO_4 BK249 BK262 HK HB HL266_0 HL267_0 HR266_0 HR267_0 HX266_0 HX267_0 hx266_0 hx267_0 hx268_0 hx268_1 hHeld ⊢
                    refine pure_ (i := 0) (N := some 83) (v := ?_) (a' := ?_) #[true, false, false, false, false, false, false, false, false, false, false, false, false, false, false, false, false, false, false] rfl rfl (any_of HT_.out (by kernel_rfl)) (fun _ _ _ h => h) (Or.inl ⟨by rfl, ?_⟩) ?_ ?_
                    rotate_left
                    ·intro w'
                     go_simp
                     with_reducible rfl
                    rotate_left
                    ·simp only [Act.put, List.setIfInBounds_toArray, List.set_cons_zero, List.set_cons_succ, i64_w, i32_w]
                     rfl
                    refine pure_ (i := 1) (N := some 84) (v := ?_) (a' := ?_) #[true, true, false, false, false, false, false, false, false, false, false, false, false, false, false, false, false, false, false] rfl rfl (any_of HT_.out (by kernel_rfl)) (fun _ _ _ h => h) (Or.inl ⟨by rfl, ?_⟩) ?_ ?_
                    rotate_left
                    ·intro w'
                     go_simp
                     with_reducible rfl
                    rotate_left
                    ·simp only [Act.put, List.setIfInBounds_toArray, List.set_cons_zero, List.set_cons_succ, i64_w, i32_w]
                     rfl
                    refine pure_ (i := 2) (N := some 85) (v := ?_) (a' := ?_) #[true, true, true, false, false, false, false, false, false, false, false, false, false, false, false, false, false, false, false] rfl rfl (any_of HT_.out (by kernel_rfl)) (fun _ _ _ h => h) (Or.inl ⟨by rfl, ?_⟩) ?_ ?_
                    rotate_left
                    ·intro w'
                     go_simp
                     with_reducible rfl
                    rotate_left
                    ·simp only [Act.put, List.setIfInBounds_toArray, List.set_cons_zero, List.set_cons_succ, i64_w, i32_w]
                     rfl
                    refine pure_ (i := 4) (N := some 87) (v := ?_) (a' := ?_) #[true, true, true, false, true, false, false, false, false, false, false, false, false, false, false, false, false, false, false] rfl rfl (any_of HT_.out (by kernel_rfl)) (fun _ _ _ h => h) (Or.inl ⟨by rfl, ?_⟩) ?_ ?_
                    rotate_left
                    ·intro w'
                     go_simp
                     with_reducible rfl
                    rotate_left
                    ·simp only [Act.put, List.setIfInBounds_toArray, List.set_cons_zero, List.set_cons_succ, i64_w, i32_w]
                     rfl
                    refine pure_ (i := 5) (N := some 88) (v := ?_) (a' := ?_) #[true, true, true, false, true, true, false, false, false, false, false, false, false, false, false, false, false, false, false] rfl rfl (any_of HT_.out (by kernel_rfl)) (fun _ _ _ h => h) (Or.inl ⟨by rfl, ?_⟩) ?_ ?_
                    rotate_left
                    ·intro w'
                     go_simp
                     with_reducible rfl
                    rotate_left
                    ·simp only [Act.put, List.setIfInBounds_toArray, List.set_cons_zero, List.set_cons_succ, i64_w, i32_w]
                     rfl
                    refine pure_ (i := 6) (N := some 89) (v := ?_) (a' := ?_) #[true, true, true, false, true, true, true, false, false, false, false, false, false, false, false, false, false, false, false] rfl rfl (any_of HT_.out (by kernel_rfl)) (fun _ _ _ h => h) (Or.inl ⟨by rfl, ?_⟩) ?_ ?_
                    rotate_left
                    ·intro w'
                     go_simp
                     with_reducible rfl
                    rotate_left
                    ·simp only [Act.put, List.setIfInBounds_toArray, List.set_cons_zero, List.set_cons_succ, i64_w, i32_w]
                     rfl
                    refine pure_ (i := 7) (N := some 90) (v := ?_) (a' := ?_) #[true, true, true, false, true, true, true, true, false, false, false, false, false, false, false, false, false, false, false] rfl rfl (any_of HT_.out (by kernel_rfl)) (fun _ _ _ h => h) (Or.inl ⟨by rfl, ?_⟩) ?_ ?_
                    rotate_left
                    ·intro w'
                     go_simp
                     with_reducible rfl
                    rotate_left
                    ·simp only [Act.put, List.setIfInBounds_toArray, List.set_cons_zero, List.set_cons_succ, i64_w, i32_w]
                     rfl
                    refine pure_ (i := 9) (N := some 92) (v := ?_) (a' := ?_) #[true, true, true, false, true, true, true, true, false, true, false, false, false, false, false, false, false, false, false] rfl rfl (any_of HT_.out (by kernel_rfl)) (fun _ _ _ h => h) (Or.inl ⟨by rfl, ?_⟩) ?_ ?_
                    rotate_left
                    ·intro w'
                     go_simp
                     with_reducible rfl
                    rotate_left
                    ·simp only [Act.put, List.setIfInBounds_toArray, List.set_cons_zero, List.set_cons_succ, i64_w, i32_w]
                     rfl
                    refine take_ (i := 3) (N := some 86) (v := ?_) (a' := ?_) #[true, true, true, true, true, true, true, true, false, true, false, false, false, false, false, false, false, false, false] rfl rfl (take_ofW HT_.out HW_.out (by kernel_rfl)) (fun _ _ _ h => h) (Or.inl ⟨by rfl, ?_⟩) hHeld ?_ ?_
                    rotate_left
                    ·rintro w' ⟨s0, s1, s2, s3, s4, s5⟩
                     go_simp
                     with_reducible rfl
                    rotate_left
                    ·simp only [Act.put, List.setIfInBounds_toArray, List.set_cons_zero, List.set_cons_succ, i64_w, i32_w]
                     rfl
                    refine take_ (i := 8) (N := some 91) (v := ?_) (a' := ?_) #[true, true, true, true, true, true, true, true, true, true, false, false, false, false, false, false, false, false, false] rfl rfl (take_ofW HT_.out HW_.out (by kernel_rfl)) (fun _ _ _ h => h) (Or.inl ⟨by rfl, ?_⟩) hHeld ?_ ?_
                    rotate_left
                    ·rintro w' ⟨s0, s1, s2, s3, s4, s5⟩
                     go_simp
                     with_reducible rfl
                    rotate_left
                    ·simp only [Act.put, List.setIfInBounds_toArray, List.set_cons_zero, List.set_cons_succ, i64_w, i32_w]
                     rfl
                    refine pure_ (i := 10) (N := some 93) (v := ?_) (a' := ?_) #[true, true, true, true, true, true, true, true, true, true, true, false, false, false, false, false, false, false, false] rfl rfl (any_of HT_.out (by kernel_rfl)) (fun _ _ _ h => h) (Or.inl ⟨by rfl, ?_⟩) ?_ ?_
                    rotate_left
                    ·intro w'
                     go_simp
                     with_reducible rfl
                    rotate_left
                    ·simp only [Act.put, List.setIfInBounds_toArray, List.set_cons_zero, List.set_cons_succ, i64_w, i32_w]
                     rfl
                    refine take_ (i := 11) (N := some 94) (v := ?_) (a' := ?_) #[true, true, true, true, true, true, true, true, true, true, true, true, false, false, false, false, false, false, false] rfl rfl (take_ofW HT_.out HW_.out (by kernel_rfl)) (fun _ _ _ h => h) (Or.inl ⟨by rfl, ?_⟩) hHeld ?_ ?_
                    rotate_left
                    ·rintro w' ⟨s0, s1, s2, s3, s4, s5⟩
                     go_simp
                     with_reducible rfl
                    rotate_left
                    ·simp only [Act.put, List.setIfInBounds_toArray, List.set_cons_zero, List.set_cons_succ, i64_w, i32_w]
                     rfl
                    refine take_ (i := 12) (N := some 95) (v := ?_) (a' := ?_) #[true, true, true, true, true, true, true, true, true, true, true, true, true, false, false, false, false, false, false] rfl rfl (take_ofW HT_.out HW_.out (by kernel_rfl)) (fun _ _ _ h => h) (Or.inl ⟨by rfl, ?_⟩) hHeld ?_ ?_
                    rotate_left
                    ·rintro w' ⟨s0, s1, s2, s3, s4, s5⟩
                     go_simp
                     with_reducible rfl
                    rotate_left
                    ·simp only [Act.put, List.setIfInBounds_toArray, List.set_cons_zero, List.set_cons_succ, i64_w, i32_w]
                     rfl
                    refine one_ (i := 13) (N := some 96) #[true, true, true, true, true, true, true, true, true, true, true, true, true, true, false, false, false, false, false] rfl rfl (one_of HT_.out (by kernel_rfl)) (by decide) (fun K hK => ?_)
                    refine goes_ Tryz.func167 (by kernel_rfl) rfl #[.agg #[.string ((rd_T103 (rd_L4 x0_4 (x4_1.length : Int)) x79_4).f0), .string ((rd_T103 (rd_L4 x0_4 (x4_1.length : Int)) x79_4).f1)], .agg #[.string x263000_4, .string x263001_4]] (by rfl) rfl rfl (by (try simp only [List.map_toArray, List.map_cons, List.map_nil]); first | done | rfl | (simp only [List.length_drop, List.length_take]; rfl)) ?_
                    with_reducible refine (fraction_Div.calls k4 ((rd_T103 (rd_L4 x0_4 (x4_1.length : Int)) x79_4).f0) ((rd_T103 (rd_L4 x0_4 (x4_1.length : Int)) x79_4).f1) x263000_4 x263001_4 t269 t270 t271 _ ?gG A54.out).mono ?_
                    (case gG => exact gw HG.out HB.out)
                    rintro e w57 ⟨rfl, hb⟩
                    have HS2_ := (hb.cell (World.block_lt_of_cell? _ _ (hHeld.2.2.1))).trans (hHeld.2.2.1)
                    have HS3_ := (hb.cell (World.block_lt_of_cell? _ _ (hHeld.2.2.2.1))).trans (hHeld.2.2.2.1)
                    have HS4_ := (hb.cell (World.block_lt_of_cell? _ _ (hHeld.2.2.2.2.1))).trans (hHeld.2.2.2.2.1)
                    have HS5_ := (hb.cell (World.block_lt_of_cell? _ _ (hHeld.2.2.2.2.2))).trans (hHeld.2.2.2.2.2)
                    refine ⟨_, rfl, ?_⟩
                    have n0_ := Aside0.mk (Kd.S_below (sx HO_0.out) hb)
                    have n1_ := Aside0.mk (Kd.R_below (rx HO_4.out) hb)
                    have n2_ := Aside0.mk (Kd.R_below (rx HL266_0.out) hb)
                    have n3_ := Aside0.mk (Kd.R_below (rx HL267_0.out) hb)
                    have n4_ := Aside0.mk (blk_below (g := gb249) (o := .cells #[.string x250000_4, .string x250001_4] 103 (0, 0)) (bx BK249.out) hb)
                    have n5_ := Aside0.mk (blk_below (g := gb262) (o := .cells #[.string x263000_4, .string x263001_4] 103 (0, 0)) (bx BK262.out) hb)
                    (first | have n6_ := Aside0.mk (Kd.C_below (by repeat (first | (with_reducible exact HR266_0.out) | (with_reducible refine Kd.C_alloc ?_ _) | (with_reducible refine Kd.C_drewN ?_ _) | (with_reducible refine Kd.C_drew ?_) | exact HR266_0.out)) hb) | have n6_ := Aside0.mk True.intro)
                    (first | have n7_ := Aside0.mk (pw_cell_below hb HX266_0.out) | have n7_ := Aside0.mk True.intro)
                    (first | have n8_ := Aside0.mk (Kd.C_below (by repeat (first | (with_reducible exact HR267_0.out) | (with_reducible refine Kd.C_alloc ?_ _) | (with_reducible refine Kd.C_drewN ?_ _) | (with_reducible refine Kd.C_drew ?_) | exact HR267_0.out)) hb) | have n8_ := Aside0.mk True.intro)
                    (first | have n9_ := Aside0.mk (pw_cell_below hb HX267_0.out) | have n9_ := Aside0.mk True.intro)
                    have n10_ := Aside0.mk (Kept.below (S := (fun k_ => P0_ k_)) (by repeat (first | (with_reducible first | exact HK.out | apply Kept.alloc | apply Kept.drewN | apply Kept.drew | refine Kept.setCell ?_ (.inr GW249.out) _ | refine Kept.setCell ?_ (.inr GW262.out) _) | exact HK.out)) hb)
                    have n11_ := Aside0.mk (below_step (by repeat (first | (with_reducible first | exact HB.out | apply below_alloc | apply pw_below_drewN | apply below_drew1 | refine below_set ?_ GE249.out | refine below_set ?_ GE262.out) | exact HB.out)) hb)
                    clear HO_0
                    clear HO_4
                    clear HL266_0
                    clear HL267_0
                    clear BK249
                    clear BK262
                    clear HR266_0
                    clear HX266_0
                    clear HR267_0
                    clear HX267_0
                    clear HK
                    clear HB
                    have HO_0 := n0_
                    have HO_4 := n1_
                    have HL266_0 := n2_
                    have HL267_0 := n3_
                    have BK249 := n4_
                    have BK262 := n5_
                    have HR266_0 := n6_
                    have HX266_0 := n7_
                    have HR267_0 := n8_
                    have HX267_0 := n9_
                    have HK := n10_
                    have HB := n11_
                    clear n0_ n1_ n2_ n3_ n4_ n5_ n6_ n7_ n8_ n9_ n10_ n11_
                    (try clear hb)
                    (try clear hb2)
                    (try clear hk)
                    (try clear hi)
                    have p55 : 0 ≤ (x79_4 : Int) := of_decide_eq_true (by first | (with_reducible assumption) | assumption)
                    have q55 : (x79_4 : Int) < (((rd_L4 x0_4 (x4_1.length : Int)).length : Int) : Int) := of_decide_eq_true (by first | (with_reducible assumption) | assumption)
                    obtain ⟨go55, co55, eo55, gb55, gl55, cl55, HG55⟩ := Kd.R_form HL266_0.out (by omega)
                    (first | cases eo55 | (injection eo55 with ea_ en_ ec_; (first | subst ea_ | (injection ea_ with ea_; subst ea_)); subst ec_; clear en_))
                    have GB55 := Aside0.mk gb55
                    have GG55 := Aside0.mk HG55
                    clear gb55 gl55 HG55
                    have HMgo55 := Aside0.mk (show (P0_ go55 ∨ w.heap.size ≤ go55) from (HL266_0.out.1 _ rfl).1.1)
                    (first | simp only [add_plain] at hx268_0 | skip)
                    (first | simp only [add_plain] at hx268_1 | skip)
                    obtain ⟨ce55, hcl55, hM55, hcc55, hfr55⟩ := Kd.R_elem HL266_0.out z103 (x79_4 : Int) p55 q55
                    obtain rfl := k103_openM hM55
                    have hx55_0 : World.cell? _ ⟨go55, (x79_4 : Int).toNat * 2, none⟩ = some (.string ((rd_T103 (rd_L4 x0_4 (x4_1.length : Int)) x79_4).f0)) := hcc55 0 _ rfl
                    have hx55_1 : World.cell? _ ⟨go55, (x79_4 : Int).toNat * 2 + 1, none⟩ = some (.string ((rd_T103 (rd_L4 x0_4 (x4_1.length : Int)) x79_4).f1)) := hcc55 1 _ rfl
                    have hf55_0 : World.frozen? _ ⟨go55, (x79_4 : Int).toNat * 2, none⟩ = false := hfr55 0
                    have hf55_1 : World.frozen? _ ⟨go55, (x79_4 : Int).toNat * 2 + 1, none⟩ = false := hfr55 1
                    clear hcl55 hcc55 hfr55 hM55
                    replace p55 := eq_true p55
                    replace q55 := eq_true q55
                    have hq58 : ((x4_1.length : Int) : Int) < (x0_4.length : Int) := (by have h_ : ((x4_1.length : Int) : Int) < ((x0_4.length : Int) : Int) := of_decide_eq_true (by first | (with_reducible assumption) | assumption); first | exact h_ | (have e_ := (Kd.S_reads' HO_0.out).1; omega) | simpa only [List.length_set, List.length_set] using h_)
                    obtain ⟨oki58, ce58, hcl58, hM58, hcc58, hok58, hbk58⟩ := Kd.S_borrow HO_0.out [] ((x4_1.length : Int) : Int) (of_decide_eq_true (by first | (with_reducible assumption) | assumption)) hq58
                    obtain ⟨ve58_0, rfl, ge58_0⟩ := hM58
                    have hv58 := hcc58 0 _ rfl
                    rw [Nat.add_zero, show ((Kd.slice 103 k103)).sz = 1 from rfl, Nat.mul_one] at hv58
                    replace hv58 := Option.some.inj (hv58.symm.trans HX266_0.out)
                    subst hv58
                    clear hcc58 hcl58
                    replace ge58_0 := (show Kd.R k103 103 _ _ _ _ (rd_L4 x0_4 (x4_1.length : Int)) from ge58_0)
                    obtain ⟨cf58, hcl58, hN58, hcc58, hfr58⟩ := Kd.R_elem ge58_0 z103 (x79_4 : Int) (of_decide_eq_true (by first | (with_reducible assumption) | assumption)) (by have h_ : (x79_4 : Int) < (((rd_L4 x0_4 (x4_1.length : Int)).length : Int) : Int) := of_decide_eq_true (by first | (with_reducible assumption) | assumption); first | exact h_ | (have e_ := (Kd.R_reads' HR266_0.out).1; omega) | simpa using h_)
                    obtain rfl := k103_openM hN58
                    have HP58 := Kd.R_seg ge58_0 (x79_4 : Int) (of_decide_eq_true (by first | (with_reducible assumption) | assumption)) (by have h_ : (x79_4 : Int) < (((rd_L4 x0_4 (x4_1.length : Int)).length : Int) : Int) := of_decide_eq_true (by first | (with_reducible assumption) | assumption); first | exact h_ | (have e_ := (Kd.R_reads' HR266_0.out).1; omega) | simpa using h_) (seg := [.string t269, .string t270]) (j := 0) hcl58 hcc58 (show 2 ≤ 2 from by decide) (x' := (⟨t269, t270⟩ : S103)) (k103_mkM _ _ _ (⟨t269, t270⟩ : S103)) (fun _ hk => hk)
                    clear hcl58 hcc58 hfr58 hN58
                    rw [← Ny272.out] at HP58
                    have HS58 := hbk58 HP58.2 (fun k_ e_ => by injection e_ with e_; subst e_; exact ge58_0.1 _ rfl) (x' := y272) (Kd.M_row HP58.1)
                    rw [← Ny274.out] at HS58
                    have HQ58 := Aside0.mk HS58
                    clear HP58 HS58 hbk58 hok58
                    refine hK.out _ _ ⟨(blk_cell BK262.out 0).trans rfl, (blk_cell BK262.out 1).trans rfl, HS2_, HS3_, HS4_, HS5_⟩ (fun hHeld => ?_)
                    clear hK K
                    refine norm_ (a' := ?_) ?_ ?_
                    rotate_left
                    ·show Act.put _ (some 96) _ = _
                     simp only [Act.put, List.setIfInBounds_toArray, List.set_cons_zero, List.set_cons_succ, i64_w, i32_w]
                     rfl
                    refine pure_ (i := 14) (N := some 82) (v := ?_) (a' := ?_) #[true, true, true, true, true, true, true, true, true, true, true, true, true, true, true, false, false, false, false] rfl rfl (any_of HT_.out (by kernel_rfl)) (fun _ _ _ h => h) (Or.inl ⟨by rfl, ?_⟩) ?_ ?_
                    rotate_left
                    ·intro w'
                     go_simp
                     with_reducible rfl
                    rotate_left
                    ·simp only [Act.put, List.setIfInBounds_toArray, List.set_cons_zero, List.set_cons_succ, i64_w, i32_w]
                     rfl
                    refine pure_ (i := 15) (N := some 97) (v := ?_) (a' := ?_) #[true, true, true, true, true, true, true, true, true, true, true, true, true, true, true, true, false, false, false] rfl rfl (any_of HT_.out (by kernel_rfl)) (fun _ _ _ h => h) (Or.inl ⟨by rfl, ?_⟩) ?_ ?_
                    rotate_left
                    ·intro w'
                     go_simp
                     with_reducible rfl
                    rotate_left
                    ·simp only [Act.put, List.setIfInBounds_toArray, List.set_cons_zero, List.set_cons_succ, i64_w, i32_w]
                     rfl
                    refine pure_ (i := 16) (N := some 98) (v := ?_) (a' := ?_) #[true, true, true, true, true, true, true, true, true, true, true, true, true, true, true, true, true, false, false] rfl rfl (any_of HT_.out (by kernel_rfl)) (fun _ _ _ h => h) (Or.inl ⟨by rfl, ?_⟩) ?_ ?_
                    rotate_left
                    ·intro w'
                     go_simp
                     with_reducible rfl
                    rotate_left
                    ·simp only [Act.put, List.setIfInBounds_toArray, List.set_cons_zero, List.set_cons_succ, i64_w, i32_w]
                     rfl
                    refine pure_ (i := 17) (N := some 99) (v := ?_) (a' := ?_) #[true, true, true, true, true, true, true, true, true, true, true, true, true, true, true, true, true, true, false] rfl rfl (any_of HT_.out (by kernel_rfl)) (fun _ _ _ h => h) (Or.inl ⟨by rfl, ?_⟩) ?_ ?_
                    rotate_left
                    ·intro w'
                     go_simp
                     with_reducible rfl
                    rotate_left
                    ·simp only [Act.put, List.setIfInBounds_toArray, List.set_cons_zero, List.set_cons_succ, i64_w, i32_w]
                     rfl
                    refine last_ (i := 18) (N := none) #[true, true, true, true, true, true, true, true, true, true, true, true, true, true, true, true, true, true, true] rfl rfl (one_of HT_.out (by kernel_rfl)) (by decide) (fun K hK => ?_)
                    refine skip_ (w1 := ?_) (by rfl) rfl ?_ ?_
                    rotate_left
                    ·go_simp
                     rfl
                    refine hK.out _ _ ?_
                    clear hK K
                    refine done_ (done_of HT_.out (by kernel_rfl)) ?_
                    try go_wp2
                    (try simp only [← hl0_4])
                    go_roundg k4
                    case measure => have := HK1.out; have := HJ7.out; have := HJ25.out; have := HK4.out; omega
                    case rel => exact ⟨(y274), (wrap64 (x79_4 + 1)), (x250000_4), (x250001_4), (x263000_4), (x263001_4), (by first | rfl | (simp; done) | (simp [*]; done)), H', ⟨by have := HK1.out; have := HJ7.out; have := HJ25.out; have := HK4.out; omega⟩, ⟨by (try simp only [hl0_25]); (try simp only [hl0_4]); (with_reducible repeat (first | apply Kd.S_alloc | apply Kd.S_drewN | apply Kd.S_drew)); exact HQ58.out⟩, ⟨by (try simp only [hl0_25]); (try simp only [hl0_4]); (with_reducible repeat (first | apply Kd.R_alloc | apply Kd.R_drewN | apply Kd.R_drew)); exact Kd.R_mono (Kd.R_far (p := ⟨go55, (x79_4 : Int).toNat * 2 + 1, none⟩) (Kd.R_far (p := ⟨go55, (x79_4 : Int).toNat * 2, none⟩) (Kd.R_types HO_4.out GG55.out (by decide)) (fun _ hk => hk.2) (.string t269)) (fun _ hk => hk.2) (.string t270)) (fun _ hk => hk.1)⟩, ⟨by (try simp only [hl0_25]); (try simp only [hl0_4]); (with_reducible repeat (first | refine blk_drewN ?_ _ | refine blk_drew ?_ | refine blk_alloc ?_ _)); refine blk_far ?_ (by have h_ := Kd.R_away HL266_0.out (fun _ hk => hk.1.2.1); intro e_; exact h_ (by rw [e_]; rfl)) _; (with_reducible repeat (first | refine blk_drewN ?_ _ | refine blk_drew ?_ | refine blk_alloc ?_ _)); refine blk_far ?_ (by have h_ := Kd.R_away HL266_0.out (fun _ hk => hk.1.2.1); intro e_; exact h_ (by rw [e_]; rfl)) _; (with_reducible repeat (first | refine blk_drewN ?_ _ | refine blk_drew ?_ | refine blk_alloc ?_ _)); exact BK249.out⟩, ⟨by (try simp only [hl0_25]); (try simp only [hl0_4]); (with_reducible repeat (first | refine blk_drewN ?_ _ | refine blk_drew ?_ | refine blk_alloc ?_ _)); refine blk_far ?_ (by have h_ := Kd.R_away HL266_0.out (fun _ hk => hk.1.2.2); intro e_; exact h_ (by rw [e_]; rfl)) _; (with_reducible repeat (first | refine blk_drewN ?_ _ | refine blk_drew ?_ | refine blk_alloc ?_ _)); refine blk_far ?_ (by have h_ := Kd.R_away HL266_0.out (fun _ hk => hk.1.2.2); intro e_; exact h_ (by rw [e_]; rfl)) _; (with_reducible repeat (first | refine blk_drewN ?_ _ | refine blk_drew ?_ | refine blk_alloc ?_ _)); exact BK262.out⟩, ⟨by repeat (first | (with_reducible first | exact HK.out | apply Kept.alloc | apply Kept.drewN | apply Kept.drew | refine Kept.setCell ?_ HMgo55.out _ | refine Kept.setCell ?_ HMgo55.out _ | refine Kept.setCell ?_ (.inr GW249.out) _ | refine Kept.setCell ?_ (.inr GW262.out) _) | exact HK.out)⟩, ⟨by repeat (first | (with_reducible first | exact HB.out | apply below_alloc | apply pw_below_drewN | apply below_drew1 | refine below_set ?_ GB55.out | refine below_set ?_ GB55.out | refine below_set ?_ GE249.out | refine below_set ?_ GE262.out) | exact HB.out)⟩⟩
                   ·rw [if_neg c53] at H
                    exact absurd H (by simp)
                  ·rw [if_neg c52] at H
                   exact absurd H (by simp)
                 ·rw [if_neg c51] at H
                  exact absurd H (by simp)
                ·rw [if_neg c50] at H
                 exact absurd H (by simp)
               ·rw [if_neg c49] at H
                have c49b0 : decide (x79_4 < ((rd_L4 x0_25 (x4_1.length : Int)).length : Int)) = false := decide_eq_false c49
                clear c49
                have H' := Aside0.mk H
                clear H
                go_wp2
                go_loopg [103] k4 (fun kq v103 w' => ∃ (x0_5 : List (List (S103))) (x103_5 : Int) (x250000_5 : ByteArray) (x250001_5 : ByteArray) (x263000_5 : ByteArray) (x263001_5 : ByteArray), v103 = .int .i64 x103_5 ∧ Aside0 (table_reduce.l3 kq x0_5 x4_1 x16_1 (x4_1.length : Int) a1 x16_1 (x0_4.length : Int) x103_5 x250000_5 x250001_5 = some (r1, r2, r3, r4)) ∧ Aside0 (kq ≤ k4) ∧ Aside0 (Kd.S (Kd.slice 103 k103) 39 w' w0.heap.size (fun k_ => (P0_ k_ ∨ w.heap.size ≤ k_) ∧ k_ ≠ gb249 ∧ k_ ≠ gb262) (.slice (some ad260) x0_4.length co27) x0_5) ∧ Aside0 (Kd.R (Kd.int .i64) 3 w' w0.heap.size (fun k_ => (P0_ k_ ∨ w.heap.size ≤ k_)) (.slice Ao9 x4_1.length co9) x4_1) ∧ Aside0 (w'.heap[gb249]? = some (.cells #[.string x250000_5, .string x250001_5] 103 (0, 0))) ∧ Aside0 (w'.heap[gb262]? = some (.cells #[.string x263000_5, .string x263001_5] 103 (0, 0))) ∧ Aside0 (Kept w w' (fun k_ => P0_ k_)) ∧ Aside0 (Below w0.heap.size w0 w'))
                case atStart => exact ⟨(x0_4), (0), (x250000_4), (x250001_4), (x263000_4), (x263001_4), (by first | rfl | (simp; done) | (simp [*]; done)), H', ⟨Nat.le_refl _⟩, ⟨by (try simp only [hl0_25]); (try simp only [hl0_4]); (with_reducible repeat (first | apply Kd.S_alloc | apply Kd.S_drewN | apply Kd.S_drew)); exact HO_0.out⟩, ⟨by (try simp only [hl0_25]); (try simp only [hl0_4]); (with_reducible repeat (first | apply Kd.R_alloc | apply Kd.R_drewN | apply Kd.R_drew)); exact HO_4.out⟩, ⟨by (try simp only [hl0_25]); (try simp only [hl0_4]); (with_reducible repeat (first | refine blk_drewN ?_ _ | refine blk_drew ?_ | refine blk_alloc ?_ _)); exact BK249.out⟩, ⟨by (try simp only [hl0_25]); (try simp only [hl0_4]); (with_reducible repeat (first | refine blk_drewN ?_ _ | refine blk_drew ?_ | refine blk_alloc ?_ _)); exact BK262.out⟩, ⟨by repeat (first | (with_reducible first | exact HK.out | apply Kept.alloc | apply Kept.drewN | apply Kept.drew | refine Kept.setCell ?_ (.inr GW249.out) _ | refine Kept.setCell ?_ (.inr GW262.out) _) | exact HK.out)⟩, ⟨by repeat (first | (with_reducible first | exact HB.out | apply below_alloc | apply pw_below_drewN | apply below_drew1 | refine below_set ?_ GE249.out | refine below_set ?_ GE262.out) | exact HB.out)⟩⟩
                case round =>
                 clear H'
                 try clear c1
                 try clear c2
                 try clear p2
                 try clear q2
                 try clear hx2
                 try clear c3
                 try clear c4
                 try clear c5
                 try clear p5
                 try clear q5
                 try clear hx5
                 try clear hf5
                 try clear p6
                 try clear c7
                 try clear c7b0
                 try clear c9
                 try clear c10
                 try clear c10b0
                 try clear c11
                 try clear c11b0
                 try clear c12
                 try clear c12b0
                 try clear c13
                 try clear c13b0
                 try clear c15
                 try clear c15b0
                 try clear c15b1
                 try clear c16
                 try clear c21
                 try clear c21b0
                 try clear c21b1
                 try clear c25
                 try clear p25
                 try clear q25
                 try clear hx25
                 try clear c26
                 try clear p26
                 try clear q26
                 try clear hx26
                 try clear c28
                 try clear c28b0
                 try clear c28b1
                 try clear c29
                 try clear c29b0
                 try clear c29b1
                 try clear c30
                 try clear c30b0
                 try clear c30b1
                 try clear c31
                 try clear c31b0
                 try clear c32
                 try clear c32b0
                 try clear c37
                 try clear c37b0
                 try clear c37b1
                 try clear c38
                 try clear c38b0
                 try clear c38b1
                 try clear c39
                 try clear c39b0
                 try clear c40
                 try clear c40b0
                 try clear c43
                 try clear c49
                 try clear c49b0
                 try clear c50
                 try clear c50b0
                 try clear c50b1
                 try clear c51
                 try clear c51b0
                 try clear c51b1
                 try clear c52
                 try clear c52b0
                 try clear c53
                 try clear c53b0
                 try clear c55
                 try clear p55
                 try clear q55
                 try clear hx55
                 try clear hf55
                 try clear c58
                 try clear q58
                 try clear hcz25_0
                 try clear hcz25_1
                 try clear hcz34_0
                 try clear hcz34_1
                 try clear hcz36_0
                 try clear hcz36_1
                 try clear hcz44_0
                 try clear hcz44_1
                 try clear hcz45_0
                 try clear hcz45_1
                 try clear hcz47_0
                 try clear hcz47_1
                 try clear hcz6_0
                 try clear hcz6_1
                 try clear hfz25_0
                 try clear hfz25_1
                 try clear hfz34_0
                 try clear hfz34_1
                 try clear hfz36_0
                 try clear hfz36_1
                 try clear hfz44_0
                 try clear hfz44_1
                 try clear hfz45_0
                 try clear hfz45_1
                 try clear hfz47_0
                 try clear hfz47_1
                 try clear hfz6_0
                 try clear hfz6_1
                 try clear hx252_0
                 try clear hx253_0
                 try clear hx253_1
                 try clear hx260_0
                 try clear hx261_0
                 try clear hx261_1
                 try clear hx265_0
                 try clear hx266_0
                 try clear hx267_0
                 try clear hx268_0
                 try clear hx268_1
                 try clear hx55_0
                 try clear hx55_1
                 try clear p2
                 try clear p25
                 try clear p252
                 try clear p253
                 try clear p26
                 try clear p260
                 try clear p261
                 try clear p265
                 try clear p266
                 try clear p267
                 try clear p268
                 try clear p55
                 try clear p6
                 try clear q2
                 try clear q25
                 try clear q252
                 try clear q253
                 try clear q26
                 try clear q260
                 try clear q261
                 try clear q265
                 try clear q266
                 try clear q267
                 try clear q268
                 try clear q55
                 obtain ⟨x0_5, x103_5, x250000_5, x250001_5, x263000_5, x263001_5, rfl, HA, HK5, HO_0, HO_4, BK249, BK262, HK, HB⟩ := hrel
                 have hl0_5 := (Kd.S_reads' HO_0.out).1
                 rw [hl0_5] at HO_0
                 (try simp only [hl0_5])
                 (try simp only [hl0_5] at BK249)
                 (try simp only [hl0_5] at BK262)
                 (try simp only [hl0_5] at HO_4)
                 cases gk with
                 | zero => exact absurd HA.out (by simp [table_reduce.l3])
                 | succ k5 =>
                  have H := HA.out
                  clear HA
                  simp only [table_reduce.l3] at H
                  by_cases c60 : x103_5 < (x0_4.length : Int)
                  ·rw [if_pos c60] at H
                   have c60b0 : decide (x103_5 < (x0_4.length : Int)) = true := decide_eq_true c60
                   clear c60
                   by_cases c61 : 0 ≤ x103_5
                   ·rw [if_pos c61] at H
                    have c61b0 : decide (0 ≤ x103_5) = true := decide_eq_true c61
                    clear c61
                    by_cases c62 : x103_5 < (x0_5.length : Int)
                    ·rw [if_pos c62] at H
                     have c62b0 : decide (x103_5 < (x0_5.length : Int)) = true := decide_eq_true c62
                     clear c62
                     by_cases c63 : 0 ≤ x16_1
                     ·rw [if_pos c63] at H
                      have c63b0 : decide (0 ≤ x16_1) = true := decide_eq_true c63
                      clear c63
                      by_cases c64 : x16_1 < ((rd_L4 x0_5 x103_5).length : Int)
                      ·rw [if_pos c64] at H
                       have c64b0 : decide (x16_1 < ((rd_L4 x0_5 x103_5).length : Int)) = true := decide_eq_true c64
                       clear c64
                       have HC65 := Aside0.mk H
                       clear H
                       have p278 : 0 ≤ (x103_5 : Int) := of_decide_eq_true (by first | (with_reducible assumption) | assumption)
                       have q278 : x103_5 < (x0_5.length : Int) := of_decide_eq_true (by first | (with_reducible assumption) | assumption)
                       obtain ⟨ad278, A278_0, c278_0, e278, hx278_0, hl278_0, hi278_0⟩ := at_L4 (Kd.S_reads' HO_0.out).2.2 x103_5 p278 q278
                       obtain rfl : ad260 = ad278 := (by injection e278)
                       obtain ⟨ce278, hce278, hMe278, hcc278⟩ := Kd.S_get HO_0.out [] x103_5 p278 (by first | exact q278 | exact of_decide_eq_true (by first | (with_reducible assumption) | assumption) | (have e_ := (Kd.S_reads' HO_0.out).1; omega))
                       obtain ⟨ve278_0, rfl, ge278_0⟩ := hMe278
                       have hv278_0 := hcc278 0 _ rfl
                       rw [Nat.add_zero, show ((Kd.slice 103 k103)).sz = 1 from rfl, Nat.mul_one] at hv278_0
                       replace hv278_0 := Option.some.inj (hv278_0.symm.trans hx278_0)
                       rw [hv278_0] at ge278_0
                       have HL278_0 := Aside0.mk (show Kd.R k103 103 _ _ _ _ (rd_L4 x0_5 x103_5) from ge278_0)
                       clear hv278_0 ge278_0
                       have HX278_0 := Aside0.mk hx278_0
                       clear hcc278 hce278
                       have HR278_0 := Aside0.mk hi278_0
                       have HC278_0 := Aside0.mk hl278_0
                       clear hi278_0 hl278_0
                       replace p278 := eq_true p278
                       replace q278 := eq_true q278
                       have p279 : 0 ≤ (x16_1 : Int) := of_decide_eq_true (by first | (with_reducible assumption) | assumption)
                       have q279 : x16_1 < ((rd_L4 x0_5 x103_5).length : Int) := of_decide_eq_true (by first | (with_reducible assumption) | assumption)
                       obtain ⟨ad279, e279, hx279_0, hx279_1⟩ := at_T103 (by repeat (first | (with_reducible exact HR278_0.out) | (with_reducible refine Kd.C_alloc ?_ _) | (with_reducible refine Kd.C_drewN ?_ _) | (with_reducible refine Kd.C_drew ?_) | exact HR278_0.out)) x16_1 p279 q279
                       cases e279
                       replace p279 := eq_true p279
                       replace q279 := eq_true q279
                       go_upto_region 25 with (first | ((with_reducible refine gate_dst (N := 12) rfl ?_); refine box_event ?hg (N := 12) ?hd (cs := #[.string (⟨#[]⟩ : ByteArray), .string (⟨#[]⟩ : ByteArray)]) (t := 103) ?hr ?_; (case hd => rfl); (case hg => rfl); (case hr => first | (go_simp; done) | (go_simp; rfl)); intro gb280 hg w66 hbox hb; have n0_ := Aside0.mk (Kd.S_below (Kd.S_elderB (sx HO_0.out) gb280 (Nat.le_of_eq hg.symm)) hb); have n1_ := Aside0.mk (Kd.R_below (rx HO_4.out) hb); have n2_ := Aside0.mk (Kd.R_below (Kd.R_elderB (rx HL278_0.out) gb280 (Nat.le_of_eq hg.symm)) hb); have n3_ := Aside0.mk (blk_below (g := gb249) (o := .cells #[.string x250000_5, .string x250001_5] 103 (0, 0)) (bx BK249.out) hb); have n4_ := Aside0.mk (blk_below (g := gb262) (o := .cells #[.string x263000_5, .string x263001_5] 103 (0, 0)) (bx BK262.out) hb); (first | have n5_ := Aside0.mk (Kd.C_below (by repeat (first | (with_reducible exact HR278_0.out) | (with_reducible refine Kd.C_alloc ?_ _) | (with_reducible refine Kd.C_drewN ?_ _) | (with_reducible refine Kd.C_drew ?_) | exact HR278_0.out)) hb) | have n5_ := Aside0.mk True.intro); (first | have n6_ := Aside0.mk (pw_cell_below hb HX278_0.out) | have n6_ := Aside0.mk True.intro); have n7_ := Aside0.mk (Kept.below (S := (fun k_ => P0_ k_)) (by repeat (first | (with_reducible first | exact HK.out | apply Kept.alloc | apply Kept.drewN | apply Kept.drew | refine Kept.setCell ?_ (.inr GW249.out) _ | refine Kept.setCell ?_ (.inr GW262.out) _) | exact HK.out)) hb); have n8_ := Aside0.mk (below_step (by repeat (first | (with_reducible first | exact HB.out | apply below_alloc | apply pw_below_drewN | apply below_drew1 | refine below_set ?_ GE249.out | refine below_set ?_ GE262.out) | exact HB.out)) hb); have n9_ := Aside0.mk (hbox); have n10_ := Aside0.mk ((by rw [hg]; exact (by first | exact HK.out.1 | exact (show Kept w _ (fun k_ => P0_ k_) from by repeat (first | (with_reducible first | exact HK.out | apply Kept.alloc | apply Kept.drewN | apply Kept.drew | refine Kept.setCell ?_ (.inr GW249.out) _ | refine Kept.setCell ?_ (.inr GW262.out) _) | exact HK.out)).1) : w.heap.size ≤ gb280)); have n11_ := Aside0.mk ((by rw [hg]; exact (below_size (by repeat (first | (with_reducible first | exact HB.out | apply below_alloc | apply pw_below_drewN | apply below_drew1 | refine below_set ?_ GE249.out | refine below_set ?_ GE262.out) | exact HB.out))) : w0.heap.size ≤ gb280)); have n12_ := Aside0.mk ((by rw [hg]; exact Nat.ne_of_lt (blk_lt (g := gb249) (o := .cells #[.string x250000_5, .string x250001_5] 103 (0, 0)) (bx BK249.out)) : gb249 ≠ gb280)); have n13_ := Aside0.mk ((by rw [hg]; exact Nat.ne_of_gt (blk_lt (g := gb249) (o := .cells #[.string x250000_5, .string x250001_5] 103 (0, 0)) (bx BK249.out)) : gb280 ≠ gb249)); have n14_ := Aside0.mk ((by rw [hg]; exact Nat.ne_of_lt (blk_lt (g := gb262) (o := .cells #[.string x263000_5, .string x263001_5] 103 (0, 0)) (bx BK262.out)) : gb262 ≠ gb280)); have n15_ := Aside0.mk ((by rw [hg]; exact Nat.ne_of_gt (blk_lt (g := gb262) (o := .cells #[.string x263000_5, .string x263001_5] 103 (0, 0)) (bx BK262.out)) : gb280 ≠ gb262)); clear HO_0; clear HO_4; clear HL278_0; clear BK249; clear BK262; clear HR278_0; clear HX278_0; clear HK; clear HB; have HO_0 := n0_; have HO_4 := n1_; have HL278_0 := n2_; have BK249 := n3_; have BK262 := n4_; have HR278_0 := n5_; have HX278_0 := n6_; have HK := n7_; have HB := n8_; have BK280 := n9_; have GW280 := n10_; have GE280 := n11_; have NB249_280 := n12_; have NB280_249 := n13_; have NB262_280 := n14_; have NB280_262 := n15_; clear n0_ n1_ n2_ n3_ n4_ n5_ n6_ n7_ n8_ n9_ n10_ n11_ n12_ n13_ n14_ n15_; clear hb hbox hg; have hnb67 := NB280_249.out; have hnc67 := NB249_280.out; have hnb68 := NB280_262.out; have hnc68 := NB262_280.out; have hcz69_0 : w66.cell? ⟨gb280, 0, none⟩ = some (.string (⟨#[]⟩ : ByteArray)) := (blk_cell BK280.out 0).trans rfl; have hcz69_1 : w66.cell? ⟨gb280, 1, none⟩ = some (.string (⟨#[]⟩ : ByteArray)) := (blk_cell BK280.out 1).trans rfl; have hfz69_0 := blk_frozen BK280.out 0; have hfz69_1 := blk_frozen BK280.out 1))
                       (try simp only [Act.put, List.setIfInBounds_toArray, List.set_cons_zero, List.set_cons_succ])
                       go_cut [120] (fun v120 wc => ∃ (kq : Nat) (x120_64 : Bool), v120 = .bool x120_64 ∧ Aside0 (table_reduce.j6 kq x0_5 x4_1 x16_1 (x4_1.length : Int) x103_5 a1 x16_1 (x0_4.length : Int) x103_5 x120_64 x250000_5 x250001_5 ((rd_T103 (rd_L4 x0_5 x103_5) x16_1).f0) ((rd_T103 (rd_L4 x0_5 x103_5) x16_1).f1) = some (r1, r2, r3, r4)) ∧ Aside0 (kq ≤ k5) ∧ Aside0 (Kd.S (Kd.slice 103 k103) 39 wc w0.heap.size (fun k_ => (P0_ k_ ∨ w.heap.size ≤ k_) ∧ k_ ≠ gb249 ∧ k_ ≠ gb262 ∧ k_ ≠ gb280) (.slice (some ad260) x0_5.length co27) x0_5) ∧ Aside0 (Kd.R (Kd.int .i64) 3 wc w0.heap.size (fun k_ => (P0_ k_ ∨ w.heap.size ≤ k_)) (.slice Ao9 x4_1.length co9) x4_1) ∧ Aside0 (wc.heap[gb249]? = some (.cells #[.string x250000_5, .string x250001_5] 103 (0, 0))) ∧ Aside0 (wc.heap[gb262]? = some (.cells #[.string x263000_5, .string x263001_5] 103 (0, 0))) ∧ Aside0 (wc.heap[gb280]? = some (.cells #[.string ((rd_T103 (rd_L4 x0_5 x103_5) x16_1).f0), .string ((rd_T103 (rd_L4 x0_5 x103_5) x16_1).f1)] 103 (0, 0))) ∧ Aside0 (Kd.C k103 wc (some ad279) (rd_L4 x0_5 x103_5).length (rd_L4 x0_5 x103_5)) ∧ Aside0 (Kept w wc (fun k_ => P0_ k_)) ∧ Aside0 (Below w0.heap.size w0 wc))
                       case first =>
                        have H := HC65.out
                        clear HC65
                        by_cases c70 : x103_5 = (x4_1.length : Int)
                        ·rw [if_pos c70] at H
                         have c70b0 : (x103_5 == (x4_1.length : Int)) = true := beq_iff_eq.mpr c70
                         have c70b1 : (x103_5 != (x4_1.length : Int)) = false := bne_eq_false_iff_eq.mpr c70
                         clear c70
                         (first | rw [c70b0] | (simp only [i64_w, i32_w]; rw [c70b0]) | skip)
                         have H' := Aside0.mk H
                         clear H
                         go_wp2
                         go_meet
                         case rel => exact ⟨_, (true), (by first | rfl | (simp; done) | (simp [*]; done)), H', ⟨by have := HK1.out; have := HJ7.out; have := HJ25.out; have := HK4.out; have := HK5.out; first | omega | exact Nat.le_refl _⟩, ⟨by (try simp only [hl0_25]); (try simp only [hl0_4]); (try simp only [hl0_5]); (with_reducible repeat (first | apply Kd.S_alloc | apply Kd.S_drewN | apply Kd.S_drew)); exact Kd.S_mono (Kd.S_far (p := ⟨gb280, 1, none⟩) (Kd.S_far (p := ⟨gb280, 0, none⟩) (Kd.S_mono HO_0.out (fun k_ hk => (⟨hk, hk.2⟩ : _ ∧ k_ ≠ gb280))) (fun _ hk => hk.2) (.string ((rd_T103 (rd_L4 x0_5 x103_5) x16_1).f0))) (fun _ hk => hk.2) (.string ((rd_T103 (rd_L4 x0_5 x103_5) x16_1).f1))) (fun _ hk => ⟨hk.1.1.1, ⟨hk.1.1.2.1, ⟨hk.1.1.2.2, hk.1.2⟩⟩⟩)⟩, ⟨by (try simp only [hl0_25]); (try simp only [hl0_4]); (try simp only [hl0_5]); (with_reducible repeat (first | apply Kd.R_alloc | apply Kd.R_drewN | apply Kd.R_drew)); exact Kd.R_mono (Kd.R_far (p := ⟨gb280, 1, none⟩) (Kd.R_far (p := ⟨gb280, 0, none⟩) (Kd.R_types HO_4.out BK280.out (by decide)) (fun _ hk => hk.2) (.string ((rd_T103 (rd_L4 x0_5 x103_5) x16_1).f0))) (fun _ hk => hk.2) (.string ((rd_T103 (rd_L4 x0_5 x103_5) x16_1).f1))) (fun _ hk => hk.1)⟩, ⟨by (try simp only [hl0_25]); (try simp only [hl0_4]); (try simp only [hl0_5]); (with_reducible repeat (first | refine blk_drewN ?_ _ | refine blk_drew ?_ | refine blk_alloc ?_ _)); refine blk_far ?_ NB249_280.out _; (with_reducible repeat (first | refine blk_drewN ?_ _ | refine blk_drew ?_ | refine blk_alloc ?_ _)); refine blk_far ?_ NB249_280.out _; (with_reducible repeat (first | refine blk_drewN ?_ _ | refine blk_drew ?_ | refine blk_alloc ?_ _)); exact BK249.out⟩, ⟨by (try simp only [hl0_25]); (try simp only [hl0_4]); (try simp only [hl0_5]); (with_reducible repeat (first | refine blk_drewN ?_ _ | refine blk_drew ?_ | refine blk_alloc ?_ _)); refine blk_far ?_ NB262_280.out _; (with_reducible repeat (first | refine blk_drewN ?_ _ | refine blk_drew ?_ | refine blk_alloc ?_ _)); refine blk_far ?_ NB262_280.out _; (with_reducible repeat (first | refine blk_drewN ?_ _ | refine blk_drew ?_ | refine blk_alloc ?_ _)); exact BK262.out⟩, ⟨by (try simp only [hl0_25]); (try simp only [hl0_4]); (try simp only [hl0_5]); (with_reducible repeat (first | refine blk_drewN ?_ _ | refine blk_drew ?_ | refine blk_alloc ?_ _)); refine blk_put (cs := #[.string ((rd_T103 (rd_L4 x0_5 x103_5) x16_1).f0), .string (⟨#[]⟩ : ByteArray)]) ?_ 1 _ rfl; (with_reducible repeat (first | refine blk_drewN ?_ _ | refine blk_drew ?_ | refine blk_alloc ?_ _)); refine blk_put (cs := #[.string (⟨#[]⟩ : ByteArray), .string (⟨#[]⟩ : ByteArray)]) ?_ 0 _ rfl; (with_reducible repeat (first | refine blk_drewN ?_ _ | refine blk_drew ?_ | refine blk_alloc ?_ _)); exact BK280.out⟩, ⟨(Kd.R_reads' (by (with_reducible repeat (first | apply Kd.R_alloc | apply Kd.R_drewN | apply Kd.R_drew)); exact (Kd.R_mono (Kd.R_far (p := ⟨gb280, 1, none⟩) (Kd.R_far (p := ⟨gb280, 0, none⟩) (Kd.R_mono HL278_0.out (fun k_ hk => (⟨hk, hk.2⟩ : _ ∧ k_ ≠ gb280))) (fun _ hk => hk.2) (.string ((rd_T103 (rd_L4 x0_5 x103_5) x16_1).f0))) (fun _ hk => hk.2) (.string ((rd_T103 (rd_L4 x0_5 x103_5) x16_1).f1))) (fun _ h_ => h_.1)))).2.2⟩, ⟨by repeat (first | (with_reducible first | exact HK.out | apply Kept.alloc | apply Kept.drewN | apply Kept.drew | refine Kept.setCell ?_ (.inr GW249.out) _ | refine Kept.setCell ?_ (.inr GW262.out) _ | refine Kept.setCell ?_ (.inr GW280.out) _) | exact HK.out)⟩, ⟨by repeat (first | (with_reducible first | exact HB.out | apply below_alloc | apply pw_below_drewN | apply below_drew1 | refine below_set ?_ GE249.out | refine below_set ?_ GE262.out | refine below_set ?_ GE280.out) | exact HB.out)⟩⟩
                        ·rw [if_neg c70] at H
                         have c70b0 : (x103_5 == (x4_1.length : Int)) = false := beq_eq_false_iff_ne.mpr c70
                         have c70b1 : (x103_5 != (x4_1.length : Int)) = true := bne_iff_ne.mpr c70
                         (first | rw [c70b0] | (simp only [i64_w, i32_w]; rw [c70b0]) | skip)
                         replace H := Option.bind_eq_some_iff.mp H
                         obtain ⟨t281, A710, H⟩ := H
                         replace H : (table_reduce.j6 k5 x0_5 x4_1 x16_1 (x4_1.length : Int) x103_5 a1 x16_1 (x0_4.length : Int) x103_5 (t281 == 0) x250000_5 x250001_5 ((rd_T103 (rd_L4 x0_5 x103_5) x16_1).f0) ((rd_T103 (rd_L4 x0_5 x103_5) x16_1).f1)) = some (r1, r2, r3, r4) := H
                         have A71 := Aside0.mk A710
                         clear A710
                         have H' := Aside0.mk H
                         clear H
                         have hnb72 := NB280_249.out
                         have hnc72 := NB249_280.out
                         have hnb73 := NB280_262.out
                         have hnc73 := NB262_280.out
                         have hcz74_0 : w66.cell? ⟨gb280, 0, none⟩ = some (.string (⟨#[]⟩ : ByteArray)) := (blk_cell BK280.out 0).trans rfl
                         have hcz74_1 : w66.cell? ⟨gb280, 1, none⟩ = some (.string (⟨#[]⟩ : ByteArray)) := (blk_cell BK280.out 1).trans rfl
                         have hfz74_0 := blk_frozen BK280.out 0
                         have hfz74_1 := blk_frozen BK280.out 1
                         go_wp2_with (first | (go_at_call 112; (with_reducible refine (fraction_Sign.calls ((rd_T103 (rd_L4 x0_5 x103_5) x16_1).f0) ((rd_T103 (rd_L4 x0_5 x103_5) x16_1).f1) t281 _ A71.out).mono ?_); rintro e w75 ⟨rfl, hb⟩; have n0_ := Aside0.mk (Kd.S_below (by (with_reducible repeat (first | apply Kd.S_alloc | apply Kd.S_drewN | apply Kd.S_drew)); exact (Kd.S_mono (Kd.S_far (p := ⟨gb280, 1, none⟩) (Kd.S_far (p := ⟨gb280, 0, none⟩) (Kd.S_mono HO_0.out (fun k_ hk => (⟨hk, hk.2⟩ : _ ∧ k_ ≠ gb280))) (fun _ hk => hk.2) (.string ((rd_T103 (rd_L4 x0_5 x103_5) x16_1).f0))) (fun _ hk => hk.2) (.string ((rd_T103 (rd_L4 x0_5 x103_5) x16_1).f1))) (fun _ h_ => h_.1))) hb); have n1_ := Aside0.mk (Kd.R_below (by (with_reducible repeat (first | apply Kd.R_alloc | apply Kd.R_drewN | apply Kd.R_drew)); exact (Kd.R_mono (Kd.R_far (p := ⟨gb280, 1, none⟩) (Kd.R_far (p := ⟨gb280, 0, none⟩) (Kd.R_types HO_4.out BK280.out (by decide)) (fun _ hk => hk.2) (.string ((rd_T103 (rd_L4 x0_5 x103_5) x16_1).f0))) (fun _ hk => hk.2) (.string ((rd_T103 (rd_L4 x0_5 x103_5) x16_1).f1))) (fun _ h_ => h_.1))) hb); have n2_ := Aside0.mk (Kd.R_below (by (with_reducible repeat (first | apply Kd.R_alloc | apply Kd.R_drewN | apply Kd.R_drew)); exact (Kd.R_mono (Kd.R_far (p := ⟨gb280, 1, none⟩) (Kd.R_far (p := ⟨gb280, 0, none⟩) (Kd.R_mono HL278_0.out (fun k_ hk => (⟨hk, hk.2⟩ : _ ∧ k_ ≠ gb280))) (fun _ hk => hk.2) (.string ((rd_T103 (rd_L4 x0_5 x103_5) x16_1).f0))) (fun _ hk => hk.2) (.string ((rd_T103 (rd_L4 x0_5 x103_5) x16_1).f1))) (fun _ h_ => h_.1))) hb); have n3_ := Aside0.mk (blk_below (g := gb249) (o := .cells #[.string x250000_5, .string x250001_5] 103 (0, 0)) (by (with_reducible repeat (first | refine blk_drewN ?_ _ | refine blk_drew ?_ | refine blk_alloc ?_ _)); refine blk_far ?_ NB249_280.out _; (with_reducible repeat (first | refine blk_drewN ?_ _ | refine blk_drew ?_ | refine blk_alloc ?_ _)); refine blk_far ?_ NB249_280.out _; (with_reducible repeat (first | refine blk_drewN ?_ _ | refine blk_drew ?_ | refine blk_alloc ?_ _)); exact BK249.out) hb); have n4_ := Aside0.mk (blk_below (g := gb262) (o := .cells #[.string x263000_5, .string x263001_5] 103 (0, 0)) (by (with_reducible repeat (first | refine blk_drewN ?_ _ | refine blk_drew ?_ | refine blk_alloc ?_ _)); refine blk_far ?_ NB262_280.out _; (with_reducible repeat (first | refine blk_drewN ?_ _ | refine blk_drew ?_ | refine blk_alloc ?_ _)); refine blk_far ?_ NB262_280.out _; (with_reducible repeat (first | refine blk_drewN ?_ _ | refine blk_drew ?_ | refine blk_alloc ?_ _)); exact BK262.out) hb); (first | have n5_ := Aside0.mk (Kd.C_below ((Kd.R_reads' (by (with_reducible repeat (first | apply Kd.R_alloc | apply Kd.R_drewN | apply Kd.R_drew)); exact (Kd.R_mono (Kd.R_far (p := ⟨gb280, 1, none⟩) (Kd.R_far (p := ⟨gb280, 0, none⟩) (Kd.R_mono HL278_0.out (fun k_ hk => (⟨hk, hk.2⟩ : _ ∧ k_ ≠ gb280))) (fun _ hk => hk.2) (.string ((rd_T103 (rd_L4 x0_5 x103_5) x16_1).f0))) (fun _ hk => hk.2) (.string ((rd_T103 (rd_L4 x0_5 x103_5) x16_1).f1))) (fun _ h_ => h_.1)))).2.2) hb) | have n5_ := Aside0.mk True.intro); (first | have n6_ := Aside0.mk (pw_cell_below hb HX278_0.out) | have n6_ := Aside0.mk True.intro); have n7_ := Aside0.mk (blk_below (g := gb280) (o := .cells #[.string ((rd_T103 (rd_L4 x0_5 x103_5) x16_1).f0), .string ((rd_T103 (rd_L4 x0_5 x103_5) x16_1).f1)] 103 (0, 0)) (by (with_reducible repeat (first | refine blk_drewN ?_ _ | refine blk_drew ?_ | refine blk_alloc ?_ _)); refine blk_put (cs := #[.string ((rd_T103 (rd_L4 x0_5 x103_5) x16_1).f0), .string (⟨#[]⟩ : ByteArray)]) ?_ 1 _ rfl; (with_reducible repeat (first | refine blk_drewN ?_ _ | refine blk_drew ?_ | refine blk_alloc ?_ _)); refine blk_put (cs := #[.string (⟨#[]⟩ : ByteArray), .string (⟨#[]⟩ : ByteArray)]) ?_ 0 _ rfl; (with_reducible repeat (first | refine blk_drewN ?_ _ | refine blk_drew ?_ | refine blk_alloc ?_ _)); exact BK280.out) hb); have n8_ := Aside0.mk (Kept.below (S := (fun k_ => P0_ k_)) (by repeat (first | (with_reducible first | exact HK.out | apply Kept.alloc | apply Kept.drewN | apply Kept.drew | refine Kept.setCell ?_ (.inr GW249.out) _ | refine Kept.setCell ?_ (.inr GW262.out) _ | refine Kept.setCell ?_ (.inr GW280.out) _) | exact HK.out)) hb); have n9_ := Aside0.mk (below_step (by repeat (first | (with_reducible first | exact HB.out | apply below_alloc | apply pw_below_drewN | apply below_drew1 | refine below_set ?_ GE249.out | refine below_set ?_ GE262.out | refine below_set ?_ GE280.out) | exact HB.out)) hb); clear HO_0; clear HO_4; clear HL278_0; clear BK249; clear BK262; clear HR278_0; clear HX278_0; clear BK280; clear HK; clear HB; have HO_0 := n0_; have HO_4 := n1_; have HL278_0 := n2_; have BK249 := n3_; have BK262 := n4_; have HR278_0 := n5_; have HX278_0 := n6_; have BK280 := n7_; have HK := n8_; have HB := n9_; clear n0_ n1_ n2_ n3_ n4_ n5_ n6_ n7_ n8_ n9_; (try clear hb); (try clear hb2); (try clear hk); (try clear hi)))
                         go_meet
                         case rel => exact ⟨_, ((t281 == 0)), (by first | rfl | (simp; done) | (simp [*]; done)), H', ⟨by have := HK1.out; have := HJ7.out; have := HJ25.out; have := HK4.out; have := HK5.out; first | omega | exact Nat.le_refl _⟩, ⟨by (try simp only [hl0_25]); (try simp only [hl0_4]); (try simp only [hl0_5]); (with_reducible repeat (first | apply Kd.S_alloc | apply Kd.S_drewN | apply Kd.S_drew)); exact Kd.S_mono HO_0.out (fun _ hk => ⟨hk.1.1, ⟨hk.1.2.1, ⟨hk.1.2.2, hk.2⟩⟩⟩)⟩, ⟨by (try simp only [hl0_25]); (try simp only [hl0_4]); (try simp only [hl0_5]); (with_reducible repeat (first | apply Kd.R_alloc | apply Kd.R_drewN | apply Kd.R_drew)); exact HO_4.out⟩, ⟨by (try simp only [hl0_25]); (try simp only [hl0_4]); (try simp only [hl0_5]); (with_reducible repeat (first | refine blk_drewN ?_ _ | refine blk_drew ?_ | refine blk_alloc ?_ _)); exact BK249.out⟩, ⟨by (try simp only [hl0_25]); (try simp only [hl0_4]); (try simp only [hl0_5]); (with_reducible repeat (first | refine blk_drewN ?_ _ | refine blk_drew ?_ | refine blk_alloc ?_ _)); exact BK262.out⟩, ⟨by (try simp only [hl0_25]); (try simp only [hl0_4]); (try simp only [hl0_5]); (with_reducible repeat (first | refine blk_drewN ?_ _ | refine blk_drew ?_ | refine blk_alloc ?_ _)); exact BK280.out⟩, ⟨by repeat (first | (with_reducible exact HR278_0.out) | (with_reducible refine Kd.C_alloc ?_ _) | (with_reducible refine Kd.C_drewN ?_ _) | (with_reducible refine Kd.C_drew ?_) | exact HR278_0.out)⟩, ⟨by repeat (first | (with_reducible first | exact HK.out | apply Kept.alloc | apply Kept.drewN | apply Kept.drew | refine Kept.setCell ?_ (.inr GW249.out) _ | refine Kept.setCell ?_ (.inr GW262.out) _ | refine Kept.setCell ?_ (.inr GW280.out) _) | exact HK.out)⟩, ⟨by repeat (first | (with_reducible first | exact HB.out | apply below_alloc | apply pw_below_drewN | apply below_drew1 | refine below_set ?_ GE249.out | refine below_set ?_ GE262.out | refine below_set ?_ GE280.out) | exact HB.out)⟩⟩
                       case rest =>
                        clear HC65
                        try clear c1
                        try clear c2
                        try clear p2
                        try clear q2
                        try clear hx2
                        try clear c3
                        try clear c4
                        try clear c5
                        try clear p5
                        try clear q5
                        try clear hx5
                        try clear hf5
                        try clear c6
                        try clear p6
                        try clear c7
                        try clear c7b0
                        try clear c9
                        try clear c10
                        try clear c10b0
                        try clear c11
                        try clear c11b0
                        try clear c12
                        try clear c12b0
                        try clear c13
                        try clear c13b0
                        try clear c15
                        try clear c15b0
                        try clear c15b1
                        try clear c16
                        try clear c21
                        try clear c21b0
                        try clear c21b1
                        try clear c25
                        try clear p25
                        try clear q25
                        try clear hx25
                        try clear c26
                        try clear p26
                        try clear q26
                        try clear hx26
                        try clear c27
                        try clear p27
                        try clear q27
                        try clear hx27
                        try clear c28
                        try clear c28b0
                        try clear c28b1
                        try clear c29
                        try clear c29b0
                        try clear c29b1
                        try clear c30
                        try clear c30b0
                        try clear c30b1
                        try clear c31
                        try clear c31b0
                        try clear c32
                        try clear c32b0
                        try clear c37
                        try clear c37b0
                        try clear c37b1
                        try clear c38
                        try clear c38b0
                        try clear c38b1
                        try clear c39
                        try clear c39b0
                        try clear c40
                        try clear c40b0
                        try clear c43
                        try clear c49
                        try clear c49b0
                        try clear c50
                        try clear c50b0
                        try clear c50b1
                        try clear c51
                        try clear c51b0
                        try clear c51b1
                        try clear c52
                        try clear c52b0
                        try clear c53
                        try clear c53b0
                        try clear c55
                        try clear p55
                        try clear q55
                        try clear hx55
                        try clear hf55
                        try clear c58
                        try clear q58
                        try clear c60
                        try clear c60b0
                        try clear c61
                        try clear c61b0
                        try clear c62
                        try clear c62b0
                        try clear c63
                        try clear c63b0
                        try clear c64
                        try clear c64b0
                        try clear p64
                        try clear c67
                        try clear c68
                        try clear c70
                        try clear c70b0
                        try clear c70b1
                        try clear c72
                        try clear c73
                        try clear hcz25_0
                        try clear hcz25_1
                        try clear hcz34_0
                        try clear hcz34_1
                        try clear hcz36_0
                        try clear hcz36_1
                        try clear hcz44_0
                        try clear hcz44_1
                        try clear hcz45_0
                        try clear hcz45_1
                        try clear hcz47_0
                        try clear hcz47_1
                        try clear hcz69_0
                        try clear hcz69_1
                        try clear hcz6_0
                        try clear hcz6_1
                        try clear hcz74_0
                        try clear hcz74_1
                        try clear hfz25_0
                        try clear hfz25_1
                        try clear hfz34_0
                        try clear hfz34_1
                        try clear hfz36_0
                        try clear hfz36_1
                        try clear hfz44_0
                        try clear hfz44_1
                        try clear hfz45_0
                        try clear hfz45_1
                        try clear hfz47_0
                        try clear hfz47_1
                        try clear hfz69_0
                        try clear hfz69_1
                        try clear hfz6_0
                        try clear hfz6_1
                        try clear hfz74_0
                        try clear hfz74_1
                        try clear hx252_0
                        try clear hx253_0
                        try clear hx253_1
                        try clear hx260_0
                        try clear hx261_0
                        try clear hx261_1
                        try clear hx265_0
                        try clear hx266_0
                        try clear hx267_0
                        try clear hx268_0
                        try clear hx268_1
                        try clear hx278_0
                        try clear hx279_0
                        try clear hx279_1
                        try clear hx55_0
                        try clear hx55_1
                        try clear p2
                        try clear p25
                        try clear p252
                        try clear p253
                        try clear p26
                        try clear p260
                        try clear p261
                        try clear p265
                        try clear p266
                        try clear p267
                        try clear p268
                        try clear p278
                        try clear p279
                        try clear p5
                        try clear p55
                        try clear p6
                        try clear q2
                        try clear q25
                        try clear q252
                        try clear q253
                        try clear q26
                        try clear q260
                        try clear q261
                        try clear q265
                        try clear q266
                        try clear q267
                        try clear q268
                        try clear q278
                        try clear q279
                        try clear q5
                        try clear q55
                        try clear q58
                        obtain ⟨kq, x120_64, rfl, HA, HJ64, HO_0, HO_4, BK249, BK262, BK280, HR278_0, HK, HB⟩ := hcut
                        cases kq with
                        | zero => exact absurd HA.out (by simp [table_reduce.j6])
                        | succ kj64 =>
                         have H := HA.out
                         clear HA
                         simp only [table_reduce.j6] at H
                         by_cases c76 : x120_64 = true
                         ·subst c76
                          have H1 : (table_reduce.l3 kj64 x0_5 x4_1 x16_1 (x4_1.length : Int) a1 x16_1 (x0_4.length : Int) (wrap64 (x103_5 + 1)) x250000_5 x250001_5) = some (r1, r2, r3, r4) := by rw [if_pos rfl] at H; exact H
                          clear H
                          have H := H1
                          clear H1
                          have H' := Aside0.mk H
                          clear H
                          go_wp2
                          (try simp only [← hl0_5])
                          go_roundg kj64
                          case measure => have := HK1.out; have := HJ7.out; have := HJ25.out; have := HK4.out; have := HK5.out; have := HJ64.out; omega
                          case rel => exact ⟨(x0_5), (wrap64 (x103_5 + 1)), (x250000_5), (x250001_5), (x263000_5), (x263001_5), (by first | rfl | (simp; done) | (simp [*]; done)), H', ⟨by have := HK1.out; have := HJ7.out; have := HJ25.out; have := HK4.out; have := HK5.out; have := HJ64.out; omega⟩, ⟨by (try simp only [hl0_25]); (try simp only [hl0_4]); (try simp only [hl0_5]); (with_reducible repeat (first | apply Kd.S_alloc | apply Kd.S_drewN | apply Kd.S_drew)); exact Kd.S_mono HO_0.out (fun _ hk => ⟨hk.1, ⟨hk.2.1, hk.2.2.1⟩⟩)⟩, ⟨by (try simp only [hl0_25]); (try simp only [hl0_4]); (try simp only [hl0_5]); (with_reducible repeat (first | apply Kd.R_alloc | apply Kd.R_drewN | apply Kd.R_drew)); exact HO_4.out⟩, ⟨by (try simp only [hl0_25]); (try simp only [hl0_4]); (try simp only [hl0_5]); (with_reducible repeat (first | refine blk_drewN ?_ _ | refine blk_drew ?_ | refine blk_alloc ?_ _)); exact BK249.out⟩, ⟨by (try simp only [hl0_25]); (try simp only [hl0_4]); (try simp only [hl0_5]); (with_reducible repeat (first | refine blk_drewN ?_ _ | refine blk_drew ?_ | refine blk_alloc ?_ _)); exact BK262.out⟩, ⟨by repeat (first | (with_reducible first | exact HK.out | apply Kept.alloc | apply Kept.drewN | apply Kept.drew | refine Kept.setCell ?_ (.inr GW249.out) _ | refine Kept.setCell ?_ (.inr GW262.out) _ | refine Kept.setCell ?_ (.inr GW280.out) _) | exact HK.out)⟩, ⟨by repeat (first | (with_reducible first | exact HB.out | apply below_alloc | apply pw_below_drewN | apply below_drew1 | refine below_set ?_ GE249.out | refine below_set ?_ GE262.out | refine below_set ?_ GE280.out) | exact HB.out)⟩⟩
                         ·replace c76 := Bool.eq_false_iff.mpr c76
                          subst c76
                          have H1 : (if 0 ≤ x103_5 then (if x103_5 < (x0_5.length : Int) then (table_reduce.l4 kj64 x0_5 x4_1 x16_1 (x4_1.length : Int) x103_5 a1 x16_1 (x0_4.length : Int) x103_5 ((rd_L4 x0_5 x103_5).length : Int) 0 x250000_5 x250001_5 ((rd_T103 (rd_L4 x0_5 x103_5) x16_1).f0) ((rd_T103 (rd_L4 x0_5 x103_5) x16_1).f1)) else (none)) else (none)) = some (r1, r2, r3, r4) := by rw [if_neg (show ¬ (false = true) by decide)] at H; exact H
                          clear H
                          have H := H1
                          clear H1
                          by_cases c77 : 0 ≤ x103_5
                          ·rw [if_pos c77] at H
                           have c77b0 : decide (0 ≤ x103_5) = true := decide_eq_true c77
                           clear c77
                           by_cases c78 : x103_5 < (x0_5.length : Int)
                           ·rw [if_pos c78] at H
                            have c78b0 : decide (x103_5 < (x0_5.length : Int)) = true := decide_eq_true c78
                            clear c78
                            have H' := Aside0.mk H
                            clear H
                            have p282 : 0 ≤ (x103_5 : Int) := of_decide_eq_true (by first | (with_reducible assumption) | assumption)
                            have q282 : x103_5 < (x0_5.length : Int) := of_decide_eq_true (by first | (with_reducible assumption) | assumption)
                            obtain ⟨ad282, A282_0, c282_0, e282, hx282_0, hl282_0, hi282_0⟩ := at_L4 (Kd.S_reads' HO_0.out).2.2 x103_5 p282 q282
                            obtain rfl : ad260 = ad282 := (by injection e282)
                            obtain ⟨ce282, hce282, hMe282, hcc282⟩ := Kd.S_get HO_0.out [] x103_5 p282 (by first | exact q282 | exact of_decide_eq_true (by first | (with_reducible assumption) | assumption) | (have e_ := (Kd.S_reads' HO_0.out).1; omega))
                            obtain ⟨ve282_0, rfl, ge282_0⟩ := hMe282
                            have hv282_0 := hcc282 0 _ rfl
                            rw [Nat.add_zero, show ((Kd.slice 103 k103)).sz = 1 from rfl, Nat.mul_one] at hv282_0
                            replace hv282_0 := Option.some.inj (hv282_0.symm.trans hx282_0)
                            rw [hv282_0] at ge282_0
                            have HL282_0 := Aside0.mk (show Kd.R k103 103 _ _ _ _ (rd_L4 x0_5 x103_5) from ge282_0)
                            clear hv282_0 ge282_0
                            have HX282_0 := Aside0.mk hx282_0
                            clear hcc282 hce282
                            have HR282_0 := Aside0.mk hi282_0
                            have HC282_0 := Aside0.mk hl282_0
                            clear hi282_0 hl282_0
                            replace p282 := eq_true p282
                            replace q282 := eq_true q282
                            go_wp2
                            go_loopg [126] kj64 (fun kq v126 w' => ∃ (x0_7 : List (List (S103))) (x126_7 : Int) (x250000_7 : ByteArray) (x250001_7 : ByteArray) (x263000_7 : ByteArray) (x263001_7 : ByteArray) (x281000_7 : ByteArray) (x281001_7 : ByteArray), v126 = .int .i64 x126_7 ∧ Aside0 (table_reduce.l4 kq x0_7 x4_1 x16_1 (x4_1.length : Int) x103_5 a1 x16_1 (x0_4.length : Int) x103_5 ((rd_L4 x0_5 x103_5).length : Int) x126_7 x250000_7 x250001_7 x281000_7 x281001_7 = some (r1, r2, r3, r4)) ∧ Aside0 (kq ≤ kj64) ∧ Aside0 (Kd.S (Kd.slice 103 k103) 39 w' w0.heap.size (fun k_ => (P0_ k_ ∨ w.heap.size ≤ k_) ∧ k_ ≠ gb249 ∧ k_ ≠ gb262 ∧ k_ ≠ gb280) (.slice (some ad260) x0_5.length co27) x0_7) ∧ Aside0 (Kd.R (Kd.int .i64) 3 w' w0.heap.size (fun k_ => (P0_ k_ ∨ w.heap.size ≤ k_)) (.slice Ao9 x4_1.length co9) x4_1) ∧ Aside0 (w'.heap[gb249]? = some (.cells #[.string x250000_7, .string x250001_7] 103 (0, 0))) ∧ Aside0 (w'.heap[gb262]? = some (.cells #[.string x263000_7, .string x263001_7] 103 (0, 0))) ∧ Aside0 (w'.heap[gb280]? = some (.cells #[.string x281000_7, .string x281001_7] 103 (0, 0))) ∧ Aside0 (Kept w w' (fun k_ => P0_ k_)) ∧ Aside0 (Below w0.heap.size w0 w'))
                            case atStart => exact ⟨(x0_5), (0), (x250000_5), (x250001_5), (x263000_5), (x263001_5), (((rd_T103 (rd_L4 x0_5 x103_5) x16_1).f0)), (((rd_T103 (rd_L4 x0_5 x103_5) x16_1).f1)), (by first | rfl | (simp; done) | (simp [*]; done)), H', ⟨Nat.le_refl _⟩, ⟨by (try simp only [hl0_25]); (try simp only [hl0_4]); (try simp only [hl0_5]); (with_reducible repeat (first | apply Kd.S_alloc | apply Kd.S_drewN | apply Kd.S_drew)); exact HO_0.out⟩, ⟨by (try simp only [hl0_25]); (try simp only [hl0_4]); (try simp only [hl0_5]); (with_reducible repeat (first | apply Kd.R_alloc | apply Kd.R_drewN | apply Kd.R_drew)); exact HO_4.out⟩, ⟨by (try simp only [hl0_25]); (try simp only [hl0_4]); (try simp only [hl0_5]); (with_reducible repeat (first | refine blk_drewN ?_ _ | refine blk_drew ?_ | refine blk_alloc ?_ _)); exact BK249.out⟩, ⟨by (try simp only [hl0_25]); (try simp only [hl0_4]); (try simp only [hl0_5]); (with_reducible repeat (first | refine blk_drewN ?_ _ | refine blk_drew ?_ | refine blk_alloc ?_ _)); exact BK262.out⟩, ⟨by (try simp only [hl0_25]); (try simp only [hl0_4]); (try simp only [hl0_5]); (with_reducible repeat (first | refine blk_drewN ?_ _ | refine blk_drew ?_ | refine blk_alloc ?_ _)); exact BK280.out⟩, ⟨by repeat (first | (with_reducible first | exact HK.out | apply Kept.alloc | apply Kept.drewN | apply Kept.drew | refine Kept.setCell ?_ (.inr GW249.out) _ | refine Kept.setCell ?_ (.inr GW262.out) _ | refine Kept.setCell ?_ (.inr GW280.out) _) | exact HK.out)⟩, ⟨by repeat (first | (with_reducible first | exact HB.out | apply below_alloc | apply pw_below_drewN | apply below_drew1 | refine below_set ?_ GE249.out | refine below_set ?_ GE262.out | refine below_set ?_ GE280.out) | exact HB.out)⟩⟩
                            case round =>
                             clear H'
                             try clear c1
                             try clear c2
                             try clear p2
                             try clear q2
                             try clear hx2
                             try clear c3
                             try clear c4
                             try clear c5
                             try clear p5
                             try clear q5
                             try clear hx5
                             try clear hf5
                             try clear c6
                             try clear p6
                             try clear c7
                             try clear c7b0
                             try clear c9
                             try clear c10
                             try clear c10b0
                             try clear c11
                             try clear c11b0
                             try clear c12
                             try clear c12b0
                             try clear c13
                             try clear c13b0
                             try clear c15
                             try clear c15b0
                             try clear c15b1
                             try clear c16
                             try clear c21
                             try clear c21b0
                             try clear c21b1
                             try clear c25
                             try clear p25
                             try clear q25
                             try clear hx25
                             try clear c26
                             try clear p26
                             try clear q26
                             try clear hx26
                             try clear c27
                             try clear p27
                             try clear q27
                             try clear hx27
                             try clear c28
                             try clear c28b0
                             try clear c28b1
                             try clear p28
                             try clear q28
                             try clear hx28
                             try clear c29
                             try clear c29b0
                             try clear c29b1
                             try clear c30
                             try clear c30b0
                             try clear c30b1
                             try clear c31
                             try clear c31b0
                             try clear c32
                             try clear c32b0
                             try clear c37
                             try clear c37b0
                             try clear c37b1
                             try clear c38
                             try clear c38b0
                             try clear c38b1
                             try clear c39
                             try clear c39b0
                             try clear c40
                             try clear c40b0
                             try clear c43
                             try clear c49
                             try clear c49b0
                             try clear c50
                             try clear c50b0
                             try clear c50b1
                             try clear c51
                             try clear c51b0
                             try clear c51b1
                             try clear c52
                             try clear c52b0
                             try clear c53
                             try clear c53b0
                             try clear c55
                             try clear p55
                             try clear q55
                             try clear hx55
                             try clear hf55
                             try clear c58
                             try clear q58
                             try clear c60
                             try clear c60b0
                             try clear c61
                             try clear c61b0
                             try clear c62
                             try clear c62b0
                             try clear c63
                             try clear c63b0
                             try clear c64
                             try clear c64b0
                             try clear p64
                             try clear c67
                             try clear c68
                             try clear c70
                             try clear c70b0
                             try clear c70b1
                             try clear c72
                             try clear c73
                             try clear c76
                             try clear c77
                             try clear c77b0
                             try clear c78
                             try clear c78b0
                             try clear hcz25_0
                             try clear hcz25_1
                             try clear hcz34_0
                             try clear hcz34_1
                             try clear hcz36_0
                             try clear hcz36_1
                             try clear hcz44_0
                             try clear hcz44_1
                             try clear hcz45_0
                             try clear hcz45_1
                             try clear hcz47_0
                             try clear hcz47_1
                             try clear hcz69_0
                             try clear hcz69_1
                             try clear hcz6_0
                             try clear hcz6_1
                             try clear hcz74_0
                             try clear hcz74_1
                             try clear hfz25_0
                             try clear hfz25_1
                             try clear hfz34_0
                             try clear hfz34_1
                             try clear hfz36_0
                             try clear hfz36_1
                             try clear hfz44_0
                             try clear hfz44_1
                             try clear hfz45_0
                             try clear hfz45_1
                             try clear hfz47_0
                             try clear hfz47_1
                             try clear hfz69_0
                             try clear hfz69_1
                             try clear hfz6_0
                             try clear hfz6_1
                             try clear hfz74_0
                             try clear hfz74_1
                             try clear hx252_0
                             try clear hx253_0
                             try clear hx253_1
                             try clear hx260_0
                             try clear hx261_0
                             try clear hx261_1
                             try clear hx265_0
                             try clear hx266_0
                             try clear hx267_0
                             try clear hx268_0
                             try clear hx268_1
                             try clear hx278_0
                             try clear hx279_0
                             try clear hx279_1
                             try clear hx282_0
                             try clear hx55_0
                             try clear hx55_1
                             try clear p2
                             try clear p25
                             try clear p252
                             try clear p253
                             try clear p26
                             try clear p260
                             try clear p261
                             try clear p265
                             try clear p266
                             try clear p267
                             try clear p268
                             try clear p27
                             try clear p278
                             try clear p279
                             try clear p282
                             try clear p5
                             try clear p55
                             try clear p6
                             try clear p64
                             try clear q2
                             try clear q25
                             try clear q252
                             try clear q253
                             try clear q26
                             try clear q260
                             try clear q261
                             try clear q265
                             try clear q266
                             try clear q267
                             try clear q268
                             try clear q27
                             try clear q278
                             try clear q279
                             try clear q282
                             try clear q5
                             try clear q55
                             try clear q58
                             obtain ⟨x0_7, x126_7, x250000_7, x250001_7, x263000_7, x263001_7, x281000_7, x281001_7, rfl, HA, HK7, HO_0, HO_4, BK249, BK262, BK280, HK, HB⟩ := hrel
                             have hl0_7 := (Kd.S_reads' HO_0.out).1
                             rw [hl0_7] at HO_0
                             (try simp only [hl0_7])
                             (try simp only [hl0_7] at BK249)
                             (try simp only [hl0_7] at BK262)
                             (try simp only [hl0_7] at BK280)
                             (try simp only [hl0_7] at HO_4)
                             cases gk with
                             | zero => exact absurd HA.out (by simp [table_reduce.l4])
                             | succ k7 =>
                              have H := HA.out
                              clear HA
                              simp only [table_reduce.l4] at H
                              by_cases c79 : x126_7 < ((rd_L4 x0_5 x103_5).length : Int)
                              ·rw [if_pos c79] at H
                               have c79b0 : decide (x126_7 < ((rd_L4 x0_5 x103_5).length : Int)) = true := decide_eq_true c79
                               clear c79
                               by_cases c80 : 0 ≤ x103_5
                               ·rw [if_pos c80] at H
                                have c80b0 : decide (0 ≤ x103_5) = true := decide_eq_true c80
                                clear c80
                                by_cases c81 : x103_5 < (x0_7.length : Int)
                                ·rw [if_pos c81] at H
                                 have c81b0 : decide (x103_5 < (x0_7.length : Int)) = true := decide_eq_true c81
                                 clear c81
                                 by_cases c82 : 0 ≤ x126_7
                                 ·rw [if_pos c82] at H
                                  have c82b0 : decide (0 ≤ x126_7) = true := decide_eq_true c82
                                  clear c82
                                  by_cases c83 : x126_7 < ((rd_L4 x0_7 x103_5).length : Int)
                                  ·rw [if_pos c83] at H
                                   have c83b0 : decide (x126_7 < ((rd_L4 x0_7 x103_5).length : Int)) = true := decide_eq_true c83
                                   clear c83
                                   by_cases c84 : 0 ≤ (x4_1.length : Int)
                                   ·rw [if_pos c84] at H
                                    have c84b0 : decide (0 ≤ (x4_1.length : Int)) = true := decide_eq_true c84
                                    have c84b1 : decide (0 ≤ x4_1.length) = true := decide_eq_true (by omega)
                                    clear c84
                                    by_cases c85 : (x4_1.length : Int) < (x0_7.length : Int)
                                    ·rw [if_pos c85] at H
                                     have c85b0 : decide ((x4_1.length : Int) < (x0_7.length : Int)) = true := decide_eq_true c85
                                     have c85b1 : decide (x4_1.length < x0_7.length) = true := decide_eq_true (Int.ofNat_lt.mp c85)
                                     clear c85
                                     by_cases c86 : x126_7 < ((rd_L4 x0_7 (x4_1.length : Int)).length : Int)
                                     ·rw [if_pos c86] at H
                                      have c86b0 : decide (x126_7 < ((rd_L4 x0_7 (x4_1.length : Int)).length : Int)) = true := decide_eq_true c86
                                      clear c86
                                      replace H := Option.bind_eq_some_iff.mp H
                                      obtain ⟨⟨t288, t289⟩, A870, H⟩ := H
                                      replace H : ((fraction_Sub.f k7 ((rd_T103 (rd_L4 x0_7 x103_5) x126_7).f0) ((rd_T103 (rd_L4 x0_7 x103_5) x126_7).f1) t288 t289).bind fun bt290 => (table_reduce.l4 k7 (x0_7.set (x103_5 : Int).toNat ((rd_L4 x0_7 x103_5).set (x126_7 : Int).toNat (⟨bt290.1, bt290.2⟩ : S103))) x4_1 x16_1 (x4_1.length : Int) x103_5 a1 x16_1 (x0_4.length : Int) x103_5 ((rd_L4 x0_5 x103_5).length : Int) (wrap64 (x126_7 + 1)) x250000_7 x250001_7 x281000_7 x281001_7)) = some (r1, r2, r3, r4) := H
                                      have A87 := Aside0.mk A870
                                      clear A870
                                      replace H := Option.bind_eq_some_iff.mp H
                                      obtain ⟨⟨t290, t291⟩, A880, H⟩ := H
                                      replace H : (table_reduce.l4 k7 (x0_7.set (x103_5 : Int).toNat ((rd_L4 x0_7 x103_5).set (x126_7 : Int).toNat (⟨t290, t291⟩ : S103))) x4_1 x16_1 (x4_1.length : Int) x103_5 a1 x16_1 (x0_4.length : Int) x103_5 ((rd_L4 x0_5 x103_5).length : Int) (wrap64 (x126_7 + 1)) x250000_7 x250001_7 x281000_7 x281001_7) = some (r1, r2, r3, r4) := H
                                      have A88 := Aside0.mk A880
                                      clear A880
                                      obtain ⟨y292, hy292⟩ : ∃ y_ : List (S103), y_ = ((rd_L4 x0_7 x103_5).set (x126_7 : Int).toNat (⟨t290, t291⟩ : S103)) := ⟨_, rfl⟩
                                      replace H : (table_reduce.l4 k7 (x0_7.set (x103_5 : Int).toNat y292) x4_1 x16_1 (x4_1.length : Int) x103_5 a1 x16_1 (x0_4.length : Int) x103_5 ((rd_L4 x0_5 x103_5).length : Int) (wrap64 (x126_7 + 1)) x250000_7 x250001_7 x281000_7 x281001_7) = some (r1, r2, r3, r4) := by first | (rw [hy292]; with_reducible exact H) | (have H2_ := (Option.bind_some _ _).symm.trans H; rw [hy292]; with_reducible exact H2_) | (have H2_ := (Option.bind_some _ _).symm.trans H; with_reducible exact H2_) | with_reducible exact H | (rw [hy292]; exact H) | exact H
                                      have Ny292 := Aside0.mk hy292
                                      clear hy292
                                      obtain ⟨y294, hy294⟩ : ∃ y_ : List (List (S103)), y_ = (x0_7.set (x103_5 : Int).toNat y292) := ⟨_, rfl⟩
                                      replace H : (table_reduce.l4 k7 y294 x4_1 x16_1 (x4_1.length : Int) x103_5 a1 x16_1 (x0_4.length : Int) x103_5 ((rd_L4 x0_5 x103_5).length : Int) (wrap64 (x126_7 + 1)) x250000_7 x250001_7 x281000_7 x281001_7) = some (r1, r2, r3, r4) := by first | (rw [hy294]; with_reducible exact H) | (have H2_ := (Option.bind_some _ _).symm.trans H; rw [hy294]; with_reducible exact H2_) | (have H2_ := (Option.bind_some _ _).symm.trans H; with_reducible exact H2_) | with_reducible exact H | (rw [hy294]; exact H) | exact H
                                      have Ny294 := Aside0.mk hy294
                                      clear hy294
                                      have H' := Aside0.mk H
                                      clear H
                                      try go_wp2
                                      have n0_ := Aside0.mk (Kd.S_drew HO_0.out)
                                      have n1_ := Aside0.mk (Kd.R_drew HO_4.out)
                                      have n2_ := Aside0.mk (blk_drew BK249.out)
                                      have n3_ := Aside0.mk (blk_drew BK262.out)
                                      have n4_ := Aside0.mk (blk_drew BK280.out)
                                      have n5_ := Aside0.mk (Kept.drew HK.out)
                                      have n6_ := Aside0.mk (below_drew1 HB.out)
                                      clear HO_0
                                      clear HO_4
                                      clear BK249
                                      clear BK262
                                      clear BK280
                                      clear HK
                                      clear HB
                                      have HO_0 := n0_
                                      have HO_4 := n1_
                                      have BK249 := n2_
                                      have BK262 := n3_
                                      have BK280 := n4_
                                      have HK := n5_
                                      have HB := n6_
                                      clear n0_ n1_ n2_ n3_ n4_ n5_ n6_
                                      have p283 : 0 ≤ (x103_5 : Int) := of_decide_eq_true (by first | (with_reducible assumption) | assumption)
                                      have q283 : x103_5 < (x0_7.length : Int) := of_decide_eq_true (by first | (with_reducible assumption) | assumption)
                                      obtain ⟨ad283, A283_0, c283_0, e283, hx283_0, hl283_0, hi283_0⟩ := at_L4 (Kd.S_reads' HO_0.out).2.2 x103_5 p283 q283
                                      obtain rfl : ad260 = ad283 := (by injection e283)
                                      obtain ⟨ce283, hce283, hMe283, hcc283⟩ := Kd.S_get HO_0.out [] x103_5 p283 (by first | exact q283 | exact of_decide_eq_true (by first | (with_reducible assumption) | assumption) | (have e_ := (Kd.S_reads' HO_0.out).1; omega))
                                      obtain ⟨ve283_0, rfl, ge283_0⟩ := hMe283
                                      have hv283_0 := hcc283 0 _ rfl
                                      rw [Nat.add_zero, show ((Kd.slice 103 k103)).sz = 1 from rfl, Nat.mul_one] at hv283_0
                                      replace hv283_0 := Option.some.inj (hv283_0.symm.trans hx283_0)
                                      rw [hv283_0] at ge283_0
                                      have HL283_0 := Aside0.mk (show Kd.R k103 103 _ _ _ _ (rd_L4 x0_7 x103_5) from ge283_0)
                                      clear hv283_0 ge283_0
                                      have HX283_0 := Aside0.mk hx283_0
                                      clear hcc283 hce283
                                      have HR283_0 := Aside0.mk hi283_0
                                      have HC283_0 := Aside0.mk hl283_0
                                      clear hi283_0 hl283_0
                                      replace p283 := eq_true p283
                                      replace q283 := eq_true q283
                                      have p284 : 0 ≤ (x103_5 : Int) := of_decide_eq_true (by first | (with_reducible assumption) | assumption)
                                      have q284 : x103_5 < (x0_7.length : Int) := of_decide_eq_true (by first | (with_reducible assumption) | assumption)
                                      obtain ⟨ad284, A284_0, c284_0, e284, hx284_0, hl284_0, hi284_0⟩ := at_L4 (Kd.S_reads' HO_0.out).2.2 x103_5 p284 q284
                                      obtain rfl : ad260 = ad284 := (by injection e284)
                                      obtain ⟨ce284, hce284, hMe284, hcc284⟩ := Kd.S_get HO_0.out [] x103_5 p284 (by first | exact q284 | exact of_decide_eq_true (by first | (with_reducible assumption) | assumption) | (have e_ := (Kd.S_reads' HO_0.out).1; omega))
                                      obtain ⟨ve284_0, rfl, ge284_0⟩ := hMe284
                                      have hv284_0 := hcc284 0 _ rfl
                                      rw [Nat.add_zero, show ((Kd.slice 103 k103)).sz = 1 from rfl, Nat.mul_one] at hv284_0
                                      replace hv284_0 := Option.some.inj (hv284_0.symm.trans hx284_0)
                                      rw [hv284_0] at ge284_0
                                      have HL284_0 := Aside0.mk (show Kd.R k103 103 _ _ _ _ (rd_L4 x0_7 x103_5) from ge284_0)
                                      clear hv284_0 ge284_0
                                      have HX284_0 := Aside0.mk hx284_0
                                      clear hcc284 hce284
                                      have HR284_0 := Aside0.mk hi284_0
                                      have HC284_0 := Aside0.mk hl284_0
                                      clear hi284_0 hl284_0
                                      replace p284 := eq_true p284
                                      replace q284 := eq_true q284
                                      have ea_ := Option.some.inj (hx283_0.symm.trans hx284_0)
                                      injection ea_ with ea_ en_ ec_
                                      subst ea_
                                      subst ec_
                                      clear en_
                                      have p285 : 0 ≤ (x126_7 : Int) := of_decide_eq_true (by first | (with_reducible assumption) | assumption)
                                      have q285 : x126_7 < ((rd_L4 x0_7 x103_5).length : Int) := of_decide_eq_true (by first | (with_reducible assumption) | assumption)
                                      obtain ⟨ad285, e285, hx285_0, hx285_1⟩ := at_T103 (by repeat (first | (with_reducible exact HR284_0.out) | (with_reducible refine Kd.C_alloc ?_ _) | (with_reducible refine Kd.C_drewN ?_ _) | (with_reducible refine Kd.C_drew ?_) | exact HR284_0.out)) x126_7 p285 q285
                                      cases e285
                                      replace p285 := eq_true p285
                                      replace q285 := eq_true q285
                                      have p286 : 0 ≤ ((x4_1.length : Int) : Int) := of_decide_eq_true (by first | (with_reducible assumption) | assumption)
                                      have q286 : (x4_1.length : Int) < (x0_7.length : Int) := of_decide_eq_true (by first | (with_reducible assumption) | assumption)
                                      obtain ⟨ad286, A286_0, c286_0, e286, hx286_0, hl286_0, hi286_0⟩ := at_L4 (Kd.S_reads' HO_0.out).2.2 (x4_1.length : Int) p286 q286
                                      obtain rfl : ad260 = ad286 := (by injection e286)
                                      obtain ⟨ce286, hce286, hMe286, hcc286⟩ := Kd.S_get HO_0.out [] (x4_1.length : Int) p286 (by first | exact q286 | exact of_decide_eq_true (by first | (with_reducible assumption) | assumption) | (have e_ := (Kd.S_reads' HO_0.out).1; omega))
                                      obtain ⟨ve286_0, rfl, ge286_0⟩ := hMe286
                                      have hv286_0 := hcc286 0 _ rfl
                                      rw [Nat.add_zero, show ((Kd.slice 103 k103)).sz = 1 from rfl, Nat.mul_one] at hv286_0
                                      replace hv286_0 := Option.some.inj (hv286_0.symm.trans hx286_0)
                                      rw [hv286_0] at ge286_0
                                      have HL286_0 := Aside0.mk (show Kd.R k103 103 _ _ _ _ (rd_L4 x0_7 (x4_1.length : Int)) from ge286_0)
                                      clear hv286_0 ge286_0
                                      have HX286_0 := Aside0.mk hx286_0
                                      clear hcc286 hce286
                                      have HR286_0 := Aside0.mk hi286_0
                                      have HC286_0 := Aside0.mk hl286_0
                                      clear hi286_0 hl286_0
                                      (try simp only [Go.IntWalk.toNatUp] at hx286_0)
                                      (try simp only [hl0_25, hl0_4, hl0_5, hl0_7] at p286)
                                      (try simp only [hl0_25, hl0_4, hl0_5, hl0_7] at q286)
                                      (try simp only [hl0_25, hl0_4, hl0_5, hl0_7] at hx286_0)
                                      replace p286 := eq_true p286
                                      replace q286 := eq_true q286
                                      have p287 : 0 ≤ (x126_7 : Int) := of_decide_eq_true (by first | (with_reducible assumption) | assumption)
                                      have q287 : x126_7 < ((rd_L4 x0_7 (x4_1.length : Int)).length : Int) := of_decide_eq_true (by first | (with_reducible assumption) | assumption)
                                      obtain ⟨ad287, e287, hx287_0, hx287_1⟩ := at_T103 (by repeat (first | (with_reducible exact HR286_0.out) | (with_reducible refine Kd.C_alloc ?_ _) | (with_reducible refine Kd.C_drewN ?_ _) | (with_reducible refine Kd.C_drew ?_) | exact HR286_0.out)) x126_7 p287 q287
                                      cases e287
                                      replace p287 := eq_true p287
                                      replace q287 := eq_true q287
                                      refine start_ (n := 24) (S := fun w' => w'.cell? ⟨gb280, 0, none⟩ = some (.string x281000_7) ∧ w'.cell? ⟨gb280, 1, none⟩ = some (.string x281001_7) ∧ w'.cell? (ad260.add (x103_5).toNat) = some (.slice (some ad285) (rd_L4 x0_7 x103_5).length c283_0) ∧ w'.cell? (ad260.add (x103_5).toNat) = some (.slice (some ad285) (rd_L4 x0_7 x103_5).length c283_0) ∧ w'.cell? (ad285.add ((x126_7).toNat * 2)) = some (.string ((rd_T103 (rd_L4 x0_7 x103_5) x126_7).f0)) ∧ w'.cell? ⟨(ad285.add ((x126_7).toNat * 2)).block, (ad285.add ((x126_7).toNat * 2)).off + 1, none⟩ = some (.string ((rd_T103 (rd_L4 x0_7 x103_5) x126_7).f1)) ∧ w'.cell? (ad260.add x4_1.length) = some (.slice (some ad287) (rd_L4 x0_7 (x4_1.length : Int)).length c286_0) ∧ w'.cell? (ad287.add ((x126_7).toNat * 2)) = some (.string ((rd_T103 (rd_L4 x0_7 (x4_1.length : Int)) x126_7).f0)) ∧ w'.cell? ⟨(ad287.add ((x126_7).toNat * 2)).block, (ad287.add ((x126_7).toNat * 2)).off + 1, none⟩ = some (.string ((rd_T103 (rd_L4 x0_7 (x4_1.length : Int)) x126_7).f1))) (ds := [23]) #[false, false, false, false, false, false, false, false, false, false, false, false, false, false, false, false, false, false, false, false, false, false, false, false] (by kernel_rfl) rfl rfl ⟨(blk_cell BK280.out 0).trans rfl, (blk_cell BK280.out 1).trans rfl, hx283_0, hx284_0, hx285_0, hx285_1, hx286_0, hx287_0, hx287_1⟩ (fun hHeld => ?_); refine with_tabW table_reduce.tab29 table_reduce.bits29 (fun HT_ HW_ => ?_)
                                      generalize wr.drew = w90 at HO_0 HO_4 BK249 BK262 BK280 HK HB HL283_0 HL284_0 HL286_0 HR283_0 HR284_0 HR286_0 HX283_0 HX284_0 HX286_0 hx283_0 hx284_0 hx285_0 hx285_1 hx286_0 hx287_0 hx287_1 hHeld ⊢
                                      refine pure_ (i := 0) (N := some 129) (v := ?_) (a' := ?_) #[true, false, false, false, false, false, false, false, false, false, false, false, false, false, false, false, false, false, false, false, false, false, false, false] rfl rfl (any_of HT_.out (by kernel_rfl)) (fun _ _ _ h => h) (Or.inl ⟨by rfl, ?_⟩) ?_ ?_
                                      rotate_left
                                      ·intro w'
                                       go_simp
                                       with_reducible rfl
                                      rotate_left
                                      ·simp only [Act.put, List.setIfInBounds_toArray, List.set_cons_zero, List.set_cons_succ, i64_w, i32_w]
                                       rfl
                                      refine pure_ (i := 1) (N := some 130) (v := ?_) (a' := ?_) #[true, true, false, false, false, false, false, false, false, false, false, false, false, false, false, false, false, false, false, false, false, false, false, false] rfl rfl (any_of HT_.out (by kernel_rfl)) (fun _ _ _ h => h) (Or.inl ⟨by rfl, ?_⟩) ?_ ?_
                                      rotate_left
                                      ·intro w'
                                       go_simp
                                       with_reducible rfl
                                      rotate_left
                                      ·simp only [Act.put, List.setIfInBounds_toArray, List.set_cons_zero, List.set_cons_succ, i64_w, i32_w]
                                       rfl
                                      refine pure_ (i := 2) (N := some 131) (v := ?_) (a' := ?_) #[true, true, true, false, false, false, false, false, false, false, false, false, false, false, false, false, false, false, false, false, false, false, false, false] rfl rfl (any_of HT_.out (by kernel_rfl)) (fun _ _ _ h => h) (Or.inl ⟨by rfl, ?_⟩) ?_ ?_
                                      rotate_left
                                      ·intro w'
                                       go_simp
                                       with_reducible rfl
                                      rotate_left
                                      ·simp only [Act.put, List.setIfInBounds_toArray, List.set_cons_zero, List.set_cons_succ, i64_w, i32_w]
                                       rfl
                                      refine pure_ (i := 4) (N := some 133) (v := ?_) (a' := ?_) #[true, true, true, false, true, false, false, false, false, false, false, false, false, false, false, false, false, false, false, false, false, false, false, false] rfl rfl (any_of HT_.out (by kernel_rfl)) (fun _ _ _ h => h) (Or.inl ⟨by rfl, ?_⟩) ?_ ?_
                                      rotate_left
                                      ·intro w'
                                       go_simp
                                       with_reducible rfl
                                      rotate_left
                                      ·simp only [Act.put, List.setIfInBounds_toArray, List.set_cons_zero, List.set_cons_succ, i64_w, i32_w]
                                       rfl
                                      refine pure_ (i := 5) (N := some 134) (v := ?_) (a' := ?_) #[true, true, true, false, true, true, false, false, false, false, false, false, false, false, false, false, false, false, false, false, false, false, false, false] rfl rfl (any_of HT_.out (by kernel_rfl)) (fun _ _ _ h => h) (Or.inl ⟨by rfl, ?_⟩) ?_ ?_
                                      rotate_left
                                      ·intro w'
                                       go_simp
                                       with_reducible rfl
                                      rotate_left
                                      ·simp only [Act.put, List.setIfInBounds_toArray, List.set_cons_zero, List.set_cons_succ, i64_w, i32_w]
                                       rfl
                                      refine pure_ (i := 6) (N := some 135) (v := ?_) (a' := ?_) #[true, true, true, false, true, true, true, false, false, false, false, false, false, false, false, false, false, false, false, false, false, false, false, false] rfl rfl (any_of HT_.out (by kernel_rfl)) (fun _ _ _ h => h) (Or.inl ⟨by rfl, ?_⟩) ?_ ?_
                                      rotate_left
                                      ·intro w'
                                       go_simp
                                       with_reducible rfl
                                      rotate_left
                                      ·simp only [Act.put, List.setIfInBounds_toArray, List.set_cons_zero, List.set_cons_succ, i64_w, i32_w]
                                       rfl
                                      refine pure_ (i := 7) (N := some 136) (v := ?_) (a' := ?_) #[true, true, true, false, true, true, true, true, false, false, false, false, false, false, false, false, false, false, false, false, false, false, false, false] rfl rfl (any_of HT_.out (by kernel_rfl)) (fun _ _ _ h => h) (Or.inl ⟨by rfl, ?_⟩) ?_ ?_
                                      rotate_left
                                      ·intro w'
                                       go_simp
                                       with_reducible rfl
                                      rotate_left
                                      ·simp only [Act.put, List.setIfInBounds_toArray, List.set_cons_zero, List.set_cons_succ, i64_w, i32_w]
                                       rfl
                                      refine pure_ (i := 9) (N := some 138) (v := ?_) (a' := ?_) #[true, true, true, false, true, true, true, true, false, true, false, false, false, false, false, false, false, false, false, false, false, false, false, false] rfl rfl (any_of HT_.out (by kernel_rfl)) (fun _ _ _ h => h) (Or.inl ⟨by rfl, ?_⟩) ?_ ?_
                                      rotate_left
                                      ·intro w'
                                       go_simp
                                       with_reducible rfl
                                      rotate_left
                                      ·simp only [Act.put, List.setIfInBounds_toArray, List.set_cons_zero, List.set_cons_succ, i64_w, i32_w]
                                       rfl
                                      refine pure_ (i := 13) (N := some 142) (v := ?_) (a' := ?_) #[true, true, true, false, true, true, true, true, false, true, false, false, false, true, false, false, false, false, false, false, false, false, false, false] rfl rfl (any_of HT_.out (by kernel_rfl)) (fun _ _ _ h => h) (Or.inl ⟨by rfl, ?_⟩) ?_ ?_
                                      rotate_left
                                      ·intro w'
                                       go_simp
                                       with_reducible rfl
                                      rotate_left
                                      ·simp only [Act.put, List.setIfInBounds_toArray, List.set_cons_zero, List.set_cons_succ, i64_w, i32_w]
                                       rfl
                                      refine pure_ (i := 14) (N := some 143) (v := ?_) (a' := ?_) #[true, true, true, false, true, true, true, true, false, true, false, false, false, true, true, false, false, false, false, false, false, false, false, false] rfl rfl (any_of HT_.out (by kernel_rfl)) (fun _ _ _ h => h) (Or.inl ⟨by rfl, ?_⟩) ?_ ?_
                                      rotate_left
                                      ·intro w'
                                       go_simp
                                       with_reducible rfl
                                      rotate_left
                                      ·simp only [Act.put, List.setIfInBounds_toArray, List.set_cons_zero, List.set_cons_succ, i64_w, i32_w]
                                       rfl
                                      refine pure_ (i := 15) (N := some 144) (v := ?_) (a' := ?_) #[true, true, true, false, true, true, true, true, false, true, false, false, false, true, true, true, false, false, false, false, false, false, false, false] rfl rfl (any_of HT_.out (by kernel_rfl)) (fun _ _ _ h => h) (Or.inl ⟨by rfl, ?_⟩) ?_ ?_
                                      rotate_left
                                      ·intro w'
                                       go_simp
                                       with_reducible rfl
                                      rotate_left
                                      ·simp only [Act.put, List.setIfInBounds_toArray, List.set_cons_zero, List.set_cons_succ, i64_w, i32_w]
                                       rfl
                                      refine pure_ (i := 17) (N := some 146) (v := ?_) (a' := ?_) #[true, true, true, false, true, true, true, true, false, true, false, false, false, true, true, true, false, true, false, false, false, false, false, false] rfl rfl (any_of HT_.out (by kernel_rfl)) (fun _ _ _ h => h) (Or.inl ⟨by rfl, ?_⟩) ?_ ?_
                                      rotate_left
                                      ·intro w'
                                       go_simp
                                       with_reducible rfl
                                      rotate_left
                                      ·simp only [Act.put, List.setIfInBounds_toArray, List.set_cons_zero, List.set_cons_succ, i64_w, i32_w]
                                       rfl
                                      refine take_ (i := 3) (N := some 132) (v := ?_) (a' := ?_) #[true, true, true, true, true, true, true, true, false, true, false, false, false, true, true, true, false, true, false, false, false, false, false, false] rfl rfl (take_ofW HT_.out HW_.out (by kernel_rfl)) (fun _ _ _ h => h) (Or.inl ⟨by rfl, ?_⟩) hHeld ?_ ?_
                                      rotate_left
                                      ·rintro w' ⟨s0, s1, s2, s3, s4, s5, s6, s7, s8⟩
                                       go_simp
                                       with_reducible rfl
                                      rotate_left
                                      ·simp only [Act.put, List.setIfInBounds_toArray, List.set_cons_zero, List.set_cons_succ, i64_w, i32_w]
                                       rfl
                                      refine take_ (i := 8) (N := some 137) (v := ?_) (a' := ?_) #[true, true, true, true, true, true, true, true, true, true, false, false, false, true, true, true, false, true, false, false, false, false, false, false] rfl rfl (take_ofW HT_.out HW_.out (by kernel_rfl)) (fun _ _ _ h => h) (Or.inl ⟨by rfl, ?_⟩) hHeld ?_ ?_
                                      rotate_left
                                      ·rintro w' ⟨s0, s1, s2, s3, s4, s5, s6, s7, s8⟩
                                       go_simp
                                       with_reducible rfl
                                      rotate_left
                                      ·simp only [Act.put, List.setIfInBounds_toArray, List.set_cons_zero, List.set_cons_succ, i64_w, i32_w]
                                       rfl
                                      refine pure_ (i := 10) (N := some 139) (v := ?_) (a' := ?_) #[true, true, true, true, true, true, true, true, true, true, true, false, false, true, true, true, false, true, false, false, false, false, false, false] rfl rfl (any_of HT_.out (by kernel_rfl)) (fun _ _ _ h => h) (Or.inl ⟨by rfl, ?_⟩) ?_ ?_
                                      rotate_left
                                      ·intro w'
                                       go_simp
                                       with_reducible rfl
                                      rotate_left
                                      ·simp only [Act.put, List.setIfInBounds_toArray, List.set_cons_zero, List.set_cons_succ, i64_w, i32_w]
                                       rfl
                                      refine take_ (i := 11) (N := some 140) (v := ?_) (a' := ?_) #[true, true, true, true, true, true, true, true, true, true, true, true, false, true, true, true, false, true, false, false, false, false, false, false] rfl rfl (take_ofW HT_.out HW_.out (by kernel_rfl)) (fun _ _ _ h => h) (Or.inl ⟨by rfl, ?_⟩) hHeld ?_ ?_
                                      rotate_left
                                      ·rintro w' ⟨s0, s1, s2, s3, s4, s5, s6, s7, s8⟩
                                       go_simp
                                       with_reducible rfl
                                      rotate_left
                                      ·simp only [Act.put, List.setIfInBounds_toArray, List.set_cons_zero, List.set_cons_succ, i64_w, i32_w]
                                       rfl
                                      refine take_ (i := 12) (N := some 141) (v := ?_) (a' := ?_) #[true, true, true, true, true, true, true, true, true, true, true, true, true, true, true, true, false, true, false, false, false, false, false, false] rfl rfl (take_ofW HT_.out HW_.out (by kernel_rfl)) (fun _ _ _ h => h) (Or.inl ⟨by rfl, ?_⟩) hHeld ?_ ?_
                                      rotate_left
                                      ·rintro w' ⟨s0, s1, s2, s3, s4, s5, s6, s7, s8⟩
                                       go_simp
                                       with_reducible rfl
                                      rotate_left
                                      ·simp only [Act.put, List.setIfInBounds_toArray, List.set_cons_zero, List.set_cons_succ, i64_w, i32_w]
                                       rfl
                                      refine take_ (i := 16) (N := some 145) (v := ?_) (a' := ?_) #[true, true, true, true, true, true, true, true, true, true, true, true, true, true, true, true, true, true, false, false, false, false, false, false] rfl rfl (take_ofW HT_.out HW_.out (by kernel_rfl)) (fun _ _ _ h => h) (Or.inl ⟨by rfl, ?_⟩) hHeld ?_ ?_
                                      rotate_left
                                      ·rintro w' ⟨s0, s1, s2, s3, s4, s5, s6, s7, s8⟩
                                       go_simp
                                       with_reducible rfl
                                      rotate_left
                                      ·simp only [Act.put, List.setIfInBounds_toArray, List.set_cons_zero, List.set_cons_succ, i64_w, i32_w]
                                       rfl
                                      refine pure_ (i := 18) (N := some 147) (v := ?_) (a' := ?_) #[true, true, true, true, true, true, true, true, true, true, true, true, true, true, true, true, true, true, true, false, false, false, false, false] rfl rfl (any_of HT_.out (by kernel_rfl)) (fun _ _ _ h => h) (Or.inl ⟨by rfl, ?_⟩) ?_ ?_
                                      rotate_left
                                      ·intro w'
                                       go_simp
                                       with_reducible rfl
                                      rotate_left
                                      ·simp only [Act.put, List.setIfInBounds_toArray, List.set_cons_zero, List.set_cons_succ, i64_w, i32_w]
                                       rfl
                                      refine take_ (i := 19) (N := some 148) (v := ?_) (a' := ?_) #[true, true, true, true, true, true, true, true, true, true, true, true, true, true, true, true, true, true, true, true, false, false, false, false] rfl rfl (take_ofW HT_.out HW_.out (by kernel_rfl)) (fun _ _ _ h => h) (Or.inl ⟨by rfl, ?_⟩) hHeld ?_ ?_
                                      rotate_left
                                      ·rintro w' ⟨s0, s1, s2, s3, s4, s5, s6, s7, s8⟩
                                       go_simp
                                       with_reducible rfl
                                      rotate_left
                                      ·simp only [Act.put, List.setIfInBounds_toArray, List.set_cons_zero, List.set_cons_succ, i64_w, i32_w]
                                       rfl
                                      refine one_ (i := 20) (N := some 149) #[true, true, true, true, true, true, true, true, true, true, true, true, true, true, true, true, true, true, true, true, true, false, false, false] rfl rfl (one_of HT_.out (by kernel_rfl)) (by decide) (fun K hK => ?_)
                                      refine goes_ Tryz.func76 (by kernel_rfl) rfl #[.agg #[.string x281000_7, .string x281001_7], .agg #[.string ((rd_T103 (rd_L4 x0_7 (x4_1.length : Int)) x126_7).f0), .string ((rd_T103 (rd_L4 x0_7 (x4_1.length : Int)) x126_7).f1)]] (by rfl) rfl rfl (by (try simp only [List.map_toArray, List.map_cons, List.map_nil]); first | done | rfl | (simp only [List.length_drop, List.length_take]; rfl)) ?_
                                      with_reducible refine (fraction_Mul.calls k7 x281000_7 x281001_7 ((rd_T103 (rd_L4 x0_7 (x4_1.length : Int)) x126_7).f0) ((rd_T103 (rd_L4 x0_7 (x4_1.length : Int)) x126_7).f1) t288 t289 _ ?gG A87.out).mono ?_
                                      (case gG => exact gw HG.out HB.out)
                                      rintro e w91 ⟨rfl, hb⟩
                                      have HS2_ := (hb.cell (World.block_lt_of_cell? _ _ (hHeld.2.2.1))).trans (hHeld.2.2.1)
                                      have HS3_ := (hb.cell (World.block_lt_of_cell? _ _ (hHeld.2.2.2.1))).trans (hHeld.2.2.2.1)
                                      have HS4_ := (hb.cell (World.block_lt_of_cell? _ _ (hHeld.2.2.2.2.1))).trans (hHeld.2.2.2.2.1)
                                      have HS5_ := (hb.cell (World.block_lt_of_cell? _ _ (hHeld.2.2.2.2.2.1))).trans (hHeld.2.2.2.2.2.1)
                                      have HS6_ := (hb.cell (World.block_lt_of_cell? _ _ (hHeld.2.2.2.2.2.2.1))).trans (hHeld.2.2.2.2.2.2.1)
                                      have HS7_ := (hb.cell (World.block_lt_of_cell? _ _ (hHeld.2.2.2.2.2.2.2.1))).trans (hHeld.2.2.2.2.2.2.2.1)
                                      have HS8_ := (hb.cell (World.block_lt_of_cell? _ _ (hHeld.2.2.2.2.2.2.2.2))).trans (hHeld.2.2.2.2.2.2.2.2)
                                      refine ⟨_, rfl, ?_⟩
                                      have n0_ := Aside0.mk (Kd.S_below (sx HO_0.out) hb)
                                      have n1_ := Aside0.mk (Kd.R_below (rx HO_4.out) hb)
                                      have n2_ := Aside0.mk (Kd.R_below (rx HL283_0.out) hb)
                                      have n3_ := Aside0.mk (Kd.R_below (rx HL284_0.out) hb)
                                      have n4_ := Aside0.mk (Kd.R_below (rx HL286_0.out) hb)
                                      have n5_ := Aside0.mk (blk_below (g := gb249) (o := .cells #[.string x250000_7, .string x250001_7] 103 (0, 0)) (bx BK249.out) hb)
                                      have n6_ := Aside0.mk (blk_below (g := gb262) (o := .cells #[.string x263000_7, .string x263001_7] 103 (0, 0)) (bx BK262.out) hb)
                                      have n7_ := Aside0.mk (blk_below (g := gb280) (o := .cells #[.string x281000_7, .string x281001_7] 103 (0, 0)) (bx BK280.out) hb)
                                      (first | have n8_ := Aside0.mk (Kd.C_below (by repeat (first | (with_reducible exact HR283_0.out) | (with_reducible refine Kd.C_alloc ?_ _) | (with_reducible refine Kd.C_drewN ?_ _) | (with_reducible refine Kd.C_drew ?_) | exact HR283_0.out)) hb) | have n8_ := Aside0.mk True.intro)
                                      (first | have n9_ := Aside0.mk (pw_cell_below hb HX283_0.out) | have n9_ := Aside0.mk True.intro)
                                      (first | have n10_ := Aside0.mk (Kd.C_below (by repeat (first | (with_reducible exact HR284_0.out) | (with_reducible refine Kd.C_alloc ?_ _) | (with_reducible refine Kd.C_drewN ?_ _) | (with_reducible refine Kd.C_drew ?_) | exact HR284_0.out)) hb) | have n10_ := Aside0.mk True.intro)
                                      (first | have n11_ := Aside0.mk (pw_cell_below hb HX284_0.out) | have n11_ := Aside0.mk True.intro)
                                      (first | have n12_ := Aside0.mk (Kd.C_below (by repeat (first | (with_reducible exact HR286_0.out) | (with_reducible refine Kd.C_alloc ?_ _) | (with_reducible refine Kd.C_drewN ?_ _) | (with_reducible refine Kd.C_drew ?_) | exact HR286_0.out)) hb) | have n12_ := Aside0.mk True.intro)
                                      (first | have n13_ := Aside0.mk (pw_cell_below hb HX286_0.out) | have n13_ := Aside0.mk True.intro)
                                      have n14_ := Aside0.mk (Kept.below (S := (fun k_ => P0_ k_)) (by repeat (first | (with_reducible first | exact HK.out | apply Kept.alloc | apply Kept.drewN | apply Kept.drew | refine Kept.setCell ?_ (.inr GW249.out) _ | refine Kept.setCell ?_ (.inr GW262.out) _ | refine Kept.setCell ?_ (.inr GW280.out) _) | exact HK.out)) hb)
                                      have n15_ := Aside0.mk (below_step (by repeat (first | (with_reducible first | exact HB.out | apply below_alloc | apply pw_below_drewN | apply below_drew1 | refine below_set ?_ GE249.out | refine below_set ?_ GE262.out | refine below_set ?_ GE280.out) | exact HB.out)) hb)
                                      clear HO_0
                                      clear HO_4
                                      clear HL283_0
                                      clear HL284_0
                                      clear HL286_0
                                      clear BK249
                                      clear BK262
                                      clear BK280
                                      clear HR283_0
                                      clear HX283_0
                                      clear HR284_0
                                      clear HX284_0
                                      clear HR286_0
                                      clear HX286_0
                                      clear HK
                                      clear HB
                                      have HO_0 := n0_
                                      have HO_4 := n1_
                                      have HL283_0 := n2_
                                      have HL284_0 := n3_
                                      have HL286_0 := n4_
                                      have BK249 := n5_
                                      have BK262 := n6_
                                      have BK280 := n7_
                                      have HR283_0 := n8_
                                      have HX283_0 := n9_
                                      have HR284_0 := n10_
                                      have HX284_0 := n11_
                                      have HR286_0 := n12_
                                      have HX286_0 := n13_
                                      have HK := n14_
                                      have HB := n15_
                                      clear n0_ n1_ n2_ n3_ n4_ n5_ n6_ n7_ n8_ n9_ n10_ n11_ n12_ n13_ n14_ n15_
                                      (try clear hb)
                                      (try clear hb2)
                                      (try clear hk)
                                      (try clear hi)
                                      refine hK.out _ _ ⟨(blk_cell BK280.out 0).trans rfl, (blk_cell BK280.out 1).trans rfl, HS2_, HS3_, HS4_, HS5_, HS6_, HS7_, HS8_⟩ (fun hHeld => ?_)
                                      clear hK K
                                      refine norm_ (a' := ?_) ?_ ?_
                                      rotate_left
                                      ·show Act.put _ (some 149) _ = _
                                       simp only [Act.put, List.setIfInBounds_toArray, List.set_cons_zero, List.set_cons_succ, i64_w, i32_w]
                                       rfl
                                      refine one_ (i := 21) (N := some 150) #[true, true, true, true, true, true, true, true, true, true, true, true, true, true, true, true, true, true, true, true, true, true, false, false] rfl rfl (one_of HT_.out (by kernel_rfl)) (by decide) (fun K hK => ?_)
                                      refine goes_ Tryz.func168 (by kernel_rfl) rfl #[.agg #[.string ((rd_T103 (rd_L4 x0_7 x103_5) x126_7).f0), .string ((rd_T103 (rd_L4 x0_7 x103_5) x126_7).f1)], .agg #[.string t288, .string t289]] (by rfl) rfl rfl (by (try simp only [List.map_toArray, List.map_cons, List.map_nil]); first | done | rfl | (simp only [List.length_drop, List.length_take]; rfl)) ?_
                                      with_reducible refine (fraction_Sub.calls k7 ((rd_T103 (rd_L4 x0_7 x103_5) x126_7).f0) ((rd_T103 (rd_L4 x0_7 x103_5) x126_7).f1) t288 t289 t290 t291 _ ?gG A88.out).mono ?_
                                      (case gG => exact gw HG.out HB.out)
                                      rintro e w92 ⟨rfl, hb⟩
                                      have HS2_ := (hb.cell (World.block_lt_of_cell? _ _ (hHeld.2.2.1))).trans (hHeld.2.2.1)
                                      have HS3_ := (hb.cell (World.block_lt_of_cell? _ _ (hHeld.2.2.2.1))).trans (hHeld.2.2.2.1)
                                      have HS4_ := (hb.cell (World.block_lt_of_cell? _ _ (hHeld.2.2.2.2.1))).trans (hHeld.2.2.2.2.1)
                                      have HS5_ := (hb.cell (World.block_lt_of_cell? _ _ (hHeld.2.2.2.2.2.1))).trans (hHeld.2.2.2.2.2.1)
                                      have HS6_ := (hb.cell (World.block_lt_of_cell? _ _ (hHeld.2.2.2.2.2.2.1))).trans (hHeld.2.2.2.2.2.2.1)
                                      have HS7_ := (hb.cell (World.block_lt_of_cell? _ _ (hHeld.2.2.2.2.2.2.2.1))).trans (hHeld.2.2.2.2.2.2.2.1)
                                      have HS8_ := (hb.cell (World.block_lt_of_cell? _ _ (hHeld.2.2.2.2.2.2.2.2))).trans (hHeld.2.2.2.2.2.2.2.2)
                                      refine ⟨_, rfl, ?_⟩
                                      have n0_ := Aside0.mk (Kd.S_below (sx HO_0.out) hb)
                                      have n1_ := Aside0.mk (Kd.R_below (rx HO_4.out) hb)
                                      have n2_ := Aside0.mk (Kd.R_below (rx HL283_0.out) hb)
                                      have n3_ := Aside0.mk (Kd.R_below (rx HL284_0.out) hb)
                                      have n4_ := Aside0.mk (Kd.R_below (rx HL286_0.out) hb)
                                      have n5_ := Aside0.mk (blk_below (g := gb249) (o := .cells #[.string x250000_7, .string x250001_7] 103 (0, 0)) (bx BK249.out) hb)
                                      have n6_ := Aside0.mk (blk_below (g := gb262) (o := .cells #[.string x263000_7, .string x263001_7] 103 (0, 0)) (bx BK262.out) hb)
                                      have n7_ := Aside0.mk (blk_below (g := gb280) (o := .cells #[.string x281000_7, .string x281001_7] 103 (0, 0)) (bx BK280.out) hb)
                                      (first | have n8_ := Aside0.mk (Kd.C_below (by repeat (first | (with_reducible exact HR283_0.out) | (with_reducible refine Kd.C_alloc ?_ _) | (with_reducible refine Kd.C_drewN ?_ _) | (with_reducible refine Kd.C_drew ?_) | exact HR283_0.out)) hb) | have n8_ := Aside0.mk True.intro)
                                      (first | have n9_ := Aside0.mk (pw_cell_below hb HX283_0.out) | have n9_ := Aside0.mk True.intro)
                                      (first | have n10_ := Aside0.mk (Kd.C_below (by repeat (first | (with_reducible exact HR284_0.out) | (with_reducible refine Kd.C_alloc ?_ _) | (with_reducible refine Kd.C_drewN ?_ _) | (with_reducible refine Kd.C_drew ?_) | exact HR284_0.out)) hb) | have n10_ := Aside0.mk True.intro)
                                      (first | have n11_ := Aside0.mk (pw_cell_below hb HX284_0.out) | have n11_ := Aside0.mk True.intro)
                                      (first | have n12_ := Aside0.mk (Kd.C_below (by repeat (first | (with_reducible exact HR286_0.out) | (with_reducible refine Kd.C_alloc ?_ _) | (with_reducible refine Kd.C_drewN ?_ _) | (with_reducible refine Kd.C_drew ?_) | exact HR286_0.out)) hb) | have n12_ := Aside0.mk True.intro)
                                      (first | have n13_ := Aside0.mk (pw_cell_below hb HX286_0.out) | have n13_ := Aside0.mk True.intro)
                                      have n14_ := Aside0.mk (Kept.below (S := (fun k_ => P0_ k_)) (by repeat (first | (with_reducible first | exact HK.out | apply Kept.alloc | apply Kept.drewN | apply Kept.drew | refine Kept.setCell ?_ (.inr GW249.out) _ | refine Kept.setCell ?_ (.inr GW262.out) _ | refine Kept.setCell ?_ (.inr GW280.out) _) | exact HK.out)) hb)
                                      have n15_ := Aside0.mk (below_step (by repeat (first | (with_reducible first | exact HB.out | apply below_alloc | apply pw_below_drewN | apply below_drew1 | refine below_set ?_ GE249.out | refine below_set ?_ GE262.out | refine below_set ?_ GE280.out) | exact HB.out)) hb)
                                      clear HO_0
                                      clear HO_4
                                      clear HL283_0
                                      clear HL284_0
                                      clear HL286_0
                                      clear BK249
                                      clear BK262
                                      clear BK280
                                      clear HR283_0
                                      clear HX283_0
                                      clear HR284_0
                                      clear HX284_0
                                      clear HR286_0
                                      clear HX286_0
                                      clear HK
                                      clear HB
                                      have HO_0 := n0_
                                      have HO_4 := n1_
                                      have HL283_0 := n2_
                                      have HL284_0 := n3_
                                      have HL286_0 := n4_
                                      have BK249 := n5_
                                      have BK262 := n6_
                                      have BK280 := n7_
                                      have HR283_0 := n8_
                                      have HX283_0 := n9_
                                      have HR284_0 := n10_
                                      have HX284_0 := n11_
                                      have HR286_0 := n12_
                                      have HX286_0 := n13_
                                      have HK := n14_
                                      have HB := n15_
                                      clear n0_ n1_ n2_ n3_ n4_ n5_ n6_ n7_ n8_ n9_ n10_ n11_ n12_ n13_ n14_ n15_
                                      (try clear hb)
                                      (try clear hb2)
                                      (try clear hk)
                                      (try clear hi)
                                      have p89 : 0 ≤ (x126_7 : Int) := of_decide_eq_true (by first | (with_reducible assumption) | assumption)
                                      have q89 : (x126_7 : Int) < (((rd_L4 x0_7 x103_5).length : Int) : Int) := of_decide_eq_true (by first | (with_reducible assumption) | assumption)
                                      obtain ⟨go89, co89, eo89, gb89, gl89, cl89, HG89⟩ := Kd.R_form HL283_0.out (by omega)
                                      (first | cases eo89 | (injection eo89 with ea_ en_ ec_; (first | subst ea_ | (injection ea_ with ea_; subst ea_)); subst ec_; clear en_))
                                      have GB89 := Aside0.mk gb89
                                      have GG89 := Aside0.mk HG89
                                      clear gb89 gl89 HG89
                                      have HMgo89 := Aside0.mk (show (P0_ go89 ∨ w.heap.size ≤ go89) from (HL283_0.out.1 _ rfl).1.1)
                                      (first | simp only [add_plain] at hx285_0 | skip)
                                      (first | simp only [add_plain] at hx285_1 | skip)
                                      obtain ⟨ce89, hcl89, hM89, hcc89, hfr89⟩ := Kd.R_elem HL283_0.out z103 (x126_7 : Int) p89 q89
                                      obtain rfl := k103_openM hM89
                                      have hx89_0 : World.cell? _ ⟨go89, (x126_7 : Int).toNat * 2, none⟩ = some (.string ((rd_T103 (rd_L4 x0_7 x103_5) x126_7).f0)) := hcc89 0 _ rfl
                                      have hx89_1 : World.cell? _ ⟨go89, (x126_7 : Int).toNat * 2 + 1, none⟩ = some (.string ((rd_T103 (rd_L4 x0_7 x103_5) x126_7).f1)) := hcc89 1 _ rfl
                                      have hf89_0 : World.frozen? _ ⟨go89, (x126_7 : Int).toNat * 2, none⟩ = false := hfr89 0
                                      have hf89_1 : World.frozen? _ ⟨go89, (x126_7 : Int).toNat * 2 + 1, none⟩ = false := hfr89 1
                                      clear hcl89 hcc89 hfr89 hM89
                                      replace p89 := eq_true p89
                                      replace q89 := eq_true q89
                                      have hq93 : (x103_5 : Int) < (x0_7.length : Int) := (by have h_ : (x103_5 : Int) < ((x0_7.length : Int) : Int) := of_decide_eq_true (by first | (with_reducible assumption) | assumption); first | exact h_ | (have e_ := (Kd.S_reads' HO_0.out).1; omega) | simpa only [List.length_set, List.length_set] using h_)
                                      obtain ⟨oki93, ce93, hcl93, hM93, hcc93, hok93, hbk93⟩ := Kd.S_borrow HO_0.out [] (x103_5 : Int) (of_decide_eq_true (by first | (with_reducible assumption) | assumption)) hq93
                                      obtain ⟨ve93_0, rfl, ge93_0⟩ := hM93
                                      have hv93 := hcc93 0 _ rfl
                                      rw [Nat.add_zero, show ((Kd.slice 103 k103)).sz = 1 from rfl, Nat.mul_one] at hv93
                                      replace hv93 := Option.some.inj (hv93.symm.trans HX283_0.out)
                                      subst hv93
                                      clear hcc93 hcl93
                                      replace ge93_0 := (show Kd.R k103 103 _ _ _ _ (rd_L4 x0_7 x103_5) from ge93_0)
                                      obtain ⟨cf93, hcl93, hN93, hcc93, hfr93⟩ := Kd.R_elem ge93_0 z103 (x126_7 : Int) (of_decide_eq_true (by first | (with_reducible assumption) | assumption)) (by have h_ : (x126_7 : Int) < (((rd_L4 x0_7 x103_5).length : Int) : Int) := of_decide_eq_true (by first | (with_reducible assumption) | assumption); first | exact h_ | (have e_ := (Kd.R_reads' HR283_0.out).1; omega) | simpa using h_)
                                      obtain rfl := k103_openM hN93
                                      have HP93 := Kd.R_seg ge93_0 (x126_7 : Int) (of_decide_eq_true (by first | (with_reducible assumption) | assumption)) (by have h_ : (x126_7 : Int) < (((rd_L4 x0_7 x103_5).length : Int) : Int) := of_decide_eq_true (by first | (with_reducible assumption) | assumption); first | exact h_ | (have e_ := (Kd.R_reads' HR283_0.out).1; omega) | simpa using h_) (seg := [.string t290, .string t291]) (j := 0) hcl93 hcc93 (show 2 ≤ 2 from by decide) (x' := (⟨t290, t291⟩ : S103)) (k103_mkM _ _ _ (⟨t290, t291⟩ : S103)) (fun _ hk => hk)
                                      clear hcl93 hcc93 hfr93 hN93
                                      rw [← Ny292.out] at HP93
                                      have HS93 := hbk93 HP93.2 (fun k_ e_ => by injection e_ with e_; subst e_; exact ge93_0.1 _ rfl) (x' := y292) (Kd.M_row HP93.1)
                                      rw [← Ny294.out] at HS93
                                      have HQ93 := Aside0.mk HS93
                                      clear HP93 HS93 hbk93 hok93
                                      refine hK.out _ _ ⟨(blk_cell BK280.out 0).trans rfl, (blk_cell BK280.out 1).trans rfl, HS2_, HS3_, HS4_, HS5_, HS6_, HS7_, HS8_⟩ (fun hHeld => ?_)
                                      clear hK K
                                      refine norm_ (a' := ?_) ?_ ?_
                                      rotate_left
                                      ·show Act.put _ (some 150) _ = _
                                       simp only [Act.put, List.setIfInBounds_toArray, List.set_cons_zero, List.set_cons_succ, i64_w, i32_w]
                                       rfl
                                      refine pure_ (i := 22) (N := some 151) (v := ?_) (a' := ?_) #[true, true, true, true, true, true, true, true, true, true, true, true, true, true, true, true, true, true, true, true, true, true, true, false] rfl rfl (any_of HT_.out (by kernel_rfl)) (fun _ _ _ h => h) (Or.inl ⟨by rfl, ?_⟩) ?_ ?_
                                      rotate_left
                                      ·intro w'
                                       go_simp
                                       with_reducible rfl
                                      rotate_left
                                      ·simp only [Act.put, List.setIfInBounds_toArray, List.set_cons_zero, List.set_cons_succ, i64_w, i32_w]
                                       rfl
                                      refine last_ (i := 23) (N := none) #[true, true, true, true, true, true, true, true, true, true, true, true, true, true, true, true, true, true, true, true, true, true, true, true] rfl rfl (one_of HT_.out (by kernel_rfl)) (by decide) (fun K hK => ?_)
                                      refine skip_ (w1 := ?_) (by rfl) rfl ?_ ?_
                                      rotate_left
                                      ·go_simp
                                       rfl
                                      refine hK.out _ _ ?_
                                      clear hK K
                                      refine done_ (done_of HT_.out (by kernel_rfl)) ?_
                                      try go_wp2
                                      (try simp only [← hl0_7])
                                      go_roundg k7
                                      case measure => have := HK1.out; have := HJ7.out; have := HJ25.out; have := HK4.out; have := HK5.out; have := HJ64.out; have := HK7.out; omega
                                      case rel => exact ⟨(y294), (wrap64 (x126_7 + 1)), (x250000_7), (x250001_7), (x263000_7), (x263001_7), (x281000_7), (x281001_7), (by first | rfl | (simp; done) | (simp [*]; done)), H', ⟨by have := HK1.out; have := HJ7.out; have := HJ25.out; have := HK4.out; have := HK5.out; have := HJ64.out; have := HK7.out; omega⟩, ⟨by (try simp only [hl0_25]); (try simp only [hl0_4]); (try simp only [hl0_5]); (try simp only [hl0_7]); (with_reducible repeat (first | apply Kd.S_alloc | apply Kd.S_drewN | apply Kd.S_drew)); exact HQ93.out⟩, ⟨by (try simp only [hl0_25]); (try simp only [hl0_4]); (try simp only [hl0_5]); (try simp only [hl0_7]); (with_reducible repeat (first | apply Kd.R_alloc | apply Kd.R_drewN | apply Kd.R_drew)); exact Kd.R_mono (Kd.R_far (p := ⟨go89, (x126_7 : Int).toNat * 2 + 1, none⟩) (Kd.R_far (p := ⟨go89, (x126_7 : Int).toNat * 2, none⟩) (Kd.R_types HO_4.out GG89.out (by decide)) (fun _ hk => hk.2) (.string t290)) (fun _ hk => hk.2) (.string t291)) (fun _ hk => hk.1)⟩, ⟨by (try simp only [hl0_25]); (try simp only [hl0_4]); (try simp only [hl0_5]); (try simp only [hl0_7]); (with_reducible repeat (first | refine blk_drewN ?_ _ | refine blk_drew ?_ | refine blk_alloc ?_ _)); refine blk_far ?_ (by have h_ := Kd.R_away HL283_0.out (fun _ hk => hk.1.2.1); intro e_; exact h_ (by rw [e_]; rfl)) _; (with_reducible repeat (first | refine blk_drewN ?_ _ | refine blk_drew ?_ | refine blk_alloc ?_ _)); refine blk_far ?_ (by have h_ := Kd.R_away HL283_0.out (fun _ hk => hk.1.2.1); intro e_; exact h_ (by rw [e_]; rfl)) _; (with_reducible repeat (first | refine blk_drewN ?_ _ | refine blk_drew ?_ | refine blk_alloc ?_ _)); exact BK249.out⟩, ⟨by (try simp only [hl0_25]); (try simp only [hl0_4]); (try simp only [hl0_5]); (try simp only [hl0_7]); (with_reducible repeat (first | refine blk_drewN ?_ _ | refine blk_drew ?_ | refine blk_alloc ?_ _)); refine blk_far ?_ (by have h_ := Kd.R_away HL283_0.out (fun _ hk => hk.1.2.2.1); intro e_; exact h_ (by rw [e_]; rfl)) _; (with_reducible repeat (first | refine blk_drewN ?_ _ | refine blk_drew ?_ | refine blk_alloc ?_ _)); refine blk_far ?_ (by have h_ := Kd.R_away HL283_0.out (fun _ hk => hk.1.2.2.1); intro e_; exact h_ (by rw [e_]; rfl)) _; (with_reducible repeat (first | refine blk_drewN ?_ _ | refine blk_drew ?_ | refine blk_alloc ?_ _)); exact BK262.out⟩, ⟨by (try simp only [hl0_25]); (try simp only [hl0_4]); (try simp only [hl0_5]); (try simp only [hl0_7]); (with_reducible repeat (first | refine blk_drewN ?_ _ | refine blk_drew ?_ | refine blk_alloc ?_ _)); refine blk_far ?_ (by have h_ := Kd.R_away HL283_0.out (fun _ hk => hk.1.2.2.2); intro e_; exact h_ (by rw [e_]; rfl)) _; (with_reducible repeat (first | refine blk_drewN ?_ _ | refine blk_drew ?_ | refine blk_alloc ?_ _)); refine blk_far ?_ (by have h_ := Kd.R_away HL283_0.out (fun _ hk => hk.1.2.2.2); intro e_; exact h_ (by rw [e_]; rfl)) _; (with_reducible repeat (first | refine blk_drewN ?_ _ | refine blk_drew ?_ | refine blk_alloc ?_ _)); exact BK280.out⟩, ⟨by repeat (first | (with_reducible first | exact HK.out | apply Kept.alloc | apply Kept.drewN | apply Kept.drew | refine Kept.setCell ?_ HMgo89.out _ | refine Kept.setCell ?_ HMgo89.out _ | refine Kept.setCell ?_ (.inr GW249.out) _ | refine Kept.setCell ?_ (.inr GW262.out) _ | refine Kept.setCell ?_ (.inr GW280.out) _) | exact HK.out)⟩, ⟨by repeat (first | (with_reducible first | exact HB.out | apply below_alloc | apply pw_below_drewN | apply below_drew1 | refine below_set ?_ GB89.out | refine below_set ?_ GB89.out | refine below_set ?_ GE249.out | refine below_set ?_ GE262.out | refine below_set ?_ GE280.out) | exact HB.out)⟩⟩
                                     ·rw [if_neg c86] at H
                                      exact absurd H (by simp)
                                    ·rw [if_neg c85] at H
                                     exact absurd H (by simp)
                                   ·rw [if_neg c84] at H
                                    exact absurd H (by simp)
                                  ·rw [if_neg c83] at H
                                   exact absurd H (by simp)
                                 ·rw [if_neg c82] at H
                                  exact absurd H (by simp)
                                ·rw [if_neg c81] at H
                                 exact absurd H (by simp)
                               ·rw [if_neg c80] at H
                                exact absurd H (by simp)
                              ·rw [if_neg c79] at H
                               have c79b0 : decide (x126_7 < ((rd_L4 x0_5 x103_5).length : Int)) = false := decide_eq_false c79
                               clear c79
                               have H' := Aside0.mk H
                               clear H
                               go_wp2
                               (try simp only [← hl0_5, ← hl0_7])
                               go_roundg k7
                               case measure => have := HK1.out; have := HJ7.out; have := HJ25.out; have := HK4.out; have := HK5.out; have := HJ64.out; have := HK7.out; omega
                               case rel => exact ⟨(x0_7), (wrap64 (x103_5 + 1)), (x250000_7), (x250001_7), (x263000_7), (x263001_7), (by first | rfl | (simp; done) | (simp [*]; done)), H', ⟨by have := HK1.out; have := HJ7.out; have := HJ25.out; have := HK4.out; have := HK5.out; have := HJ64.out; have := HK7.out; omega⟩, ⟨by (try simp only [hl0_25]); (try simp only [hl0_4]); (try simp only [hl0_5]); (try simp only [hl0_7]); (with_reducible repeat (first | apply Kd.S_alloc | apply Kd.S_drewN | apply Kd.S_drew)); exact Kd.S_mono HO_0.out (fun _ hk => ⟨hk.1, ⟨hk.2.1, hk.2.2.1⟩⟩)⟩, ⟨by (try simp only [hl0_25]); (try simp only [hl0_4]); (try simp only [hl0_5]); (try simp only [hl0_7]); (with_reducible repeat (first | apply Kd.R_alloc | apply Kd.R_drewN | apply Kd.R_drew)); exact HO_4.out⟩, ⟨by (try simp only [hl0_25]); (try simp only [hl0_4]); (try simp only [hl0_5]); (try simp only [hl0_7]); (with_reducible repeat (first | refine blk_drewN ?_ _ | refine blk_drew ?_ | refine blk_alloc ?_ _)); exact BK249.out⟩, ⟨by (try simp only [hl0_25]); (try simp only [hl0_4]); (try simp only [hl0_5]); (try simp only [hl0_7]); (with_reducible repeat (first | refine blk_drewN ?_ _ | refine blk_drew ?_ | refine blk_alloc ?_ _)); exact BK262.out⟩, ⟨by repeat (first | (with_reducible first | exact HK.out | apply Kept.alloc | apply Kept.drewN | apply Kept.drew | refine Kept.setCell ?_ (.inr GW249.out) _ | refine Kept.setCell ?_ (.inr GW262.out) _ | refine Kept.setCell ?_ (.inr GW280.out) _) | exact HK.out)⟩, ⟨by repeat (first | (with_reducible first | exact HB.out | apply below_alloc | apply pw_below_drewN | apply below_drew1 | refine below_set ?_ GE249.out | refine below_set ?_ GE262.out | refine below_set ?_ GE280.out) | exact HB.out)⟩⟩
                           ·rw [if_neg c78] at H
                            exact absurd H (by simp)
                          ·rw [if_neg c77] at H
                           exact absurd H (by simp)
                      ·rw [if_neg c64] at H
                       exact absurd H (by simp)
                     ·rw [if_neg c63] at H
                      exact absurd H (by simp)
                    ·rw [if_neg c62] at H
                     exact absurd H (by simp)
                   ·rw [if_neg c61] at H
                    exact absurd H (by simp)
                  ·rw [if_neg c60] at H
                   have c60b0 : decide (x103_5 < (x0_4.length : Int)) = false := decide_eq_false c60
                   (try simp only [hl0_5] at c60b0)
                   clear c60
                   by_cases c95 : x4_1.length < 17592186044416
                   ·rw [if_pos c95] at H
                    have LMc95 := Aside0.mk c95
                    clear c95
                    obtain ⟨y275, hy275⟩ : ∃ y_ : List Int, y_ = (x4_1 ++ [x16_1]) := ⟨_, rfl⟩
                    replace H : (table_reduce.l0 k5 x0_5 y275 a1 (wrap64 (x16_1 + 1)) x250000_5 x250001_5) = some (r1, r2, r3, r4) := by first | (rw [hy275]; with_reducible exact H) | (have H2_ := (Option.bind_some _ _).symm.trans H; rw [hy275]; with_reducible exact H2_) | (have H2_ := (Option.bind_some _ _).symm.trans H; with_reducible exact H2_) | with_reducible exact H | (rw [hy275]; exact H) | exact H
                    have Ny275 := Aside0.mk hy275
                    clear hy275
                    have H' := Aside0.mk H
                    clear H
                    go_wp2_with (first | ((with_reducible refine gate_builtin (b := .append) (xs := #[.tmp 154, .tmp 156]) rfl ?_); at_builtin; refine Kd.R_append (Kd.int .i64) (w0 := w0) w0.heap.size rfl (.tmp 154) (.tmp 156) 50 3 (.int .i64 0) 8 rfl Tryz.underlying50 info3 rfl (by decide) (by omega) (.slice Ao9 x4_1.length co9) x4_1 x16_1 [.int .i64 x16_1] (fun k_ => (P0_ k_ ∨ w.heap.size ≤ k_)) (fun _ => False) rfl rfl ?aP (fun _ hk => hk.elim) ?aF ?aO ?aB ?aS ?aL ?_; (case aP => exact rfl); (case aB => exact (by repeat (first | (with_reducible first | exact HB.out | apply below_alloc | apply pw_below_drewN | apply below_drew1 | refine below_set ?_ GE249.out | refine below_set ?_ GE262.out) | exact HB.out))); (case aF => exact (fun k_ hk => (.inr (Nat.le_trans (by first | exact HK.out.1 | exact (show Kept w _ (fun k_ => P0_ k_) from by repeat (first | (with_reducible first | exact HK.out | apply Kept.alloc | apply Kept.drewN | apply Kept.drew | refine Kept.setCell ?_ (.inr GW249.out) _ | refine Kept.setCell ?_ (.inr GW262.out) _) | exact HK.out)).1) hk)))); (case aO => exact (rx HO_4.out)); (case aS => exact (below_size (by repeat (first | (with_reducible first | exact HB.out | apply below_alloc | apply pw_below_drewN | apply below_drew1 | refine below_set ?_ GE249.out | refine below_set ?_ GE262.out) | exact HB.out)))); (case aL => have := LMc95.out; omega); intro v276 w96 ho hb hg hat; rw [← Ny275.out] at ho; have n0_ := Aside0.mk (Kd.S_over' (sx HO_0.out) (Kd.R_typed (rx HO_4.out)) (by decide) hg); have n1_ := Aside0.mk (blk_grown (g := gb249) (o := .cells #[.string x250000_5, .string x250001_5] 103 (0, 0)) (bx BK249.out) hg (Kd.R_ne HO_4.out BK249.out (by decide))); have n2_ := Aside0.mk (blk_grown (g := gb262) (o := .cells #[.string x263000_5, .string x263001_5] 103 (0, 0)) (bx BK262.out) hg (Kd.R_ne HO_4.out BK262.out (by decide))); have n3_ := Aside0.mk (hb); have n4_ := Aside0.mk (Kept.of_grown (S := (fun k_ => P0_ k_)) hg (by repeat (first | (with_reducible first | exact HK.out | apply Kept.alloc | apply Kept.drewN | apply Kept.drew | refine Kept.setCell ?_ (.inr GW249.out) _ | refine Kept.setCell ?_ (.inr GW262.out) _) | exact HK.out)) (fun k_ e_ => (HO_4.out.1 k_ e_))); have n5_ := Aside0.mk (ho); clear HO_0; clear BK249; clear BK262; clear HB; clear HK; clear HO_4; have HO_0 := n0_; have BK249 := n1_; have BK262 := n2_; have HB := n3_; have HK := n4_; have HO277 := n5_; clear n0_ n1_ n2_ n3_ n4_ n5_; clear ho hb hg hat))
                    (try simp only [← hl0_25, ← hl0_4, ← hl0_5])
                    go_roundg k5
                    case measure => have := HK1.out; have := HJ7.out; have := HJ25.out; have := HK4.out; have := HK5.out; omega
                    case rel => exact ⟨(x0_5), (y275), (wrap64 (x16_1 + 1)), (x250000_5), (x250001_5), (by first | rfl | (simp; done) | (simp [*]; done)), H', ⟨by have := HK1.out; have := HJ7.out; have := HJ25.out; have := HK4.out; have := HK5.out; omega⟩, ⟨by (try simp only [hl0_25]); (try simp only [hl0_4]); (try simp only [hl0_5]); (with_reducible repeat (first | apply Kd.S_alloc | apply Kd.S_drewN | apply Kd.S_drew)); exact Kd.S_mono HO_0.out (fun _ hk => ⟨hk.1, hk.2.1⟩)⟩, ⟨by (try simp only [hl0_25]); (try simp only [hl0_4]); (try simp only [hl0_5]); (with_reducible repeat (first | apply Kd.R_alloc | apply Kd.R_drewN | apply Kd.R_drew)); exact HO277.out⟩, ⟨by (try simp only [hl0_25]); (try simp only [hl0_4]); (try simp only [hl0_5]); (with_reducible repeat (first | refine blk_drewN ?_ _ | refine blk_drew ?_ | refine blk_alloc ?_ _)); exact BK249.out⟩, ⟨by repeat (first | (with_reducible first | exact HK.out | apply Kept.alloc | apply Kept.drewN | apply Kept.drew | refine Kept.setCell ?_ (.inr GW249.out) _ | refine Kept.setCell ?_ (.inr GW262.out) _) | exact HK.out)⟩, ⟨by repeat (first | (with_reducible first | exact HB.out | apply below_alloc | apply pw_below_drewN | apply below_drew1 | refine below_set ?_ GE249.out | refine below_set ?_ GE262.out) | exact HB.out)⟩⟩
                   ·rw [if_neg c95] at H
                    exact absurd H (by simp)
            ·rw [if_neg c40] at H
             exact absurd H (by simp)
           ·rw [if_neg c39] at H
            exact absurd H (by simp)
          ·rw [if_neg c38] at H
           exact absurd H (by simp)
         ·rw [if_neg c37] at H
          exact absurd H (by simp)
   ·rw [if_neg c7] at H
    have c7b0 : decide (x16_1 < a1) = false := decide_eq_false c7
    clear c7
    simp only [Option.some.injEq, Prod.mk.injEq] at H
    obtain ⟨rfl, rfl, rfl, rfl⟩ := H
    try go_wp2
    have n0_ := Aside0.mk (Kd.S_drew HO_0.out)
    have n1_ := Aside0.mk (Kd.R_drew HO_4.out)
    have n2_ := Aside0.mk (blk_drew BK249.out)
    have n3_ := Aside0.mk (Kept.drew HK.out)
    have n4_ := Aside0.mk (below_drew1 HB.out)
    clear HO_0
    clear HO_4
    clear BK249
    clear HK
    clear HB
    have HO_0 := n0_
    have HO_4 := n1_
    have BK249 := n2_
    have HK := n3_
    have HB := n4_
    clear n0_ n1_ n2_ n3_ n4_
    refine start_ (n := 4) (S := fun w' => w'.cell? ⟨gb249, 0, none⟩ = some (.string x250000_1) ∧ w'.cell? ⟨gb249, 1, none⟩ = some (.string x250001_1)) (ds := [3]) #[false, false, false, false] (by kernel_rfl) rfl rfl ⟨(blk_cell BK249.out 0).trans rfl, (blk_cell BK249.out 1).trans rfl⟩ (fun hHeld => ?_)
    generalize wr.drew = w97 at HO_0 HO_4 BK249 HK HB hHeld ⊢
    refine pure_ (i := 0) (N := some 159) (v := ?_) (a' := ?_) #[true, false, false, false] rfl rfl (by kernel_rfl) (fun _ _ _ h => h) (Or.inl ⟨by rfl, ?_⟩) ?_ ?_
    rotate_left
    ·intro w'
     go_simp
     with_reducible rfl
    rotate_left
    ·simp only [Act.put, List.setIfInBounds_toArray, List.set_cons_zero, List.set_cons_succ, i64_w, i32_w]
     rfl
    refine pure_ (i := 2) (N := some 4) (v := ?_) (a' := ?_) #[true, false, true, false] rfl rfl (by kernel_rfl) (fun _ _ _ h => h) (Or.inl ⟨by rfl, ?_⟩) ?_ ?_
    rotate_left
    ·intro w'
     go_simp
     with_reducible rfl
    rotate_left
    ·simp only [Act.put, List.setIfInBounds_toArray, List.set_cons_zero, List.set_cons_succ, i64_w, i32_w]
     rfl
    refine take_ (i := 1) (N := some 160) (v := ?_) (a' := ?_) #[true, true, true, false] rfl rfl (by kernel_rfl) (fun _ _ _ h => h) (Or.inl ⟨by rfl, ?_⟩) hHeld ?_ ?_
    rotate_left
    ·rintro w' ⟨s0, s1⟩
     go_simp
     with_reducible rfl
    rotate_left
    ·simp only [Act.put, List.setIfInBounds_toArray, List.set_cons_zero, List.set_cons_succ, i64_w, i32_w]
     rfl
    refine last_ (i := 3) (N := none) #[true, true, true, true] rfl rfl (by kernel_rfl) (by decide) (fun K hK => ?_)
    have hs98 : w97.cell? ⟨gb249, 0, none⟩ = some (.string x250000_1) := (blk_cell BK249.out 0).trans rfl
    have hfs98 := blk_frozen BK249.out 0
    have hs99 : w97.cell? ⟨gb249, 1, none⟩ = some (.string x250001_1) := (blk_cell BK249.out 1).trans rfl
    have hfs99 := blk_frozen BK249.out 1
    refine skip_ (w1 := ?_) (by rfl) rfl ?_ ?_
    rotate_left
    ·go_simp
     rfl
    refine hK.out _ _ ?_
    clear hK K
    refine done_ (by kernel_rfl) ?_
    try go_wp2
    refine bodyPost_ret (results_tc rfl _ _ gb249 103 #[.string x250000_1, .string x250001_1] (0, 0) _ rfl (by (with_reducible repeat (first | refine blk_drewN ?_ _ | refine blk_drew ?_ | refine blk_alloc ?_ _)); refine blk_put (cs := #[.string x250000_1, .string x250001_1]) ?_ 1 _ rfl; (with_reducible repeat (first | refine blk_drewN ?_ _ | refine blk_drew ?_ | refine blk_alloc ?_ _)); refine blk_put (cs := #[.string x250000_1, .string x250001_1]) ?_ 0 _ rfl; (with_reducible repeat (first | refine blk_drewN ?_ _ | refine blk_drew ?_ | refine blk_alloc ?_ _)); exact BK249.out) Tryz.underlying103 rfl (by kernel_rfl)) rfl ?_
    exact ⟨_, by first | rfl | (simp [errW_none, errW_some] <;> rfl) | (simp [*, errW_none, errW_some] <;> rfl), by (with_reducible repeat (first | apply Kd.R_alloc | apply Kd.R_drewN | apply Kd.R_drew)); exact Kd.R_mono (Kd.R_far (p := ⟨gb249, 1, none⟩) (Kd.R_far (p := ⟨gb249, 0, none⟩) (Kd.R_types HO_4.out BK249.out (by decide)) (fun _ hk => hk.2) (.string x250000_1)) (fun _ hk => hk.2) (.string x250001_1)) (fun _ hk => hk.1), by (with_reducible repeat (first | apply Kd.S_alloc | apply Kd.S_drewN | apply Kd.S_drew)); exact Kd.S_mono (Kd.S_far (p := ⟨gb249, 1, none⟩) (Kd.S_far (p := ⟨gb249, 0, none⟩) (Kd.S_mono HO_0.out (fun k_ hk => (⟨hk, hk.2⟩ : _ ∧ k_ ≠ gb249))) (fun _ hk => hk.2) (.string x250000_1)) (fun _ hk => hk.2) (.string x250001_1)) (fun _ hk => hk.1.1), by repeat (first | (with_reducible first | exact HB.out | apply below_alloc | apply pw_below_drewN | apply below_drew1 | refine below_set ?_ GE249.out) | exact HB.out), by repeat (first | (with_reducible first | exact HK.out | apply Kept.alloc | apply Kept.drewN | apply Kept.drew | refine Kept.setCell ?_ (.inr GW249.out) _) | exact HK.out)⟩
end Go.Proofs.YtegffolimjiioaaGreatDoor.PB
