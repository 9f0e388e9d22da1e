/- table.rows: the rational numbers of a matrix, with what a function adds to each row -/
import Derived.Test.YtegffolimjiioaaGreatDoorZX0
import Derived.Test.YtegffolimjiioaaGreatDoorZPBx0
import Derived.Test.YtegffolimjiioaaGreatDoorZHs
import Derived.Test.YtegffolimjiioaaGreatDoorZPBx6
namespace Go.Proofs.YtegffolimjiioaaGreatDoor.PB
open Go.RowKit Go.Proofs.YtegffolimjiioaaGreatDoorW.PrintWords Go.Proofs.YtegffolimjiioaaGreatDoorW.PrintLast Go.Proofs.YtegffolimjiioaaGreatDoorW.PrintMore
set_option linter.unusedVariables false
set_option linter.unusedSimpArgs false
def ratOf (n : Int) : S103 := ⟨txt n, ⟨#[49]⟩⟩
def rowV (mf : Nat → List S103) (m : List (List Int)) (i : Nat) : List S103 := (m.getD i []).map ratOf ++ mf i
def rowsV (mf : Nat → List S103) (m : List (List Int)) (k : Nat) : List (List S103) := (List.range k).map (rowV mf m)
theorem rowsV_succ (mf : Nat → List S103) (m : List (List Int)) (k : Nat) : rowsV mf m (k + 1) = rowsV mf m k ++ [rowV mf m k] := by simp [rowsV, List.range_succ]
theorem rowsV_length (mf : Nat → List S103) (m : List (List Int)) (k : Nat) : (rowsV mf m k).length = k := by simp [rowsV]
theorem map_take_succ (row : List Int) (j : Nat) (h : j < row.length) : (row.take (j + 1)).map ratOf = (row.take j).map ratOf ++ [ratOf (rd row j)] := by
 rw [List.take_add_one, List.map_append, List.getElem?_eq_getElem h]
 simp [rd, List.getD_eq_getElem?_getD, List.getElem?_eq_getElem h]
theorem whole_Of_txt (n : Int) (h : in64 n = true) : whole_Of.f n = some (txt n) := by
 unfold whole_Of.f strconv_Itoa.f
 rw [if_pos h]; rfl
set_option maxRecDepth 100000 in
theorem table_rows.calls (g : FuncId) (cap : Array Value) (mf : Nat → List S103) (A0 : Option Addr) (c0 : Nat) (m : List (List Int)) (w : World) (hr0 : Kd.C (Kd.slice 3 (Kd.int .i64)) w A0 m.length m) (hc0 : m.length ≤ c0) (hG : GW w)
  (hF : ∀ (i : Nat) (W : World), i < m.length → Below w.heap.size w W → Calls Tryz.prog g (#[.int .i64 i] ++ cap) W fun e W' => ∃ v, e = .returned v ∧ Kd.R k103 103 W' W.heap.size (fun _ => True) v (mf i) ∧ Below W.heap.size W W')
  (fg : Func) (hg1 : Tryz.prog.funcs[g]? = some fg) (hg2 : (fg.name == "runtime.NumGoroutine") = false) (hg3 : fg.body.isSome = true) (hm : m.length ≤ 1000) (hrow : ∀ i, i < m.length → (m.getD i []).length ≤ 1000 ∧ (mf i).length ≤ 1000) (hv : ∀ r ∈ m, ∀ n ∈ r, in64 n = true) :
  Calls Tryz.prog 94 #[.slice A0 m.length c0, .func (.func g) #[] cap] w fun e w' => ∃ v : Value, e = .returned v ∧ Kd.S (Kd.slice 103 k103) 39 w' w.heap.size (fun _ => True) v (rowsV mf m m.length) ∧ Below w.heap.size w w' := by
 have HG := Aside0.mk hG
 have HR0 := Aside0.mk hr0
 have HF := Aside0.mk hF
 have HW := Aside0.mk hrow
 have HV := Aside0.mk hv
 clear hG hr0 hF hrow hv
 have HB := Aside0.mk (Below.refl w.heap.size w)
 go_enter Tryz.func94, Tryz.ntmps94
 go_wp2
 go_loopg [5, 13] (m.length + 1) (fun kq v5 v13 w' => ∃ (k : Nat), v13 = .int .i64 k ∧ Aside0 (k ≤ m.length) ∧ Aside0 (m.length - k + 1 ≤ kq) ∧ Aside0 (Kd.S (Kd.slice 103 k103) 39 w' w.heap.size (fun _ => True) v5 (rowsV mf m k)) ∧ Aside0 (Below w.heap.size w w'))
 case atStart => exact ⟨0, rfl, ⟨Nat.zero_le _⟩, ⟨by omega⟩, ⟨Kd.S_nil _ _ _ _ _⟩, ⟨by repeat (first | (with_reducible first | exact HB.out | apply below_alloc | apply pw_below_drewN | apply below_drew1) | exact HB.out)⟩⟩
 case round =>
  clear HB
  obtain ⟨k, rfl, HK1, HK2, HO, HB⟩ := hrel
  by_cases ck : k < m.length
  ·obtain ⟨ad1, A1, c1, e1, hx1, hl1, hi1⟩ := at_L1 HR0.out (k : Int) (by omega) (by omega)
   cases e1
   replace hx1 := (HB.out.cell (World.block_lt_of_cell? w _ hx1)).trans hx1
   simp only [Int.toNat_natCast] at hx1
   obtain ⟨row, hrow⟩ : ∃ r, r = rd_L1 m (k : Int) := ⟨_, rfl⟩
   rw [← hrow] at hx1 hl1 hi1
   have hrow2 : row = m.getD k [] := by rw [hrow]; simp [rd_L1]
   have HRW := Aside0.mk hrow2
   clear hrow hrow2
   have HR1 := Aside0.mk hi1
   have HC1 := Aside0.mk hl1
   clear hi1 hl1
   have HCK := Aside0.mk ck
   have hlo : row.length ≤ 1000 := by
    have := (HW.out k ck).1
    rwa [← HRW.out] at this
   obtain ⟨k1, rfl⟩ : ∃ k1, gk = k1 + 1 := ⟨gk - 1, by have := HK2.out; omega⟩
   go_wp2
   go_loopg [8, 20] (row.length + 1) (fun kq v8 v20 w' => ∃ (j : Nat), v20 = .int .i64 j ∧ Aside0 (j ≤ row.length) ∧ Aside0 (row.length - j + 1 ≤ kq) ∧ Aside0 (Kd.S (Kd.slice 103 k103) 39 w' w.heap.size (fun k_ => some k_ ≠ (v8 : Value).ownBlock) u5 (rowsV mf m k)) ∧ Aside0 (Kd.R k103 103 w' w.heap.size (fun _ => True) v8 ((row.take j).map ratOf)) ∧ Aside0 (Below w.heap.size w w'))
   case atStart => exact ⟨0, rfl, ⟨Nat.zero_le _⟩, ⟨by omega⟩, ⟨by (with_reducible repeat (first | apply Kd.S_alloc | apply Kd.S_drewN | apply Kd.S_drew)); exact Kd.S_mono HO.out (fun _ hk => (by simp [Value.ownBlock]))⟩, ⟨Kd.R_nil _ _ _ _ _⟩, ⟨by repeat (first | (with_reducible first | exact HB.out | apply below_alloc | apply pw_below_drewN | apply below_drew1) | exact HB.out)⟩⟩
   case round =>
    clear HB HO hx1
    obtain ⟨j, rfl, HJ1, HJ2, HO, HL, HB⟩ := hrel
    by_cases cj : j < row.length
    ·obtain ⟨ad2, e2, hx2⟩ := Kd.at_int HR1.out (j : Int) (by omega) (by omega)
     cases e2
     replace hx2 := (HB.out.cell (World.block_lt_of_cell? w _ hx2)).trans hx2
     simp only [Int.toNat_natCast] at hx2
     obtain ⟨j1, rfl⟩ : ∃ k1, gk = k1 + 1 := ⟨gk - 1, by have := HJ2.out; omega⟩
     have HCJ := Aside0.mk cj
     have HE := Aside0.mk (whole_Of_txt (rd row j) (by
      refine HV.out row ?_ _ ?_
      ·rw [HRW.out, List.getD_eq_getElem?_getD, List.getElem?_eq_getElem HCK.out]; exact List.getElem_mem _
      ·simp only [rd, Int.toNat_natCast, List.getD_eq_getElem?_getD, List.getElem?_eq_getElem HCJ.out, Option.getD_some]; exact List.getElem_mem _))
     have HM := Aside0.mk (map_take_succ row j cj)
     have HLen := Aside0.mk (show ((row.take j).map ratOf).length ≤ 1000 from by
      have := (HW.out k HCK.out).1
      rw [← HRW.out] at this
      rw [List.length_map, List.length_take]; omega)
     go_wp2_with (first | (go_at_call 111; (with_reducible refine (whole_Of.calls (rd row j) (txt (rd row j)) _ (GW.below HG.out (bl HB.out)) HE.out).mono ?_); rintro e w9 ⟨rfl, hb⟩; have n0_ := Aside0.mk (Kd.S_below (sx HO.out) hb); have n1_ := Aside0.mk (Kd.R_below (rx HL.out) hb); have n2_ := Aside0.mk (below_step (bl HB.out) hb); clear HO HL HB; have HO := n0_; have HL := n1_; have HB := n2_; clear n0_ n1_ n2_ hb) | ((with_reducible refine gate_builtin (b := .append) (xs := #[.tmp 24, .tmp 28]) rfl ?_); at_builtin; refine Kd.R_append k103 (w0 := w) w.heap.size rfl (.tmp 24) (.tmp 28) 39 103 (.agg #[(.string ⟨#[]⟩), (.string ⟨#[]⟩)]) 32 rfl Tryz.underlying39 info103 rfl (by decide) (by omega) u8 ((row.take j).map ratOf) (ratOf (rd row j)) [.string (txt (rd row j)), .string ⟨#[49]⟩] (fun _ => True) (fun _ => False) rfl rfl ?aP (fun _ hk => hk.elim) ?aF ?aO ?aB ?aS ?aL ?_; (case aP => exact k103_mkM _ _ _ (ratOf (rd row j))); (case aB => exact (bl HB.out)); (case aF => exact (fun _ _ => trivial)); (case aO => exact (rx HL.out)); (case aS => exact (below_size (bl HB.out))); (case aL => have := HLen.out; omega); intro v785 w36 ho hb hg hat; rw [← HM.out] at ho; have n0_ := Aside0.mk (Kd.S_after (ok := (fun _ => True)) (by (with_reducible repeat (first | apply Kd.S_alloc | apply Kd.S_drewN | apply Kd.S_drew)); exact Kd.S_mono HO.out (fun _ hk => ⟨trivial, hk⟩)) hg hat); have n1_ := Aside0.mk (hb); have n2_ := Aside0.mk (ho); clear HO HB HL; have HO := n0_; have HB := n1_; have HL := n2_; clear n0_ n1_ n2_; clear ho hb hg hat))
     go_roundg j1
     case measure => exact Nat.lt_succ_self _
     case rel => exact ⟨j + 1, by go_num, ⟨by have := HCJ.out; omega⟩, ⟨by have := HJ2.out; have := HCJ.out; omega⟩, ⟨by (with_reducible repeat (first | apply Kd.S_alloc | apply Kd.S_drewN | apply Kd.S_drew)); exact Kd.S_mono HO.out (fun _ hk => hk.2)⟩, ⟨by (with_reducible repeat (first | apply Kd.R_alloc | apply Kd.R_drewN | apply Kd.R_drew)); exact HL.out⟩, ⟨by repeat (first | (with_reducible first | exact HB.out | apply below_alloc | apply pw_below_drewN | apply below_drew1) | exact HB.out)⟩⟩
    ·obtain rfl : j = row.length := by have := HJ1.out; omega
     rw [List.take_length] at HL
     have hlm := (HW.out k HCK.out).2
     have HLo := Aside0.mk hlo
     have HLm := Aside0.mk hlm
     have HN := Aside0.mk (rowsV_succ mf m k)
     have HV2 := Aside0.mk (show rowV mf m k = row.map ratOf ++ mf k from by rw [rowV, ← HRW.out])
     have HNl := Aside0.mk (show (rowsV mf m k).length ≤ 1000 from by rw [rowsV_length]; have := HK1.out; omega)
     clear hlm
     go_wp2
     rw [enters_ hg1 hg2 hg3, Oper.upon_enter]
     refine (HF.out k _ HCK.out (bl HB.out)).mono ?_
     rintro e w9 ⟨vm, rfl, hR, hb⟩
     have n0_ := Aside0.mk (Kd.S_below (sx HO.out) hb)
     have n1_ := Aside0.mk (Kd.R_below (rx HL.out) hb)
     have n2_ := Aside0.mk (below_step (bl HB.out) hb)
     have HM := Aside0.mk hR
     clear HO HL HB
     have HO := n0_
     have HL := n1_
     have HB := n2_
     clear n0_ n1_ n2_ hb hR
     obtain ⟨Am, cm, em⟩ := Kd.R_slice HM.out
     subst em
     dsimp only
     go_wp2_with (first | ((with_reducible refine gate_builtin (b := .append) (xs := #[.tmp 32, .tmp 35]) rfl ?_); at_builtin; refine Kd.R_append_rows k103 (w0 := w) w.heap.size rfl (.tmp 32) (.tmp 35) 39 103 (.agg #[(.string ⟨#[]⟩), (.string ⟨#[]⟩)]) 32 rfl Tryz.underlying39 info103 rfl (by decide) (by omega) u8 (row.map ratOf) (mf k) _ _ _ (fun _ => True) (fun _ => False) rfl rfl ?aO ?aR (fun _ _ h => h) (fun _ h => h.elim) ?aF ?aB ?aS ?aL ?_; (case aR => repeat (first | exact (Kd.R_reads' HM.out).2.2 | (with_reducible refine Kd.C_alloc ?_ _) | (with_reducible refine Kd.C_drewN ?_ _) | (with_reducible refine Kd.C_drew ?_))); (case aB => exact (bl HB.out)); (case aF => exact (fun _ _ => trivial)); (case aO => exact (rx HL.out)); (case aS => exact (below_size (bl HB.out))); (case aL => have := HLo.out; have := HLm.out; rw [List.length_map]; omega); intro v608 w14 ho hb hg hat; rw [← HV2.out] at ho; have n0_ := Aside0.mk (Kd.S_after (ok := (fun _ => True)) (by (with_reducible repeat (first | apply Kd.S_alloc | apply Kd.S_drewN | apply Kd.S_drew)); exact Kd.S_mono HO.out (fun _ hk => ⟨trivial, hk⟩)) hg hat); have n1_ := Aside0.mk (hb); have n2_ := Aside0.mk (ho); clear HO HB HL HM; have HO := n0_; have HB := n1_; have HL := n2_; clear n0_ n1_ n2_; clear ho hb hg hat; obtain ⟨Ao13, co13, eo13⟩ := Kd.R_slice HL.out; subst eo13) | ((with_reducible refine gate_builtin (b := .append) (xs := #[.tmp 31, .tmp 37]) rfl ?_); at_builtin; refine Kd.S_append (Kd.slice 103 k103) (w0 := w) w.heap.size rfl (.tmp 31) (.tmp 37) 30 39 (.slice none 0 0) 24 rfl Tryz.underlying30 info39 rfl (by decide) (by omega) u5 (rowsV mf m k) (rowV mf m k) [.slice Ao13 (rowV mf m k).length co13] (fun _ => True) (fun k_ => some k_ = (.slice Ao13 (rowV mf m k).length co13 : Value).ownBlock) rfl rfl ?aP (fun k_ hk_ => ((Kd.R_mono (ok' := fun k_ => ((fun _ => True)) k_ ∧ some k_ ≠ (u5 : Value).ownBlock) (Kd.R_apart' (HL.out) (Kd.S_typed HO.out) (by decide)) (fun k_ hk => ⟨trivial, hk.2⟩))).1 k_ hk_.symm) ?aF ?aO ?aB ?aS ?aL ?_; (case aP => exact Kd.M_row (Kd.R_mono (Kd.R_tight rfl (Kd.R_mono (ok' := fun k_ => ((fun _ => True)) k_ ∧ some k_ ≠ (u5 : Value).ownBlock) (Kd.R_apart' (HL.out) (Kd.S_typed HO.out) (by decide)) (fun k_ hk => ⟨trivial, hk.2⟩))) (fun _ h_ => h_))); (case aB => exact (bl HB.out)); (case aF => exact (fun _ _ => trivial)); (case aO => exact (by (with_reducible repeat (first | apply Kd.S_alloc | apply Kd.S_drewN | apply Kd.S_drew)); exact Kd.S_mono HO.out (fun k_ hk => ⟨trivial, fun e_ => hk.2 e_⟩))); (case aS => exact (below_size (bl HB.out))); (case aL => have := HNl.out; omega); intro v750 w12 ho hb hg hat; rw [← HN.out] at ho; have n0_ := Aside0.mk (hb); have n1_ := Aside0.mk (ho); clear HB HO HL; have HB := n0_; have HO := n1_; clear n0_ n1_; clear ho hb hg hat))
     go_roundg k1
     case measure => exact Nat.lt_succ_self _
     case rel => exact ⟨k + 1, by go_num, ⟨by have := HCK.out; omega⟩, ⟨by have := HK2.out; have := HCK.out; omega⟩, ⟨by (with_reducible repeat (first | apply Kd.S_alloc | apply Kd.S_drewN | apply Kd.S_drew)); exact HO.out⟩, ⟨by repeat (first | (with_reducible first | exact HB.out | apply below_alloc | apply pw_below_drewN | apply below_drew1) | exact HB.out)⟩⟩
  ·obtain rfl : k = m.length := by have := HK1.out; omega
   go_wp2
   go_ret
   exact ⟨_, rfl, HO.out, HB.out⟩
end Go.Proofs.YtegffolimjiioaaGreatDoor.PB
