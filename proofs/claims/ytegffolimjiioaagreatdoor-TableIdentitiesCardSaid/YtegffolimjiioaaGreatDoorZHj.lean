/- table.Solve -/
import Derived.Test.YtegffolimjiioaaGreatDoorZX0
import Derived.Test.YtegffolimjiioaaGreatDoorZPBx0
import Derived.Test.YtegffolimjiioaaGreatDoorZHq
import Derived.Test.YtegffolimjiioaaGreatDoorZGw
import Derived.Test.YtegffolimjiioaaGreatDoorZHr
import Derived.Test.YtegffolimjiioaaGreatDoorZHx
import Derived.Test.YtegffolimjiioaaGreatDoorZHk
import Derived.Test.YtegffolimjiioaaGreatDoorZHi
import Derived.Test.YtegffolimjiioaaGreatDoorZPBx2
import Derived.Test.YtegffolimjiioaaGreatDoorZPBx11
namespace Go.Proofs.YtegffolimjiioaaGreatDoor.PB
open Go.RowKit Go.Proofs.YtegffolimjiioaaGreatDoorW.PrintWords Go.Proofs.YtegffolimjiioaaGreatDoorW.PrintLast Go.Proofs.YtegffolimjiioaaGreatDoorW.PrintMore
set_option linter.unusedVariables false
set_option linter.unusedSimpArgs false
theorem rowsS_call (A0 : Option Addr) (c0 : Nat) (m : List (List Int)) (b : Nat) (A1 : Option Addr) (c1 : Nat) (l1 : List Int) (w : World) (hr0 : Kd.C (Kd.slice 3 (Kd.int .i64)) w A0 m.length m) (hc0 : m.length ≤ c0) (hG : GW w) (hm : checkM m = 0)
    (hb : w.cell? ⟨b, 0, none⟩ = some (.slice A1 l1.length c1)) (hr1 : Kd.C (Kd.int .i64) w A1 l1.length l1) (hl : l1.length = m.length) (hg : l1.any greatB = false) :
    Calls Tryz.prog 94 #[.slice A0 m.length c0, .func (.func 110) #[] #[.pointer (some ⟨b, 0, none⟩)]] w fun e w' => ∃ v : Value, e = .returned v ∧ Kd.S (Kd.slice 103 k103) 39 w' w.heap.size (fun _ => True) v (rowsV (fun i => [ratOf (rd l1 i)]) m m.length) ∧ Below w.heap.size w w' := by
  obtain ⟨h1, h2⟩ := checkM_ok hm
  refine table_rows.calls 110 #[.pointer (some ⟨b, 0, none⟩)] (fun i => [ratOf (rd l1 i)]) A0 c0 m w hr0 hc0 hG (fun i W hi hb1 => ?_) Tryz.f110 Tryz.func110 (by kernel_rfl) rfl (by omega) (fun i hi => ?_) (fun r hr n hn => ?_)
  · refine sol_call i b A1 c1 l1 W (by omega) ((hb1.cell (World.block_lt_of_cell? _ _ hb)).trans hb) (Kd.C_below hr1 hb1) (by omega) (GW.below hG hb1) ?_
    have hx : rd l1 (i : Int) ∈ l1 := by
      rw [rd_nat l1 i (by omega)]
      exact List.getElem_mem _
    have := List.any_eq_false.1 hg _ hx
    simp [greatB] at this
    simp [in64]; omega
  · rw [List.getD_eq_getElem?_getD, List.getElem?_eq_getElem hi]
    exact ⟨by have := (h2 m[i] (List.getElem_mem _)).1; simp; omega, by simp⟩
  · have := (h2 r hr).2.2 n hn
    simp [in64]; omega
theorem cols_le {m : List (List Int)} (h : checkM m = 0) : colsM m ≤ 12 := by
  have h2 := (checkM_ok h).2
  cases m with
  | nil => simp [colsM]
  | cons r rest => have := h2 r (List.mem_cons_self ..); omega
def solNone : List (List S103) → Nat → Option Bool
  | [], _ => some false
  | r :: rest, n => (fraction_Sign.f (rd_T103 r (n : Int)).f0 (rd_T103 r (n : Int)).f1).bind fun s => if s = 0 then solNone rest n else some true
def fillV (lead : List Int) (tm : List (List S103)) (n : Nat) : Nat → List S103
  | 0 => List.replicate n zeroS
  | j + 1 => (fillV lead tm n j).set (rd lead (j : Int)).toNat (rd_T103 (rd_L4 tm (j : Int)) (n : Int))
def solOk (n : Nat) (lead : List Int) (tm : List (List S103)) : Bool := decide (lead.length ≤ tm.length) && decide (tm.length ≤ 1000) && (tm.all fun r => decide (n < r.length)) && lead.all fun c => decide (0 ≤ c) && decide (c < (n : Int))
def table_Solve.f (k : Nat) (m : List (List Int)) (l1 : List Int) : Option (List S103 × Int × Int) :=
  if checkM m = 0 then (if l1.length = m.length then (if l1.any greatB = true then some ([], 0, 4) else
    (table_reduce.f k (rowsV (fun i => [ratOf (rd l1 i)]) m m.length) (colsM m : Int)).bind fun t => if solOk (colsM m) t.1 t.2.2.2 = true then
      (solNone (t.2.2.2.drop t.1.length) (colsM m)).bind fun b => if b = true then some ([], 3, 0) else some (fillV t.1 t.2.2.2 (colsM m) t.1.length, (if t.1.length < colsM m then 2 else 1), 0) else none)
    else some ([], 0, 5)) else some ([], 0, checkM m)
set_option maxHeartbeats 8000000 in
set_option maxRecDepth 100000 in
theorem table_Solve.calls (k : Nat) (A0 : Option Addr) (c0 : Nat) (l0 : List (List Int)) (A1 : Option Addr) (c1 : Nat) (l1 : List Int) (r1 : List S103) (r2 : Int) (r3 : Int) (w : World) (hr0 : Kd.C (Kd.slice 3 (Kd.int .i64)) w A0 l0.length l0) (hc0 : l0.length ≤ c0) (hr1 : Kd.C (Kd.int .i64) w A1 l1.length l1) (hc1 : l1.length ≤ c1) (hG : GW w) (h : table_Solve.f k l0 l1 = some (r1, r2, r3)) :
    Calls Tryz.prog 38 #[.slice A0 l0.length c0, .slice A1 l1.length c1] w fun e w' => ∃ v0_ : Value, e = .returned (.tuple #[v0_, .int .i64 r2, .int .i64 r3]) ∧ Kd.R k103 103 w' w.heap.size (fun _ => True) v0_ r1 ∧ Below w.heap.size w w' := by
  have HG := Aside0.mk hG
  have HR0 := Aside0.mk hr0
  have HC0 := Aside0.mk hc0
  have HRL := Aside0.mk hr1
  have HC1 := Aside0.mk hc1
  clear hG hr0 hc0 hr1 hc1
  unfold table_Solve.f at h
  go_enter Tryz.func38, Tryz.ntmps38
  by_cases q1 : checkM l0 = 0
  · rw [if_pos q1] at h
    have HCk1 := Aside0.mk q1
    clear q1
    by_cases q2 : l1.length = l0.length
    · rw [if_pos q2] at h
      have q2b : ((l1.length : Int) != (l0.length : Int)) = false := by simp; omega
      have HQ2 := Aside0.mk q2
      clear q2
      by_cases q3 : l1.any greatB = true
      · rw [if_pos q3] at h
        obtain ⟨rfl, rfl, rfl⟩ : ([] : List S103) = r1 ∧ (0 : Int) = r2 ∧ (4 : Int) = r3 := by simpa using h
        have HC3 := Aside0.mk q3
        clear q3
        go_wp2_with (first | (go_at_call 70; (refine (table_Check.calls A0 c0 l0 (checkM l0) _ (Kd.C_alloc HR0.out _) HC0.out rfl).mono ?_); rw [HCk1.out]; rintro e w1 ⟨rfl, hb⟩; have HR1 := Aside0.mk (Kd.C_below (Kd.C_alloc HR0.out _) hb); have HL1 := Aside0.mk (Kd.C_below (Kd.C_alloc HRL.out _) hb); have HB := Aside0.mk (below_step (below_alloc (Below.refl w.heap.size w) _) hb); have hx1 := (hb.cell (World.block_lt_of_cell? _ _ (blk_cell (heap_alloc_new _ _) 0))).trans (blk_cell (heap_alloc_new _ _) 0); clear hb) | (go_at_call 108; (refine (containsFunc_great A1 c1 l1 _ (by repeat (first | (with_reducible exact HL1.out) | (with_reducible refine Kd.C_drewN ?_ _) | (with_reducible refine Kd.C_drew ?_) | (with_reducible refine Kd.C_alloc ?_ _) | exact HL1.out)) HC1.out).mono ?_); rw [HC3.out]; rintro e w2 ⟨rfl, ⟨n3, rfl⟩⟩))
        go_ret3
        exact ⟨_, rfl, Kd.R_nil _ _ _ _ _, (bl HB.out)⟩
      · rw [if_neg q3] at h
        have HC3 := Aside0.mk (Bool.eq_false_iff.2 q3)
        clear q3
        obtain ⟨⟨tl, tn, td, tm⟩, hA, h⟩ := Option.bind_eq_some_iff.mp h
        have HA := Aside0.mk hA
        clear hA
        by_cases q4 : ¬ (solOk (colsM l0) tl tm = true)
        · rw [if_neg q4] at h; simp at h
        replace q4 := Decidable.not_not.1 q4
        rw [if_pos q4] at h
        obtain ⟨b, hb0, h⟩ := Option.bind_eq_some_iff.mp h
        have hsol : tl.length ≤ tm.length ∧ tm.length ≤ 1000 ∧ (∀ r ∈ tm, colsM l0 < r.length) ∧ ∀ c ∈ tl, 0 ≤ c ∧ c < (colsM l0 : Int) := by
          simp only [solOk, Bool.and_eq_true, List.all_eq_true, decide_eq_true_eq] at q4
          exact ⟨q4.1.1.1, q4.1.1.2, q4.1.2, q4.2⟩
        have q5 : tl.length ≤ tm.length := hsol.1
        have HSOL := Aside0.mk hsol
        have HNONE := Aside0.mk hb0
        have HH := Aside0.mk h
        clear hsol hb0 q4 h
        go_wp2_with (first | (go_at_call 70; (refine (table_Check.calls A0 c0 l0 (checkM l0) _ (Kd.C_alloc HR0.out _) HC0.out rfl).mono ?_); rw [HCk1.out]; rintro e w1 ⟨rfl, hb⟩; have HR1 := Aside0.mk (Kd.C_below (Kd.C_alloc HR0.out _) hb); have HL1 := Aside0.mk (Kd.C_below (Kd.C_alloc HRL.out _) hb); have HB := Aside0.mk (below_step (below_alloc (Below.refl w.heap.size w) _) hb); have hx1 := (hb.cell (World.block_lt_of_cell? _ _ (blk_cell (heap_alloc_new _ _) 0))).trans (blk_cell (heap_alloc_new _ _) 0); clear hb) | (go_at_call 108; (refine (containsFunc_great A1 c1 l1 _ (by repeat (first | (with_reducible exact HL1.out) | (with_reducible refine Kd.C_drewN ?_ _) | (with_reducible refine Kd.C_drew ?_) | (with_reducible refine Kd.C_alloc ?_ _) | exact HL1.out)) HC1.out).mono ?_); rw [HC3.out]; rintro e w2 ⟨rfl, ⟨n3, rfl⟩⟩) | (go_at_call 72; (refine (table_Columns.calls A0 c0 l0 (colsM l0 : Int) _ (by repeat (first | (with_reducible exact HR1.out) | (with_reducible refine Kd.C_drewN ?_ _) | (with_reducible refine Kd.C_drew ?_) | (with_reducible refine Kd.C_alloc ?_ _) | exact HR1.out)) HC0.out (columns_f l0)).mono ?_); rintro e w3 ⟨rfl, ⟨nd, rfl⟩⟩; have HX1 := Aside0.mk hx1; have HBr := Aside0.mk (Below.refl w1.heap.size w1); have HGW := Aside0.mk (GW.below HG.out HB.out)) | (go_at_call 94; (refine (rowsS_call A0 c0 l0 w.heap.size A1 c1 l1 _ (by repeat (first | (with_reducible exact HR1.out) | (with_reducible refine Kd.C_drewN ?_ _) | (with_reducible refine Kd.C_drew ?_) | (with_reducible refine Kd.C_alloc ?_ _) | exact HR1.out)) HC0.out (GW.below HG.out (bl HB.out)) HCk1.out (((show Below w1.heap.size w1 _ from (bl HBr.out)).cell (World.block_lt_of_cell? _ _ HX1.out)).trans HX1.out) (by repeat (first | (with_reducible exact HL1.out) | (with_reducible refine Kd.C_drewN ?_ _) | (with_reducible refine Kd.C_drew ?_) | (with_reducible refine Kd.C_alloc ?_ _) | exact HL1.out)) HQ2.out HC3.out).mono ?_); rintro e w4 ⟨vr, rfl, hS, hb⟩; have HS := Aside0.mk (Kd.S_lower hS (below_size (show Below w1.heap.size w1 _ from (bl HBr.out)))); have HB7 := Aside0.mk (below_step (show Below w1.heap.size w1 _ from (bl HBr.out)) hb); clear hS hb; obtain ⟨Ar, cr, er⟩ := Kd.S_slice HS.out; subst er) | (go_at_call 93; (refine (table_reduce.calls k (fun _ => True) _ _ (colsM l0 : Int) tl tn td tm w1 _ (bl HB7.out) (sx HS.out) HGW.out HA.out).mono ?_); rintro e w5 ⟨vl, rfl, hl, hs4, hb, _⟩; obtain ⟨hn1, hn2, hC⟩ := Kd.S_reads' hs4; rw [hn1]; rw [hn1] at hn2; have HL := Aside0.mk hl; have HC4 := Aside0.mk hC; have HB8 := Aside0.mk hb; clear hl hs4 hb hn1 hC HS; obtain ⟨Al, cl, el⟩ := Kd.R_slice HL.out; subst el))
        all_goals (
          obtain ⟨W8, hW8⟩ : ∃ W, W = w5.alloc (.cells #[.string tn, .string td] 103) := ⟨_, rfl⟩
          have HC8 := Aside0.mk (show Kd.C (Kd.slice 103 k103) W8 Ar tm.length tm from by rw [hW8]; exact Kd.C_alloc HC4.out _)
          have HLd := Aside0.mk (show Kd.C (Kd.int .i64) W8 Al tl.length tl from by rw [hW8]; exact Kd.C_alloc (Kd.R_reads' HL.out).2.2 _)
          have HB9 := Aside0.mk (show Below w.heap.size w W8 from by rw [hW8]; exact below_alloc (below_step HB.out HB8.out) _)
          rw [← hW8]
          have hd := Kd.C_drop (c := cr) HC8.out q5 hn2
          first | rw [if_pos ‹cr = tl.length›] at hd | rw [if_neg ‹¬ cr = tl.length›] at hd
          try simp only [Nat.mul_one, show (Kd.slice 103 k103).sz = 1 from rfl] at hd
          try (obtain ⟨Ad, hAd⟩ : ∃ A, A = Option.map (fun x : Addr => x.add tl.length) Ar := ⟨_, rfl⟩
               rw [← hAd] at hd ⊢
               clear hAd)
          obtain ⟨rs, hrs⟩ : ∃ r, r = tm.drop tl.length := ⟨_, rfl⟩
          have hrl : rs.length = tm.length - tl.length := by rw [hrs, List.length_drop]
          rw [← hrl]
          rw [← hrs] at hd
          have HD := Aside0.mk hd
          have HN0 := Aside0.mk (show solNone rs (colsM l0) = some b from by rw [hrs]; exact HNONE.out)
          have HRS := Aside0.mk (show ∀ r ∈ rs, colsM l0 < r.length from fun r hr => HSOL.out.2.2.1 r (by rw [hrs] at hr; exact List.mem_of_mem_drop hr))
          have htl : rs.length ≤ 1000 := by have := HSOL.out.2.1; omega
          have htl2 : tl.length ≤ 1000 := by have := HSOL.out.2.1; omega
          have hcols : colsM l0 ≤ 12 := cols_le HCk1.out
          clear hd hrs hW8 HC4 HL HB8 HNONE HB7 hrl
          go_loopg [44] (rs.length + 1) (fun kq v44 w' => ∃ (j : Nat), v44 = .int .i64 j ∧ Aside0 (j ≤ rs.length) ∧ Aside0 (rs.length - j + 1 ≤ kq) ∧ Aside0 (solNone (rs.drop j) (colsM l0) = some b) ∧ Aside0 (Below W8.heap.size W8 w'))
          case atStart => exact ⟨0, rfl, ⟨Nat.zero_le _⟩, ⟨by omega⟩, ⟨HN0.out⟩, ⟨Below.refl _ _⟩⟩
          case round =>
            obtain ⟨j, rfl, HJ1, HJ2, HN, HBl⟩ := hrel
            by_cases cj : j < rs.length
            · obtain ⟨ad1, A2, c2, e1, hx1, hl1, hi1⟩ := at_L4 HD.out (j : Int) (by omega) (by omega)
              cases e1
              replace hx1 := (HBl.out.cell (World.block_lt_of_cell? W8 _ hx1)).trans hx1
              simp only [Int.toNat_natCast] at hx1
              obtain ⟨row, hrow⟩ : ∃ r, r = rd_L4 rs (j : Int) := ⟨_, rfl⟩
              rw [← hrow] at hx1 hl1 hi1
              have hrow2 : row = rs[j] := by rw [hrow]; simp [rd_L4, List.getD_eq_getElem?_getD, List.getElem?_eq_getElem cj]
              have hro : colsM l0 < row.length := HRS.out row (by rw [hrow2]; exact List.getElem_mem _)
              obtain ⟨ad2, ea2, x0, x1⟩ := at_T103 hi1 (colsM l0 : Int) (by omega) (by omega)
              cases ea2
              replace x0 := (HBl.out.cell (World.block_lt_of_cell? W8 _ x0)).trans x0
              replace x1 := (HBl.out.cell (World.block_lt_of_cell? W8 _ x1)).trans x1
              simp only [Int.toNat_natCast] at x0 x1
              obtain ⟨k1, rfl⟩ : ∃ k1, gk = k1 + 1 := ⟨gk - 1, by have := HJ2.out; omega⟩
              have hdr : rs.drop j = row :: rs.drop (j + 1) := by rw [List.drop_eq_getElem_cons cj, hrow2]
              have hN := HN.out
              rw [hdr, solNone] at hN
              obtain ⟨s1, hs1, hN⟩ := Option.bind_eq_some_iff.mp hN
              have HS1 := Aside0.mk hs1
              have HCJ := Aside0.mk cj
              clear hrow hrow2 hdr hs1 hi1 HN
              have hroi : (colsM l0 : Int) < (row.length : Int) := by omega
              by_cases z1 : s1 = 0
              · rw [if_pos z1] at hN
                have HN := Aside0.mk hN
                have z1b : (s1 != 0) = false := by simp [z1]
                clear hN z1
                go_wp2_with (first | (go_at_call 112; (refine (fraction_Sign.calls _ _ s1 _ HS1.out).mono ?_); rintro e w9 ⟨rfl, hb⟩; have n2_ := Aside0.mk (below_step HBl.out hb); clear HBl hb; have HBl := n2_; clear n2_))
                go_roundg k1
                case measure => exact Nat.lt_succ_self _
                case rel => exact ⟨j + 1, by go_num, ⟨by have := HCJ.out; omega⟩, ⟨by have := HJ2.out; have := HCJ.out; omega⟩, ⟨HN.out⟩, ⟨HBl.out⟩⟩
              · rw [if_neg z1] at hN
                obtain rfl : true = b := by simpa using hN
                have z1b : (s1 != 0) = true := by simp [z1]
                obtain ⟨rfl, rfl, rfl⟩ : ([] : List S103) = r1 ∧ (3 : Int) = r2 ∧ (0 : Int) = r3 := by simpa using HH.out
                clear hN
                go_wp2_with (first | (go_at_call 112; (refine (fraction_Sign.calls _ _ s1 _ HS1.out).mono ?_); rintro e w9 ⟨rfl, hb⟩; have n2_ := Aside0.mk (below_step HBl.out hb); clear HBl hb; have HBl := n2_; clear n2_))
                go_ret3
                exact ⟨_, rfl, Kd.R_nil _ _ _ _ _, below_step HB9.out HBl.out⟩
            · obtain rfl : j = rs.length := by have := HJ1.out; omega
              have hN := HN.out
              rw [List.drop_length, solNone] at hN
              obtain rfl : false = b := by simpa using hN
              obtain ⟨rfl, rfl, rfl⟩ : fillV tl tm (colsM l0) tl.length = r1 ∧ (if tl.length < colsM l0 then (2 : Int) else 1) = r2 ∧ (0 : Int) = r3 := by simpa using HH.out
              clear hN
              go_wp2_with (first | (go_at_call 98; (refine (table_zero.calls ⟨#[48]⟩ ⟨#[49]⟩ _ rfl).mono ?_); rintro e w9 ⟨rfl, hb⟩; have n2_ := Aside0.mk (below_step HBl.out hb); clear HBl hb; have HBl := n2_; clear n2_) | (go_at_call 97; (refine (repeat_call zeroS (colsM l0) ⟨w9.heap.size, 0, none⟩ 1 _ hcols (Nat.le_refl _) (Kd.R_reads' (R_of_heap (base := 0) (xs := [zeroS]) (heap_alloc_new _ _) (Nat.zero_le _) (by simp))).2.2).mono ?_); rintro e w10 ⟨vx, rfl, hR, hb⟩; have HX := Aside0.mk (Kd.R_lower hR (below_size (below_alloc HBl.out _))); have n2_ := Aside0.mk (below_step (below_alloc HBl.out _) hb); clear HBl hb hR; have HBl := n2_; clear n2_; obtain ⟨Ax, cx, ex⟩ := Kd.R_slice HX.out; subst ex; have hlx : (List.replicate (colsM l0) zeroS).length = colsM l0 := List.length_replicate; rw [hlx] at HX ⊢; clear hlx))
              go_loopg [61] (tl.length + 1) (fun kq v61 w' => ∃ (j : Nat), v61 = .int .i64 j ∧ Aside0 (j ≤ tl.length) ∧ Aside0 (tl.length - j + 1 ≤ kq) ∧ Aside0 (Kd.R k103 103 w' W8.heap.size (fun _ => True) (.slice Ax (colsM l0) cx) (fillV tl tm (colsM l0) j)) ∧ Aside0 (Below W8.heap.size W8 w'))
              case atStart => exact ⟨0, rfl, ⟨Nat.zero_le _⟩, ⟨by omega⟩, ⟨HX.out⟩, ⟨HBl.out⟩⟩
              case round =>
                clear HBl
                obtain ⟨j, rfl, HJ1, HJ2, HX, HBl⟩ := hrel
                by_cases cj : j < tl.length
                · obtain ⟨ad1, e1, hx1⟩ := Kd.at_int HLd.out (j : Int) (by omega) (by omega)
                  cases e1
                  replace hx1 := (HBl.out.cell (World.block_lt_of_cell? W8 _ hx1)).trans hx1
                  obtain ⟨ad2, A2, c2, e2, hx2, hl2, hi2⟩ := at_L4 HC8.out (j : Int) (by omega) (by omega)
                  cases e2
                  replace hx2 := (HBl.out.cell (World.block_lt_of_cell? W8 _ hx2)).trans hx2
                  simp only [Int.toNat_natCast] at hx1 hx2
                  obtain ⟨cc, hcc⟩ : ∃ c, c = rd tl (j : Int) := ⟨_, rfl⟩
                  obtain ⟨row, hrow⟩ : ∃ r, r = rd_L4 tm (j : Int) := ⟨_, rfl⟩
                  rw [← hcc] at hx1
                  rw [← hrow] at hx2 hl2 hi2
                  have hjm : j < tm.length := by omega
                  have hro : colsM l0 < row.length := HSOL.out.2.2.1 row (by rw [hrow]; simp only [rd_L4, Int.toNat_natCast, List.getD_eq_getElem?_getD, List.getElem?_eq_getElem hjm, Option.getD_some]; exact List.getElem_mem _)
                  have hc2 : 0 ≤ cc ∧ cc < (colsM l0 : Int) := HSOL.out.2.2.2 cc (by rw [hcc]; simp only [rd, Int.toNat_natCast, List.getD_eq_getElem?_getD, List.getElem?_eq_getElem cj, Option.getD_some]; exact List.getElem_mem _)
                  obtain ⟨cn, rfl⟩ : ∃ cn : Nat, cc = (cn : Int) := ⟨cc.toNat, by omega⟩
                  obtain ⟨ad3, e3, x0, x1⟩ := at_T103 hi2 (colsM l0 : Int) (by omega) (by omega)
                  cases e3
                  replace x0 := (HBl.out.cell (World.block_lt_of_cell? W8 _ x0)).trans x0
                  replace x1 := (HBl.out.cell (World.block_lt_of_cell? W8 _ x1)).trans x1
                  simp only [Int.toNat_natCast] at x0 x1
                  obtain ⟨zz, hzz⟩ : ∃ z, z = rd_T103 row (colsM l0 : Int) := ⟨_, rfl⟩
                  rw [← hzz] at x0 x1
                  have hcn : (cn : Int) < (colsM l0 : Int) := hc2.2
                  have hroi : (colsM l0 : Int) < (row.length : Int) := by omega
                  have hstep : fillV tl tm (colsM l0) (j + 1) = (fillV tl tm (colsM l0) j).set cn zz := by rw [fillV, ← hcc, ← hrow, ← hzz, Int.toNat_natCast]
                  have HSt := Aside0.mk hstep
                  obtain ⟨go, co, ex, gb, gl, cl2, HGo⟩ := Kd.R_form HX.out (by have := (Kd.R_reads' HX.out).1; omega)
                  obtain ⟨rfl, rfl⟩ : Ax = some ⟨go, 0, none⟩ ∧ cx = co := by injection ex with e1 e2 e3; exact ⟨e1, e3⟩
                  obtain ⟨k1, rfl⟩ : ∃ k1, gk = k1 + 1 := ⟨gk - 1, by have := HJ2.out; omega⟩
                  have HCJ := Aside0.mk cj
                  clear hcc hrow hzz hi2 hstep ex gb gl HGo
                  go_wp2_with (first | ((with_reducible refine gate_store (t := 103) (p := 75) rfl ?_); refine Kd.R_store k103 (w0 := W8) W8.heap.size rfl rfl 103 (.tmp 75) (.tmp 74) rfl 103 (cn : Int) 0 (fillV tl tm (colsM l0) j) zz _ [.string zz.f0, .string zz.f1] [.string (rd_T103 (fillV tl tm (colsM l0) j) (cn : Int)).f0, .string (rd_T103 (fillV tl tm (colsM l0) j) (cn : Int)).f1] (fun _ => True) (fun _ => False) rfl ?hoff rfl rfl ?ht ?h1 HX.out (by omega) (by omega) rfl ?hcc ?hjj (k103_mkM _ _ _ zz) (fun _ h => h.elim) HBl.out ?_; (case hoff => (show cn * 2 = (cn : Int).toNat * 2 + 0; simp)); (case ht => exact size103); (case h1 => simp [Value.oneCell']); (case hcc => exact row_cells HX.out cn (by omega) _ rfl); (case hjj => exact (by decide : 0 + 2 ≤ 2)); intro w11 hR4 hb4 _; simp only [Int.toNat_natCast] at hR4; rw [← HSt.out] at hR4))
                  all_goals (
                    go_roundg k1
                    case measure => exact Nat.lt_succ_self _
                    case rel => exact ⟨j + 1, by go_num, ⟨by have := HCJ.out; omega⟩, ⟨by have := HJ2.out; have := HCJ.out; omega⟩, ⟨hR4⟩, ⟨hb4⟩⟩)
                · obtain rfl : j = tl.length := by have := HJ1.out; omega
                  by_cases z3 : tl.length < colsM l0
                  · have z3i : (tl.length : Int) < (colsM l0 : Int) := by omega
                    go_wp2
                    all_goals (
                      go_ret3
                      exact ⟨_, by first | rfl | rw [if_pos z3], Kd.R_lower HX.out (below_size HB9.out), below_step HB9.out HBl.out⟩)
                  · have z3i : ¬ (tl.length : Int) < (colsM l0 : Int) := by omega
                    go_wp2
                    all_goals (
                      go_ret3
                      exact ⟨_, by first | rfl | rw [if_neg z3], Kd.R_lower HX.out (below_size HB9.out), below_step HB9.out HBl.out⟩))
    · rw [if_neg q2] at h
      obtain ⟨rfl, rfl, rfl⟩ : ([] : List S103) = r1 ∧ (0 : Int) = r2 ∧ (5 : Int) = r3 := by simpa using h
      have q2b : ((l1.length : Int) != (l0.length : Int)) = true := by simp; omega
      clear q2
      go_wp2_with (first | (go_at_call 70; (refine (table_Check.calls A0 c0 l0 (checkM l0) _ (Kd.C_alloc HR0.out _) HC0.out rfl).mono ?_); rw [HCk1.out]; rintro e w1 ⟨rfl, hb⟩; have HR1 := Aside0.mk (Kd.C_below (Kd.C_alloc HR0.out _) hb); have HL1 := Aside0.mk (Kd.C_below (Kd.C_alloc HRL.out _) hb); have HB := Aside0.mk (below_step (below_alloc (Below.refl w.heap.size w) _) hb); have hx1 := (hb.cell (World.block_lt_of_cell? _ _ (blk_cell (heap_alloc_new _ _) 0))).trans (blk_cell (heap_alloc_new _ _) 0); clear hb))
      go_ret3
      exact ⟨_, rfl, Kd.R_nil _ _ _ _ _, HB.out⟩
  · rw [if_neg q1] at h
    obtain ⟨rfl, rfl, rfl⟩ : ([] : List S103) = r1 ∧ (0 : Int) = r2 ∧ checkM l0 = r3 := by simpa using h
    go_wp2_with (first | (go_at_call 70; (refine (table_Check.calls A0 c0 l0 (checkM l0) _ (Kd.C_alloc HR0.out _) HC0.out rfl).mono ?_); rintro e w1 ⟨rfl, hb⟩; have HR1 := Aside0.mk (Kd.C_below (Kd.C_alloc HR0.out _) hb); have HL1 := Aside0.mk (Kd.C_below (Kd.C_alloc HRL.out _) hb); have HB := Aside0.mk (below_step (below_alloc (Below.refl w.heap.size w) _) hb); have hx1 := (hb.cell (World.block_lt_of_cell? _ _ (blk_cell (heap_alloc_new _ _) 0))).trans (blk_cell (heap_alloc_new _ _) 0); clear hb))
    go_ret3
    exact ⟨_, rfl, Kd.R_nil _ _ _ _ _, HB.out⟩
end Go.Proofs.YtegffolimjiioaaGreatDoor.PB
