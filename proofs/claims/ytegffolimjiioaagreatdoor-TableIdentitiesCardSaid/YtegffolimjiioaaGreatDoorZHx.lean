/- slices.Clone of fractions; the functions inside table.Inverse and table.Solve -/
import Derived.Test.YtegffolimjiioaaGreatDoorZPBx0
import Derived.Test.YtegffolimjiioaaGreatDoorZHv
import Derived.Test.YtegffolimjiioaaGreatDoorZHq
import Derived.Deep.RegionWith
import Derived.Lib.SliceRun
import Derived.Test.YtegffolimjiioaaGreatDoorZPBx2
import Derived.Test.YtegffolimjiioaaGreatDoorZPBx6
namespace Go.Proofs.YtegffolimjiioaaGreatDoor.PB
open Go.RowKit Go.Proofs.YtegffolimjiioaaGreatDoorW.PrintWords Go.Proofs.YtegffolimjiioaaGreatDoorW.PrintLast Go.Proofs.YtegffolimjiioaaGreatDoorW.PrintMore
set_option linter.unusedVariables false
set_option linter.unusedSimpArgs false
set_option maxRecDepth 100000 in
theorem clone_call (A : Addr) (c : Nat) (xs : List S103) (w : World) (hn : xs.length ≤ 1000) (hr : Kd.C k103 w (some A) xs.length xs) :
  Calls Tryz.prog 100 #[.slice (some A) xs.length c] w fun e w' => ∃ v, e = .returned v ∧ Kd.R k103 103 w' w.heap.size (fun _ => True) v xs ∧ Below w.heap.size w w' := by
 have HR := Aside0.mk hr
 clear hr
 have HB := Aside0.mk (Below.refl w.heap.size w)
 have hnil : ∀ (w : World) (a : Option Addr) (n c : Nat), (binOp .eql 39 (.slice a n c) (.slice none 0 0)).run Tryz.prog w = .ok (.bool a.isNone) w := fun w a n c => Lib.run_eql_slice_nil w 39 103 a n c 0 0 Tryz.underlying39
 go_enter Tryz.func100, Tryz.ntmps100
 go_wp2_with (first | ((with_reducible refine gate_dst (N := 5) rfl ?_); refine Kd.R_lit k103 w.heap.size 103 ?hg (N := 5) ?hd (xs := ([] : List S103)) (inner := []) (ok := fun _ => True) (okp := fun _ => True) ?hr ?hp (fun _ hk => hk) trivial (Below.refl _ _) (Nat.le_refl _) (by simp) ?_; (case hd => rfl); (case hg => rfl); (case hr => first | (go_simp; done) | (go_simp; rfl)); (case hp => exact (Reps.none _ _)); intro v5 w5 ho5 hb hg_ hnew_; clear hg_ hnew_; have HO := Aside0.mk ho5; clear HB; have HB := Aside0.mk hb; have HR1 := Aside0.mk (Kd.C_below HR.out hb); clear ho5 hb) | ((with_reducible refine gate_builtin (b := .append) (xs := #[.tmp 5, .tmp 6]) rfl ?_); at_builtin; refine Kd.R_append_rows k103 (w0 := w) w.heap.size rfl (.tmp 5) (.tmp 6) 39 103 (.agg #[(.string ⟨#[]⟩), (.string ⟨#[]⟩)]) 32 rfl Tryz.underlying39 info103 rfl (by decide) (by omega) _ ([] : List S103) xs _ _ _ (fun _ => True) (fun _ => False) rfl rfl ?aO ?aR (fun _ _ h => h) (fun _ h => h.elim) ?aF ?aB ?aS ?aL ?_; (case aR => exact HR1.out); (case aB => exact HB.out); (case aF => exact (fun _ _ => trivial)); (case aO => exact HO.out); (case aS => exact (below_size HB.out)); (case aL => (rw [List.length_nil]; omega)); intro v7 w7 ho hb hg hat; clear HB HO; have HB := Aside0.mk hb; have HO := Aside0.mk ho; clear ho hb hg hat))
 go_ret
 exact ⟨_, rfl, by simpa using HO.out, HB.out⟩
def zeroS : S103 := ⟨⟨#[48]⟩, ⟨#[49]⟩⟩
def oneS : S103 := ⟨⟨#[49]⟩, ⟨#[49]⟩⟩
def unitV (n i : Nat) : List S103 := (List.replicate n zeroS).set i oneS
theorem size103 : (Tryz.prog.info? 103).map (·.size) = some 2 := by
 have h := info103
 cases h' : Tryz.prog.info? 103 with
 | none => rw [h'] at h; cases h
 | some i =>
  rw [h'] at h
  simp only [Option.map_some, Option.some.injEq, Prod.mk.injEq] at h ⊢
  exact h.2.1
theorem two_cells {a b : Value} {P : Nat → Value → Prop} (h0 : P 0 a) (h1 : P 1 b) : ∀ j u, [a, b][j]? = some u → P j u := by
 intro j u h
 match j, h with
 | 0, h => obtain rfl := Option.some.inj h; exact h0
 | 1, h => obtain rfl := Option.some.inj h; exact h1
theorem row_cells {W : World} {base go n co : Nat} {ok : Nat → Prop} {xs : List S103} (hR : Kd.R k103 103 W base ok (.slice (some ⟨go, 0, none⟩) n co) xs) (i : Nat) (hi : i < n) (z : S103) (hz : rd_T103 xs (i : Int) = z) :
  ∀ (j : Nat) (u : Value), [Value.string z.f0, Value.string z.f1][j]? = some u → W.cell? ⟨go, (i : Int).toNat * k103.sz + j, none⟩ = some u := by
 obtain ⟨hl, _, hC⟩ := Kd.R_reads' hR
 obtain ⟨ad, ea, x0, x1⟩ := at_T103 hC (i : Int) (by omega) (by omega)
 cases ea
 rw [hz] at x0 x1
 refine two_cells (P := fun j u => W.cell? ⟨go, (i : Int).toNat * k103.sz + j, none⟩ = some u) ?_ ?_
 ·have e : (⟨go, 0, none⟩ : Addr).add ((i : Int).toNat * 2) = ⟨go, (i : Int).toNat * 2 + 0, none⟩ := add_plain _ _
  rw [e] at x0; exact x0
 ·have e : (⟨go, 0, none⟩ : Addr).add ((i : Int).toNat * 2) = ⟨go, (i : Int).toNat * 2, none⟩ := add_plain _ _
  rw [e] at x1; exact x1
set_option maxRecDepth 100000 in
theorem inv_call (n i : Nat) (b : Nat) (w : World) (hn : n ≤ 12) (hi : i < n) (hc : w.cell? ⟨b, 0, none⟩ = some (.int .i64 n)) :
  Calls Tryz.prog 96 #[.int .i64 i, .pointer (some ⟨b, 0, none⟩)] w fun e w' => ∃ v, e = .returned v ∧ Kd.R k103 103 w' w.heap.size (fun _ => True) v (unitV n i) ∧ Below w.heap.size w w' := by
 have hu103 := Tryz.underlying103
 have HB := Aside0.mk (Below.refl w.heap.size w)
 go_enter Tryz.func96, Tryz.ntmps96
 go_wp2
 go_region_with (first | (go_at_call 98; (refine (table_zero.calls ⟨#[48]⟩ ⟨#[49]⟩ _ rfl).mono ?_); rintro e w1 ⟨rfl, hb⟩; have HB1 := Aside0.mk (below_step (below_drew1 HB.out) hb); have hc1 := (hb.cell (World.block_lt_of_cell? _ _ (show (World.drew w).cell? ⟨b, 0, none⟩ = _ from hc))).trans hc; have hc2 : ∀ o, (w1.alloc o).cell? ⟨b, 0, none⟩ = some (.int .i64 n) := fun o => ((below_alloc (Below.refl w1.heap.size w1) o).cell (World.block_lt_of_cell? _ _ hc1)).trans hc1) | (go_at_call 97; (refine (repeat_call zeroS n ⟨w1.heap.size, 0, none⟩ 1 _ hn (Nat.le_refl _) (Kd.R_reads' (R_of_heap (base := 0) (xs := [zeroS]) (heap_alloc_new _ _) (Nat.zero_le _) (by simp))).2.2).mono ?_); rintro e w2 ⟨v2, rfl, hR, hb2⟩; have HB2 := Aside0.mk (below_step (below_alloc HB1.out _) hb2); have HR := Aside0.mk (Kd.R_lower hR (below_size (below_alloc HB1.out _))); clear hR hb2))
 all_goals (
  obtain ⟨go, co, rfl, gb, gl, cl, HG⟩ := Kd.R_form HR.out (by rw [List.length_replicate]; omega)
  have hlen : (List.replicate n zeroS).length = n := List.length_replicate
  have HL := Aside0.mk hlen
  rw [hlen] at HR
  have hi1 : (i : Int) < n := by omega
  clear hlen HG gb gl cl)
 all_goals go_wp2_with (first | (go_at_call 99; (refine (table_one.calls ⟨#[49]⟩ ⟨#[49]⟩ _ rfl).mono ?_); rintro e w3 ⟨rfl, hb3⟩; have HR3 := Aside0.mk (Kd.R_below HR.out hb3); have HB3 := Aside0.mk (below_step HB2.out hb3)) | ((with_reducible refine gate_store (t := 103) (p := 12) rfl ?_); refine Kd.R_store k103 (w0 := w) w.heap.size rfl rfl 103 (.tmp 12) (.tmp 11) rfl 103 (i : Int) 0 (List.replicate n zeroS) oneS _ [.string ⟨#[49]⟩, .string ⟨#[49]⟩] [.string ⟨#[48]⟩, .string ⟨#[49]⟩] (fun _ => True) (fun _ => False) rfl ?hoff rfl rfl ?ht ?h1 HR3.out (by omega) (by omega) rfl ?hcc ?hjj (k103_mkM _ _ _ oneS) (fun _ h => h.elim) HB3.out ?_; (case hoff => (show i * 2 = (i : Int).toNat * 2 + 0; simp)); (case ht => exact size103); (case h1 => simp [Value.oneCell']); (case hcc => exact row_cells HR3.out i hi zeroS (by simp [rd_T103, List.getD_eq_getElem?_getD, List.getElem?_replicate, hi])); (case hjj => exact (by decide : 0 + 2 ≤ 2)); intro w4 hR4 hb4 _))
 all_goals go_ret
 all_goals exact ⟨_, rfl, hR4, hb4⟩
set_option maxRecDepth 100000 in
theorem sol_call (i b : Nat) (A1 : Option Addr) (c1 : Nat) (xs : List Int) (w : World) (hi : i < xs.length) (hc : w.cell? ⟨b, 0, none⟩ = some (.slice A1 xs.length c1)) (hx : Kd.C (Kd.int .i64) w A1 xs.length xs) (hl : xs.length ≤ 1000) (hG : GW w) (h64 : in64 (rd xs i) = true) :
  Calls Tryz.prog 110 #[.int .i64 i, .pointer (some ⟨b, 0, none⟩)] w fun e w' => ∃ v, e = .returned v ∧ Kd.R k103 103 w' w.heap.size (fun _ => True) v [ratOf (rd xs i)] ∧ Below w.heap.size w w' := by
 have hu103 := Tryz.underlying103
 have HB := Aside0.mk (Below.refl w.heap.size w)
 have hi1 : (i : Int) < xs.length := by omega
 obtain ⟨ad, e1, hx1⟩ := Kd.at_int hx (i : Int) (by omega) (by omega)
 cases e1
 simp only [Int.toNat_natCast] at hx1
 have HG := Aside0.mk hG
 have HE := Aside0.mk (whole_Of_txt (rd xs i) h64)
 clear hG hx h64
 go_enter Tryz.func110, Tryz.ntmps110
 go_wp2_with (first | (go_at_call 111; (with_reducible refine (whole_Of.calls (rd xs i) (txt (rd xs i)) _ HG.out HE.out).mono ?_); rintro e w9 ⟨rfl, hb⟩; have HB1 := Aside0.mk hb; clear hb))
 go_ret
 exact ⟨_, rfl, R_of_heap (xs := [ratOf (rd xs i)]) (heap_alloc_new _ _) (below_size HB1.out) (by simp), below_alloc HB1.out _⟩
end Go.Proofs.YtegffolimjiioaaGreatDoor.PB
