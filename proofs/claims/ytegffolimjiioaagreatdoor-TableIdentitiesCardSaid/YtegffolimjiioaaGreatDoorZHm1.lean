/- table.sets: the iterator over all sets of k numbers below n -/
import Derived.Test.YtegffolimjiioaaGreatDoorZPBx0
import Derived.Test.YtegffolimjiioaaGreatDoorZGw
import Derived.Test.YtegffolimjiioaaGreatDoorZGl
import Derived.Test.YtegffolimjiioaaGreatDoorZGz
import Derived.RangeFuncLeaves
import Derived.Shelf.Abstract
import Derived.Shelf.RegionOpen
import Derived.WalkKit
import Derived.OwnWalkIn
import Derived.TacticsInMore
import Derived.LoopNIn
import Derived.LoopIn
import Derived.Sort.LoopGhostIn
import Derived.RegionIn
import Derived.BigRegionIn
import Derived.Deep.QuietTactic
import Derived.BigQuiet
namespace Go.Proofs.YtegffolimjiioaaGreatDoor.PB
open Go.RowKit Go.Proofs.YtegffolimjiioaaGreatDoorW.PrintWords Go.Proofs.YtegffolimjiioaaGreatDoorW.PrintLast Go.Proofs.YtegffolimjiioaaGreatDoorW.PrintMore
set_option linter.unusedVariables false
set_option linter.unusedSimpArgs false
theorem sets_call (n k : Int) (w : World) : Calls Tryz.prog 106 #[.int .i64 n, .int .i64 k] w fun e w' =>
  e = .returned (.func (.func 171) #[] #[.pointer (some ⟨w.heap.size + 1, 0, none⟩), .pointer (some ⟨w.heap.size, 0, none⟩)]) ∧ w' = (w.alloc (.cells #[.int .i64 n] 3)).alloc (.cells #[.int .i64 k] 3) := by
 go_enter Tryz.func106, Tryz.ntmps106
 go_wp2
 go_ret
 exact ⟨by simp, rfl⟩
theorem make_ints (k : Nat) (hk : k ≤ 12) (W : World) : (Instr.makeSlice 50 (.int .i64 k) (.int .i64 k)).run Tryz.prog W = .ok (.slice (some ⟨W.heap.size, 0, none⟩) k k) (W.alloc (.cells (List.replicate k (Value.int .i64 0)).toArray 3)) := by
 obtain ⟨i0, hi, hzz⟩ := Option.map_eq_some_iff.1 info3
 simp only [Prod.mk.injEq] at hzz
 obtain ⟨hz0, hz1, hz2⟩ := hzz
 have hr := run_make (P := Tryz.prog) W 50 3 i0 _ Tryz.underlying50 hi hz0 .i64 .i64 (k : Int) (k : Int) (by omega) (by omega) (by rw [hz2]; omega) (by omega)
 simp only [Int.toNat_natCast] at hr
 have e : madeCells (Value.int .i64 0).cells (k * i0.size) = (List.replicate k (Value.int .i64 0)).toArray := by
  rw [hz1, Nat.mul_one]
  refine Array.ext (by simp [madeCells]) fun i hi1 hi2 => ?_
  simp [madeCells, Value.cells, Nat.mod_one]
 rw [e] at hr
 exact hr
theorem lex_bound : ∀ (m : Nat) (lo : Int) (k : Nat) (s : List Int), s ∈ Sets.lex m lo k → ∀ x ∈ s, lo ≤ x ∧ x < lo + m
 | m, lo, 0, s, h, x, hx => by
  have : s = [] := by cases m <;> simpa [Sets.lex] using h
  subst this; simp at hx
 | 0, lo, k + 1, s, h, x, hx => by simp [Sets.lex] at h
 | m + 1, lo, k + 1, s, h, x, hx => by
  simp only [Sets.lex, List.mem_append, List.mem_map] at h
  rcases h with ⟨r, hr, rfl⟩ | h
  ·rcases List.mem_cons.1 hx with rfl | hx
   ·omega
   ·have := lex_bound m (lo + 1) k r hr x hx; omega
  ·have := lex_bound m (lo + 1) (k + 1) s h x hx; omega
def initL (t k : Nat) : List Int := (List.range k).map fun (i : Nat) => if i < t then (i : Int) else 0
theorem initL_length (t k : Nat) : (initL t k).length = k := by simp [initL]
theorem initL_zero (k : Nat) : initL 0 k = List.replicate k 0 := by
 refine List.ext_getElem (by simp [initL]) fun i h1 h2 => ?_
 simp [initL]
theorem initL_all (k : Nat) : initL k k = Sets.first k := by
 refine List.ext_getElem (by simp [initL, Sets.first]) fun i h1 h2 => ?_
 simp only [initL, List.length_map, List.length_range] at h1
 simp [initL, Sets.first, h1]
theorem initL_step (t k : Nat) (h : t < k) : (initL t k).set t (t : Int) = initL (t + 1) k := by
 refine List.ext_getElem (by simp [initL]) fun i h1 h2 => ?_
 simp only [initL, List.length_set, List.length_map, List.length_range] at h1
 rw [List.getElem_set]
 by_cases e : t = i
 ·subst e; simp [initL]
 ·rw [if_neg e]; simp only [initL, List.getElem_map, List.getElem_range]
  by_cases h3 : i < t
  ·rw [if_pos h3, if_pos (by omega)]
  ·rw [if_neg h3, if_neg (by omega)]
theorem run_cases {n k : Nat} {s : List Int} {rest : List (List Int)} (h : Sets.Run n k s rest) : ∃ rest', rest = s :: rest' ∧ ((rest' = [] ∧ Sets.down n k s k < 0) ∨ (0 ≤ Sets.down n k s k ∧ Sets.Run n k (Sets.bump s (Sets.down n k s k).toNat k) rest')) := by
 match rest, h with
 | [x], h => obtain ⟨rfl, h2⟩ := h; exact ⟨[], rfl, .inl ⟨rfl, h2⟩⟩
 | x :: y :: r, h => obtain ⟨rfl, h2, h3⟩ := h; exact ⟨y :: r, rfl, .inr ⟨h2, h3⟩⟩
def rowT (b k : Nat) (x : List Int) (A : World) : Prop := x.length = k ∧ Kd.R (Kd.int .i64) 3 A b (fun q => q = b) (.slice (some ⟨b, 0, none⟩) k k) x
theorem cell_same {A B : World} {q o : Nat} (h : B.heap[q]? = A.heap[q]?) : B.cell? ⟨q, o, none⟩ = A.cell? ⟨q, o, none⟩ := by
 simp [World.cell?, h]
theorem rowT_same {b k : Nat} {x : List Int} {A B : World} (h : rowT b k x A) (he : B.heap[b]? = A.heap[b]?) : rowT b k x B :=
 ⟨h.1, Kd.R_move h.2 (fun q hq => by rw [hq]; exact he)⟩
theorem rowT_size {b k : Nat} {x : List Int} {A : World} (h : rowT b k x A) : b + 1 ≤ A.heap.size := by
 have := Kd.R_lt h.2 b (by simp [Value.ownBlock]); omega
theorem Mv.drew {b c : Nat} {X Y : World} (h : Mv b c X Y) : Mv b c X Y.drew := ⟨below_drew1 h.1, fun k hk hs => h.2 k hk hs⟩
theorem Mv.set {b : Nat} {X Y : World} (h : Mv b 1 X Y) (o : Nat) (v : Value) : Mv b 1 X (Y.setCell ⟨b, o, none⟩ v) :=
 ⟨h.1.setCell (p := ⟨b, o, none⟩) (Nat.le_refl _) v, fun k hk hs => (Below.heap_setCell Y ⟨b, o, none⟩ v k (by show k ≠ b; omega)).trans (h.2 k hk hs)⟩
theorem Mv.drewN {b c : Nat} {X Y : World} (h : Mv b c X Y) (m : Nat) : Mv b c X (Y.drewN m) := ⟨pw_below_drewN h.1 m, fun k hk hs => h.2 k hk hs⟩
def bumpTo (s : List Int) (d j : Nat) : List Int := s.take d ++ ((List.range (j - d)).map fun (t : Nat) => s.getD d 0 + 1 + (t : Int)) ++ s.drop j
theorem bumpTo_length (s : List Int) (d j : Nat) (hd : d ≤ j) (hj : j ≤ s.length) : (bumpTo s d j).length = s.length := by
 simp [bumpTo]; omega
theorem bumpTo_all (s : List Int) (d : Nat) : bumpTo s d s.length = Sets.bump s d s.length := by
 simp [bumpTo, Sets.bump]
theorem bumpTo_get (s : List Int) (d j i : Nat) (hd : d < j) (hj : j ≤ s.length) (hi : i < s.length) : (bumpTo s d j).getD i 0 = if i < d then s.getD i 0 else if i < j then s.getD d 0 + 1 + ((i - d : Nat) : Int) else s.getD i 0 := by
 simp only [bumpTo, List.getD_eq_getElem?_getD]
 by_cases h1 : i < d
 ·rw [if_pos h1, List.append_assoc, List.getElem?_append_left (by simp; omega), List.getElem?_take_of_lt h1]
 ·rw [if_neg h1]
  by_cases h2 : i < j
  ·rw [if_pos h2, List.getElem?_append_left (by simp; omega), List.getElem?_append_right (by simp; omega)]
   have e1 : (List.take d s).length = d := by simp; omega
   rw [e1, List.getElem?_map, List.getElem?_range (by omega)]
   rfl
  ·rw [if_neg h2, List.getElem?_append_right (by simp; omega)]
   rw [List.getElem?_drop]
   congr 2
   simp; omega
theorem ext_getD {a b : List Int} (hl : a.length = b.length) (h : ∀ i, i < a.length → a.getD i 0 = b.getD i 0) : a = b := by
 refine List.ext_getElem hl fun i h1 h2 => ?_
 have := h i h1
 rwa [List.getD_eq_getElem?_getD, List.getD_eq_getElem?_getD, List.getElem?_eq_getElem h1, List.getElem?_eq_getElem h2, Option.getD_some, Option.getD_some] at this
theorem getD_set (a : List Int) (j i : Nat) (x : Int) (hi : i < a.length) : (a.set j x).getD i 0 = if j = i then x else a.getD i 0 := by
 rw [List.getD_eq_getElem?_getD, List.getElem?_set]
 by_cases e : j = i
 ·subst e; rw [if_pos rfl, if_pos hi, if_pos rfl]; rfl
 ·rw [if_neg e, if_neg e, List.getD_eq_getElem?_getD]
theorem bumpTo_first (s : List Int) (d : Nat) (hd : d < s.length) : s.set d (s.getD d 0 + 1) = bumpTo s d (d + 1) := by
 refine ext_getD (by rw [List.length_set, bumpTo_length s d (d+1) (by omega) hd]) fun i h1 => ?_
 rw [List.length_set] at h1
 rw [bumpTo_get s d (d + 1) i (by omega) hd h1, getD_set _ _ _ _ h1]
 by_cases e : d = i
 ·subst e; simp
 ·rw [if_neg e]
  by_cases h3 : i < d
  ·rw [if_pos h3]
  ·rw [if_neg h3, if_neg (by omega)]
theorem bumpTo_step (s : List Int) (d j : Nat) (hd : d < j) (hj : j < s.length) : (bumpTo s d j).set j ((bumpTo s d j).getD (j - 1) 0 + 1) = bumpTo s d (j + 1) := by
 refine ext_getD (by rw [List.length_set, bumpTo_length s d j (by omega) (by omega), bumpTo_length s d (j+1) (by omega) (by omega)]) fun i h1 => ?_
 rw [List.length_set] at h1
 have h1' := h1
 rw [bumpTo_length s d j (by omega) (by omega)] at h1'
 rw [getD_set _ _ _ _ h1, bumpTo_get s d (j + 1) i (by omega) (by omega) h1', bumpTo_get s d j i hd (by omega) h1', bumpTo_get s d j (j - 1) hd (by omega) (by omega)]
 rw [if_neg (show ¬ j - 1 < d by omega), if_pos (show j - 1 < j by omega)]
 by_cases e : j = i
 ·subst e; rw [if_pos rfl, if_neg (by omega), if_pos (by omega)]; omega
 ·rw [if_neg e]
  by_cases h5 : i < d
  ·rw [if_pos h5, if_pos h5]
  ·rw [if_neg h5, if_neg h5]
   by_cases h6 : i < j
   ·rw [if_pos h6, if_pos (by omega)]
   ·rw [if_neg h6, if_neg (by omega)]
set_option maxHeartbeats 8000000 in
set_option maxRecDepth 100000 in
theorem sets_goes (m : Nat) (hm : 1 ≤ m) (l lo bk bn n k : Nat) (hn : n ≤ 12) (hk : k ≤ 12) (W : World) (hlo1 : lo ≤ bk) (hlo2 : lo ≤ bn)
  (hck : W.cell? ⟨bk, 0, none⟩ = some (.int .i64 k)) (hcn : W.cell? ⟨bn, 0, none⟩ = some (.int .i64 n)) :
  Goes Fence.wide m Tryz.prog l lo W.heap.size 1 (fun _ => #[.slice (some ⟨W.heap.size, 0, none⟩) k k]) (rowT W.heap.size k) 171 #[.pointer (some ⟨bk, 0, none⟩), .pointer (some ⟨bn, 0, none⟩)] (if k ≤ n then Sets.sets n k else []) W := by
 intro J hJ hY h0
 obtain ⟨b, hb⟩ : ∃ b, b = W.heap.size := ⟨_, rfl⟩
 rw [← hb] at hJ hY
 obtain ⟨xs, hxs⟩ : ∃ xs, xs = (if k ≤ n then Sets.sets n k else []) := ⟨_, rfl⟩
 rw [← hxs] at hY ⊢
 have HXS := Aside0.mk hxs
 clear hxs
 have HJ := Aside0.mk hJ
 have HY := Aside0.mk hY
 clear hJ hY
 refine callsIn_of_wp Tryz.func171 rfl trivial ?_ rfl
 simp only [Tryz.ntmps171, List.size_toArray, List.length_cons, List.length_nil, Nat.reduceAdd, Nat.reduceSub, Array.replicate_succ, Array.replicate_zero, List.push_toArray, List.append_toArray, List.nil_append, List.cons_append]
 have hmk := make_ints k hk
 have HLT1 := Aside0.mk (show bk < b from by rw [hb]; exact World.block_lt_of_cell? W _ hck)
 have HLT2 := Aside0.mk (show bn < b from by rw [hb]; exact World.block_lt_of_cell? W _ hcn)
 have HBb := Aside0.mk hb
 clear hb
 gi_wp2
 have HCK := Aside0.mk hck
 have HCN := Aside0.mk hcn
 have hH0 : (W.alloc (.cells (List.replicate k (Value.int .i64 0)).toArray 3)).heap[b]? = some (.cells (List.replicate k (Value.int .i64 0)).toArray 3 (0, 0)) := by rw [HBb.out]; exact heap_alloc_new _ _
 have hR0 : rowT b k (initL 0 k) (W.alloc (.cells (List.replicate k (Value.int .i64 0)).toArray 3)) := by
  refine ⟨initL_length _ _, ?_⟩
  rw [initL_zero]
  have ho : (W.alloc (.cells (List.replicate k (Value.int .i64 0)).toArray 3)).ownsRow b 3 1 (.slice (some ⟨b, 0, none⟩) k k) (List.replicate k (0 : Int)).length (encs (Value.int .i64) (List.replicate k (0 : Int))) := by
   rw [List.length_replicate]
   have he : encs (Value.int .i64) (List.replicate k (0 : Int)) = List.replicate k (Value.int .i64 0) := by simp [encs]
   rw [he]
   exact ⟨by simp, .inr ⟨b, k, (List.replicate k (Value.int .i64 0)).toArray, rfl, Nat.le_refl _, hH0, Nat.le_refl _, by simp [maxLen]; omega, by simp, by simp⟩⟩
  exact Kd.R_of_own (h1 := fun _ => rfl) ho (fun q hq => by simpa [Value.ownBlock] using hq.symm)
 rw [← HBb.out]
 clear hH0 hck hcn
 gi_loopg [12] (k + 1) (fun kq v12 w' => ∃ (t : Nat), v12 = .int .i64 t ∧ Aside0 (t ≤ k) ∧ Aside0 (k - t + 1 ≤ kq) ∧ Aside0 (rowT b k (initL t k) w') ∧ Aside0 (Below b W w'))
 case atStart => exact ⟨0, rfl, ⟨Nat.zero_le _⟩, ⟨by omega⟩, ⟨hR0⟩, ⟨by rw [HBb.out]; exact below_alloc (Below.refl _ _) _⟩⟩
 case round =>
  obtain ⟨t, rfl, HT, HK, HR, HB⟩ := hrel
  by_cases ct : t < k
  ·obtain ⟨k1, rfl⟩ : ∃ k1, gk = k1 + 1 := ⟨gk - 1, by have := HK.out; omega⟩
   obtain ⟨hx, hf⟩ := Kd.R_celln (0 : Int) HR.out.2 (t : Int) (by omega) (by omega)
   simp only [Int.toNat_natCast] at hx hf
   have hti : (t : Int) < (k : Int) := by omega
   have HCT := Aside0.mk ct
   gi_wp2
   go_roundg k1
   case measure => exact Nat.lt_succ_self _
   case rel =>
    refine ⟨t + 1, by go_num, ⟨by have := HCT.out; omega⟩, ⟨by have := HK.out; have := HCT.out; omega⟩, ⟨initL_length _ _, ?_⟩, ⟨?_⟩⟩
    ·have := Kd.R_putn HR.out.2 (t : Int) (t : Int)
     rw [Int.toNat_natCast, initL_step t k HCT.out] at this
     exact this
    ·exact HB.out.setCell (p := ⟨b, t, none⟩) (Nat.le_refl _) _
  ·obtain rfl : k = t := by have := HT.out; omega
   have hJ1 : J [] wr := HJ.out _ _ _ h0 ⟨HB.out, fun q hq hs => by have := HBb.out; omega⟩
   have HR2 := Aside0.mk HR.out
   rw [initL_all] at HR2
   clear HR HT HK ct
   have hsz : b + 1 ≤ wr.heap.size := rowT_size HR2.out
   have HSZ := Aside0.mk hsz
   have HCK1 := Aside0.mk ((HB.out.block bk HLT1.out) : wr.heap[bk]? = W.heap[bk]?)
   have HCN1 := Aside0.mk ((HB.out.block bn HLT2.out) : wr.heap[bn]? = W.heap[bn]?)
   clear HB h0 hsz
   gi_wp2
   by_cases ckn : k ≤ n
   ·have ckn1 : (k : Int) ≤ (n : Int) := by omega
    have HRun := Aside0.mk (Sets.run_sets hn ckn)
    have hxs := HXS.out
    rw [if_pos ckn] at hxs
    rw [← hxs] at HRun
    clear hxs
    gi_loopg [] (xs.length + 1) (fun kq w' => ∃ (pre rest : List (List Int)) (s : List Int), Aside0 (J pre w') ∧ Aside0 (rowT b k s w') ∧ Aside0 (Sets.Run n k s rest) ∧ Aside0 (pre ++ rest = xs) ∧ Aside0 (rest.length + 1 ≤ kq) ∧ Aside0 (b + 1 ≤ w'.heap.size) ∧ Aside0 (w'.heap[bk]? = W.heap[bk]?) ∧ Aside0 (w'.heap[bn]? = W.heap[bn]?))
    case atStart => exact ⟨[], xs, Sets.first k, ⟨hJ1⟩, ⟨HR2.out⟩, ⟨HRun.out⟩, ⟨rfl⟩, ⟨Nat.le_refl _⟩, ⟨HSZ.out⟩, ⟨HCK1.out⟩, ⟨HCN1.out⟩⟩
    case round =>
     clear hJ1 HR2 HSZ HCK1 HCN1
     obtain ⟨pre, rest, s, HJp, HR, HRn, HX, HK, HSZ, HCK1, HCN1⟩ := hrel
     have hk1 := (cell_same (o := 0) HCK1.out).trans HCK.out
     have hn1 := (cell_same (o := 0) HCN1.out).trans HCN.out
     obtain ⟨rest', rfl, hor⟩ := run_cases HRn.out
     have HOR := Aside0.mk hor
     obtain ⟨fn, tmps, assign, body, hy, hR3⟩ := HY.out pre s wr HJp.out HSZ.out HR.out ⟨rest', by rw [← HX.out]; simp⟩
     obtain ⟨k1, rfl⟩ : ∃ k1, gk = k1 + 1 := ⟨gk - 1, by have := HK.out; omega⟩
     clear hor
     gi_wp2
     refine hR3.mono ?_
     rintro e W3 ⟨rfl, hJ3, hk3⟩
     have HLo := Aside0.mk (show lo ≤ b from by have := HLT1.out; omega)
     have HR3 := Aside0.mk (rowT_same HR.out (hk3.2 b HLo.out (Nat.lt_succ_self _)))
     have HCK3 := Aside0.mk ((hk3.2 bk hlo1 (by have := HLT1.out; omega)).trans HCK1.out)
     have HCN3 := Aside0.mk ((hk3.2 bn hlo2 (by have := HLT2.out; omega)).trans HCN1.out)
     have HJ3 := Aside0.mk hJ3
     have hk5 := (cell_same (o := 0) HCK3.out).trans HCK.out
     have hn5 := (cell_same (o := 0) HCN3.out).trans HCN.out
     clear hR3 hy hJ3 hk3 hk1 hn1 HR HCK1 HCN1 HJp
     gi_wp2
     gi_loopg [6] (k + 1) (fun kq v6 w' => ∃ (i : Nat), v6 = .int .i64 ((i : Int) - 1) ∧ Aside0 (i ≤ k) ∧ Aside0 (i + 1 ≤ kq) ∧ Aside0 (Sets.down n k s k = Sets.down n k s i) ∧ Aside0 (Mv b 1 W3 w') ∧ Aside0 (w'.heap = W3.heap))
     case atStart => exact ⟨k, by go_num, ⟨Nat.le_refl _⟩, ⟨Nat.le_refl _⟩, ⟨rfl⟩, ⟨Mv.refl _ _ _⟩, ⟨rfl⟩⟩
     case round =>
      obtain ⟨i, rfl, HI, HKi, HD, HM, HHp⟩ := hrel
      have hk6 := (cell_same (o := 0) (show wr.heap[bk]? = W.heap[bk]? from by rw [HHp.out]; exact HCK3.out)).trans HCK.out
      have hn6 := (cell_same (o := 0) (show wr.heap[bn]? = W.heap[bn]? from by rw [HHp.out]; exact HCN3.out)).trans HCN.out
      have HR4 := Aside0.mk (rowT_same HR3.out (show wr.heap[b]? = W3.heap[b]? from by rw [HHp.out]))
      cases i with
      | zero =>
       have hneg : ((0 : Nat) : Int) - 1 = -1 := rfl
       rw [hneg]
       have hdn : Sets.down n k s k = -1 := HD.out
       have hxs : pre ++ [s] = xs := by
        rcases HOR.out with ⟨h1, _⟩ | ⟨h1, _⟩
        ·rw [← HX.out, h1]
        ·rw [hdn] at h1; exact absurd h1 (by decide)
       have HXS2 := Aside0.mk hxs
       clear hdn hxs
       gi_wp2
       refine wpIn_wide.2 ?_
       go_quiet (skip)
       gi_wp2
       refine bodyPost_ret (results_none rfl _ _ _) rfl ?_
       exact ⟨⟨_, rfl⟩, by rw [← HXS2.out]; exact HJ.out _ _ _ HJ3.out (Mv.drewN HM.out _)⟩
      | succ i =>
       have hii : ((i + 1 : Nat) : Int) - 1 = (i : Int) := by omega
       rw [hii]
       clear hii
       have hik : i < k := by have := HI.out; omega
       obtain ⟨hx, hf⟩ := Kd.R_celln (0 : Int) HR4.out.2 (i : Int) (by omega) (by omega)
       simp only [Int.toNat_natCast] at hx hf
       have hdo : Sets.down n k s (i + 1) = if s.getD i 0 = (n : Int) - (k : Int) + (i : Int) then Sets.down n k s i else (i : Int) := rfl
       have hrd : rdOf (0 : Int) s (i : Int) = s.getD i 0 := by simp [rdOf]
       rw [hrd] at hx
       obtain ⟨q, hq⟩ : ∃ q, q = s.getD i 0 := ⟨_, rfl⟩
       rw [← hq] at hx hdo
       have HQ := Aside0.mk hq
       have HDO := Aside0.mk (HD.out.trans hdo)
       have hiki : (i : Int) < (k : Int) := by omega
       have hw1 : wrap64 ((n : Int) - (k : Int)) = (n : Int) - (k : Int) := by unfold wrap64; omega
       have hw2 : wrap64 ((n : Int) - (k : Int) + (i : Int)) = (n : Int) - (k : Int) + (i : Int) := by unfold wrap64; omega
       obtain ⟨k2, rfl⟩ : ∃ k2, gk = k2 + 1 := ⟨gk - 1, by have := HKi.out; omega⟩
       clear hrd hq hdo
       by_cases cq : q = (n : Int) - (k : Int) + (i : Int)
       ·have HD2 := Aside0.mk (show Sets.down n k s k = Sets.down n k s i from by rw [HDO.out, if_pos cq])
        have cqb : (q == (n : Int) - (k : Int) + (i : Int)) = true := by simp [cq]
        have HCQ := Aside0.mk cq
        clear cq
        gi_wp2
        gi_big_region
        gi_wp2
        go_roundg k2
        case measure => exact Nat.lt_succ_self _
        case rel => exact ⟨i, rfl, ⟨by have := HI.out; omega⟩, ⟨by have := HKi.out; omega⟩, ⟨HD2.out⟩, ⟨Mv.drew HM.out⟩, ⟨HHp.out⟩⟩
       ·have HD2 := Aside0.mk (show Sets.down n k s k = (i : Int) from by rw [HDO.out, if_neg cq])
        have cqb : (q == (n : Int) - (k : Int) + (i : Int)) = false := by simp [cq]
        have hbd : 0 ≤ q ∧ q < 12 := by
         have hl := HR4.out.1
         have hm2 : q ∈ s := by
          rw [HQ.out, List.getD_eq_getElem?_getD, List.getElem?_eq_getElem (by omega), Option.getD_some]; exact List.getElem_mem _
         have hs : s ∈ Sets.sets n k := by
          have h1 := HXS.out
          rw [if_pos ckn] at h1
          rw [← h1, ← HX.out]; simp
         have := lex_bound n 0 k s hs q hm2
         omega
        have hwq : wrap64 (q + 1) = q + 1 := by unfold wrap64; omega
        have HBD := Aside0.mk hbd
        have HCQ := Aside0.mk cq
        clear cq hbd
        gi_wp2
        gi_big_region
        gi_wp2
        have HR5 : rowT b k (bumpTo s i (i + 1)) (wr.drew.setCell ⟨b, i, none⟩ (.int .i64 (q + 1))) := by
         have h1 := Kd.R_putn (Kd.R_drew HR4.out.2) (i : Int) (q + 1)
         rw [Int.toNat_natCast, HQ.out, bumpTo_first s i (by have := HR4.out.1; omega), ← HQ.out] at h1
         exact ⟨by rw [bumpTo_length s i (i + 1) (by omega) (by have := HR4.out.1; omega)]; exact HR4.out.1, h1⟩
        have HM5 := Aside0.mk (Mv.set (Mv.drew HM.out) i (.int .i64 (q + 1)))
        clear hx hf hk6 hn6 hw1 hw2 hwq cqb
        gi_loopg [7] (k + 1) (fun kq v7 w' => ∃ (j : Nat), v7 = .int .i64 j ∧ Aside0 (i < j ∧ j ≤ k) ∧ Aside0 (k - j + 1 ≤ kq) ∧ Aside0 (rowT b k (bumpTo s i j) w') ∧ Aside0 (Mv b 1 W3 w'))
        case atStart => exact ⟨i + 1, by go_num, ⟨by omega⟩, ⟨by omega⟩, ⟨HR5⟩, ⟨HM5.out⟩⟩
        case round =>
         clear HR5 HM5
         obtain ⟨j, rfl, HJJ, HKj, HRj, HMj⟩ := hrel
         have hk7 := (cell_same (o := 0) ((HMj.out.1.block bk HLT1.out).trans HCK3.out)).trans HCK.out
         by_cases cj : j < k
         ·obtain ⟨j1, hj1⟩ : ∃ j1, j = j1 + 1 := ⟨j - 1, by have := HJJ.out; omega⟩
          obtain ⟨hx, hf⟩ := Kd.R_celln (0 : Int) HRj.out.2 (j : Int) (by omega) (by omega)
          obtain ⟨hx1, hf1⟩ := Kd.R_celln (0 : Int) HRj.out.2 (j1 : Int) (by omega) (by omega)
          simp only [Int.toNat_natCast] at hx hf hx1 hf1
          have hsl : s.length = k := HR4.out.1
          have hrd : rdOf (0 : Int) (bumpTo s i j) (j1 : Int) = (bumpTo s i j).getD (j - 1) 0 := by simp [rdOf, hj1]
          have hval : (bumpTo s i j).getD (j - 1) 0 = q + 1 + ((j - 1 - i : Nat) : Int) := by
           have := HJJ.out
           rw [bumpTo_get s i j (j - 1) (by omega) (by omega) (by omega), if_neg (by omega), if_pos (by omega), ← HQ.out]
          obtain ⟨x, hxx⟩ : ∃ x, x = (bumpTo s i j).getD (j - 1) 0 := ⟨_, rfl⟩
          rw [hrd, ← hxx] at hx1
          have hxb : 0 ≤ x ∧ x < 40 := by rw [hxx, hval]; have := HBD.out; omega
          have hx2 : wr.cell? ⟨b, j - 1, none⟩ = some (.int .i64 x) := by rw [show j - 1 = j1 by omega]; exact hx1
          have hx3 : wr.cell? ⟨b, ((j : Int) - 1).toNat, none⟩ = some (.int .i64 x) := by rw [show ((j : Int) - 1).toNat = j1 by omega]; exact hx1
          have hwx : wrap64 (x + 1) = x + 1 := by unfold wrap64; omega
          have hwj : wrap64 ((j : Int) - 1) = (j1 : Int) := by unfold wrap64; omega
          have hjk : (j : Int) < (k : Int) := by omega
          have hj1k : (j1 : Int) < (k : Int) := by omega
          have hb1 : 1 ≤ (j : Int) := by omega
          have hb2 : (j : Int) - 1 < (k : Int) := by omega
          have HXX := Aside0.mk hxx
          have HCJ := Aside0.mk cj
          have HSL := Aside0.mk hsl
          obtain ⟨k3, rfl⟩ : ∃ k3, gk = k3 + 1 := ⟨gk - 1, by have := HKj.out; omega⟩
          clear hrd hval hxx hxb hj1 hsl cj
          gi_wp2
          go_roundg k3
          case measure => exact Nat.lt_succ_self _
          case rel =>
           refine ⟨j + 1, by go_num, ⟨by have := HJJ.out; have := HCJ.out; omega⟩, ⟨by have := HKj.out; have := HCJ.out; omega⟩, ⟨?_, ?_⟩, ⟨Mv.set HMj.out j _⟩⟩
           ·rw [bumpTo_length s i (j + 1) (by have := HJJ.out; omega) (by have := HCJ.out; have := HSL.out; omega)]; exact HSL.out
           ·have h1 := Kd.R_putn HRj.out.2 (j : Int) (x + 1)
            rw [Int.toNat_natCast, HXX.out, bumpTo_step s i j HJJ.out.1 (by have := HCJ.out; have := HSL.out; omega), ← HXX.out] at h1
            exact h1
         ·obtain rfl : j = k := by have := HJJ.out; omega
          have hnx : Sets.Run n j (bumpTo s i j) rest' := by
           rcases HOR.out with ⟨_, h1⟩ | ⟨_, h1⟩
           ·rw [HD2.out] at h1; omega
           ·rw [HD2.out, Int.toNat_natCast] at h1
            have hsl : s.length = j := HR4.out.1
            have := bumpTo_all s i
            rw [hsl] at this
            rw [this]; exact h1
          have HNX := Aside0.mk hnx
          clear hnx cj
          gi_wp2
          go_roundg k1
          case measure => exact Nat.lt_succ_self _
          case rel => exact ⟨pre ++ [s], rest', bumpTo s i j, ⟨HJ.out _ _ _ HJ3.out HMj.out⟩, ⟨HRj.out⟩, ⟨HNX.out⟩, ⟨by rw [← HX.out]; simp⟩, ⟨by have := HK.out; simp only [List.length_cons] at this; omega⟩, ⟨rowT_size HRj.out⟩, ⟨(HMj.out.1.block bk HLT1.out).trans HCK3.out⟩, ⟨(HMj.out.1.block bn HLT2.out).trans HCN3.out⟩⟩
   ·have hxs := HXS.out
    rw [if_neg ckn] at hxs
    have HX0 := Aside0.mk hxs
    have ckn1 : (n : Int) < (k : Int) := by omega
    have hk1 := (cell_same (o := 0) HCK1.out).trans HCK.out
    have hn1 := (cell_same (o := 0) HCN1.out).trans HCN.out
    have HJ1 := Aside0.mk hJ1
    clear hxs hJ1
    gi_loopg [] 1 (fun kq w' => w'.cell? ⟨bk, 0, none⟩ = some (.int .i64 k) ∧ w'.cell? ⟨bn, 0, none⟩ = some (.int .i64 n) ∧ Aside0 (J [] w'))
    case atStart => exact ⟨hk1, hn1, ⟨HJ1.out⟩⟩
    case round =>
     clear hk1 hn1
     obtain ⟨hk2, hn2, HJ2⟩ := hrel
     gi_wp2
     go_end0
     exact ⟨⟨_, rfl⟩, by rw [HX0.out]; exact HJ2.out⟩
end Go.Proofs.YtegffolimjiioaaGreatDoor.PB
