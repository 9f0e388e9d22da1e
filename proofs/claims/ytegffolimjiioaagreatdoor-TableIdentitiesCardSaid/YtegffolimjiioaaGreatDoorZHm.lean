/- table.Minors -/
import Derived.Test.YtegffolimjiioaaGreatDoorZX0
import Derived.Test.YtegffolimjiioaaGreatDoorZPBx0
import Derived.Test.YtegffolimjiioaaGreatDoorZHq
import Derived.Test.YtegffolimjiioaaGreatDoorZGw
import Derived.Test.YtegffolimjiioaaGreatDoorZHr
import Derived.Test.YtegffolimjiioaaGreatDoorZHk
import Derived.Test.YtegffolimjiioaaGreatDoorZHm1
import Derived.Test.YtegffolimjiioaaGreatDoorZHj
import Derived.Test.YtegffolimjiioaaGreatDoorZGn1
import Derived.Deep.QuietTactic
import Derived.BigQuiet
import Derived.Deep.RegionWith
import Derived.Sort.CutIn
import Derived.OneCell
import Derived.Test.YtegffolimjiioaaGreatDoorZGn2
import Derived.Test.YtegffolimjiioaaGreatDoorZPBx2
import Derived.Test.YtegffolimjiioaaGreatDoorZPBx11
namespace Go.Proofs.YtegffolimjiioaaGreatDoor.PB
open Go.RowKit Go.Proofs.YtegffolimjiioaaGreatDoorW.PrintWords Go.Proofs.YtegffolimjiioaaGreatDoorW.PrintLast Go.Proofs.YtegffolimjiioaaGreatDoorW.PrintMore
set_option linter.unusedVariables false
set_option linter.unusedSimpArgs false
attribute [local go_sem] Oper.semAt_some
def mA (A0 : Option Addr) (c0 kk : Nat) (l0 : List (List Int)) (ws g7 B : Nat) (ca cb : Int) : List Value :=
 [Value.slice A0 (List.length l0) c0, Value.int IntKind.i64 kk, Value.pointer (some { block := ws, off := 0 }),
  Value.pointer (some { block := ws + 1, off := 0 }), Value.slice none 0 0,
  Value.int IntKind.i64 0, Value.int IntKind.i64 0, Value.pointer (some { block := g7, off := 0 }),
  Value.pointer (some { block := B, off := 0 }), undef, undef, undef, undef, undef,
  undef, undef, undef, undef, Value.slice A0 (List.length l0) c0, Value.int IntKind.i64 0,
  Value.int IntKind.i64 0, Value.bool false, undef, Value.int IntKind.i64 kk, Value.bool false,
  Value.bool false, Value.int IntKind.i64 kk, Value.slice A0 (List.length l0) c0,
  Value.int IntKind.i64 (List.length l0), Value.bool false, Value.bool false, Value.bool false,
  Value.int IntKind.i64 kk, Value.slice A0 (List.length l0) c0, Value.int IntKind.i64 (colsM l0),
  Value.bool false, Value.bool false, Value.slice A0 (List.length l0) c0,
  Value.int IntKind.i64 (List.length l0), Value.int IntKind.i64 kk, Value.int IntKind.i64 ca,
  Value.slice A0 (List.length l0) c0, Value.int IntKind.i64 (colsM l0), Value.int IntKind.i64 kk,
  Value.int IntKind.i64 cb, Value.int IntKind.i64 (wrap64 (ca * cb)), Value.bool false,
  Value.slice A0 (List.length l0) c0, Value.int IntKind.i64 (List.length l0), Value.int IntKind.i64 kk,
  Value.func (Fn.func 171) #[] #[Value.pointer (some { block := g7 + 1 + 1, off := 0 }), Value.pointer (some { block := g7 + 1, off := 0 })],
  Value.slice (some { block := g7 + 3 + 2, off := 0 }) kk kk, undef, undef, undef, undef, undef, undef, undef,
  undef, undef, undef, undef, undef, undef, undef, undef, undef, undef, undef, undef, undef, undef, undef,
  undef, undef, undef, undef, undef, undef, undef, undef, undef, undef, undef, undef, undef, undef, undef,
  undef, undef, undef, undef, undef, undef, undef, undef, undef]
def mB (A0 : Option Addr) (c0 kk : Nat) (l0 : List (List Int)) (ws g7 B s : Nat) (ca cb : Int) : List Value :=
 ((((mA A0 c0 kk l0 ws g7 B ca cb).set 52 (.slice A0 l0.length c0)).set 53 (.int .i64 (colsM l0))).set 54 (.int .i64 kk)).set 55 (.func (.func 171) #[] #[.pointer (some ⟨s + 1, 0, none⟩), .pointer (some ⟨s, 0, none⟩)])
def partV (m : List (List Int)) (r c : List Int) : List (List Int) := r.map fun i => c.map fun j => rd (rd_L1 m i) j
def minorsC (k0 : Nat) (m : List (List Int)) (k : Int) (r : List Int) : List (List Int) → List ByteArray → Option (List ByteArray)
 | [], out => some out
 | c :: cs, out => if checkM (partV m r c) = 0 then (table_reduce.f k0 (ratsV (partV m r c)) k).bind fun t => minorsC k0 m k r cs (out ++ [t.2.1]) else none
def minorsR (k0 : Nat) (m : List (List Int)) (k : Int) (cs : List (List Int)) : List (List Int) → List ByteArray → Option (List ByteArray)
 | [], out => some out
 | r :: rs, out => (minorsC k0 m k r cs out).bind fun o => minorsR k0 m k cs rs o
def table_Minors.f (k0 : Nat) (m : List (List Int)) (k : Int) : Option (List ByteArray × Int) :=
 if checkM m = 0 then (if 0 ≤ k ∧ k ≤ (m.length : Int) ∧ k ≤ (colsM m : Int) then
  (table_choose.f k0 m.length k).bind fun a => (table_choose.f k0 (colsM m) k).bind fun b => if wrap64 (a * b) > 1000 then some ([], 4) else
   (minorsR k0 m k (Sets.sets (colsM m) k.toNat) (Sets.sets m.length k.toNat) []).bind fun o => some (o, 0)
  else some ([], 3)) else some ([], checkM m)
theorem sets_len : ∀ n k : Fin 13, (Sets.sets n.val k.val).length ≤ 1000 := by decide +kernel
theorem minorsC_len {k0 : Nat} {m : List (List Int)} {k : Int} {r : List Int} : ∀ {cs : List (List Int)} {out o : List ByteArray}, minorsC k0 m k r cs out = some o → o.length = out.length + cs.length
 | [], out, o, h => by obtain rfl := Option.some.inj h; simp
 | c :: cs, out, o, h => by
  unfold minorsC at h
  split at h
  ·obtain ⟨t, -, h⟩ := Option.bind_eq_some_iff.mp h
   rw [minorsC_len h]; simp; omega
  ·cases h
theorem minorsR_len {k0 : Nat} {m : List (List Int)} {k : Int} {cs : List (List Int)} : ∀ {rs : List (List Int)} {out o : List ByteArray}, minorsR k0 m k cs rs out = some o → o.length = out.length + rs.length * cs.length
 | [], out, o, h => by obtain rfl := Option.some.inj h; simp
 | r :: rs, out, o, h => by
  unfold minorsR at h
  obtain ⟨t, h1, h⟩ := Option.bind_eq_some_iff.mp h
  rw [minorsR_len h, minorsC_len h1, List.length_cons, Nat.add_mul]; omega
theorem set_heap1 {W : World} {D : Nat} {a b u : Value} {e : TypeId} (h : W.heap[D]? = some (.cells #[a, b] e (0, 0))) : (W.setCell ⟨D, 0, none⟩ u).heap[D]? = some (.cells #[u, b] e (0, 0)) := by
 have hlt := (Array.getElem?_eq_some_iff.1 h).1
 simp only [World.setCell, Array.getElem?_modify, if_true, h, Option.map_some]
 rfl
theorem set_cell1 {W : World} {D : Nat} {a b u : Value} {e : TypeId} (h : W.heap[D]? = some (.cells #[a, b] e (0, 0))) : (W.setCell ⟨D, 0, none⟩ u).cell? ⟨D, 1, none⟩ = some b := blk_cell (set_heap1 h) 1
theorem set_frozen1 {W : World} {D : Nat} {a b u : Value} {e : TypeId} (h : W.heap[D]? = some (.cells #[a, b] e (0, 0))) : (W.setCell ⟨D, 0, none⟩ u).frozen? ⟨D, 1, none⟩ = false := by
 simp [World.frozen?, set_heap1 h]
theorem set_heap2 {W : World} {D : Nat} {a b u v : Value} {e : TypeId} (h : W.heap[D]? = some (.cells #[a, b] e (0, 0))) : ((W.setCell ⟨D, 0, none⟩ u).setCell ⟨D, 1, none⟩ v).heap[D]? = some (.cells #[u, v] e (0, 0)) := by
 have h1 := set_heap1 (u := u) h
 generalize W.setCell ⟨D, 0, none⟩ u = W1 at *
 simp only [World.setCell, Array.getElem?_modify, if_true, h1, Option.map_some]
 rfl
theorem minorsR_append (k0 : Nat) (m : List (List Int)) (k : Int) (cs : List (List Int)) : ∀ (a b : List (List Int)) (out : List ByteArray), minorsR k0 m k cs (a ++ b) out = (minorsR k0 m k cs a out).bind (minorsR k0 m k cs b)
 | [], b, out => rfl
 | r :: a, b, out => by
  simp only [List.cons_append, minorsR]
  cases h : minorsC k0 m k r cs out with
  | none => rfl
  | some o => simp only [Option.bind_some]; exact minorsR_append k0 m k cs a b o
theorem minorsR_snoc (k0 : Nat) (m : List (List Int)) (k : Int) (cs : List (List Int)) (a : List (List Int)) (x : List Int) (out : List ByteArray) : minorsR k0 m k cs (a ++ [x]) out = (minorsR k0 m k cs a out).bind fun o => minorsC k0 m k x cs o := by
 rw [minorsR_append]; congr 1; funext o; simp [minorsR]
theorem minorsR_part {k0 : Nat} {m : List (List Int)} {k : Int} {cs xs pre : List (List Int)} {x : List Int} {out o r : List ByteArray} (h : minorsR k0 m k cs xs o = some r) (hp : (pre ++ [x]) <+: xs) (h1 : minorsR k0 m k cs pre o = some out) : ∃ oc, minorsC k0 m k x cs out = some oc := by
 obtain ⟨rest, rfl⟩ := hp
 rw [minorsR_append, minorsR_snoc, h1, Option.bind_some] at h
 cases hc : minorsC k0 m k x cs out with
 | none => rw [hc] at h; cases h
 | some oc => exact ⟨oc, rfl⟩
theorem minorsC_append (k0 : Nat) (m : List (List Int)) (k : Int) (r : List Int) : ∀ (a b : List (List Int)) (out : List ByteArray), minorsC k0 m k r (a ++ b) out = (minorsC k0 m k r a out).bind (minorsC k0 m k r b)
 | [], b, out => rfl
 | c :: a, b, out => by
  simp only [List.cons_append, minorsC]
  split
  ·cases h : table_reduce.f k0 (ratsV (partV m r c)) k with
   | none => rfl
   | some t => simp only [Option.bind_some]; exact minorsC_append k0 m k r a b _
  ·rfl
theorem minorsC_part {k0 : Nat} {m : List (List Int)} {k : Int} {r : List Int} {xs pre : List (List Int)} {c : List Int} {out o rr : List ByteArray} (h : minorsC k0 m k r xs o = some rr) (hp : (pre ++ [c]) <+: xs) (h1 : minorsC k0 m k r pre o = some out) : ∃ t, checkM (partV m r c) = 0 ∧ table_reduce.f k0 (ratsV (partV m r c)) k = some t ∧ minorsC k0 m k r (pre ++ [c]) o = some (out ++ [t.2.1]) := by
 obtain ⟨rest, rfl⟩ := hp
 rw [minorsC_append] at h
 have e : minorsC k0 m k r (pre ++ [c]) o = minorsC k0 m k r [c] out := by rw [minorsC_append, h1]; rfl
 rw [e] at h
 cases hc : minorsC k0 m k r [c] out with
 | none => rw [hc] at h; cases h
 | some oc =>
  unfold minorsC at hc
  split at hc
  ·rename_i hck
   cases ht : table_reduce.f k0 (ratsV (partV m r c)) k with
   | none => rw [ht] at hc; cases hc
   | some t =>
    rw [ht] at hc
    simp only [Option.bind_some, minorsC] at hc
    exact ⟨t, hck, rfl, by rw [e]; unfold minorsC; rw [if_pos hck, ht, Option.bind_some]; rfl⟩
  ·cases hc
theorem columns_quiet (A0 : Option Addr) (c0 : Nat) (l0 : List (List Int)) (w : World) (n : Nat) (hr : Kd.C (Kd.slice 3 (Kd.int .i64)) w A0 l0.length l0) (hc : l0.length ≤ c0) :
  Calls Tryz.prog 72 #[.slice A0 l0.length c0] (w.drewN n) fun e w' => e = .returned (.int .i64 (colsM l0 : Int)) ∧ ∃ m, w' = (w.drewN n).drewN m :=
 (table_Columns.calls A0 c0 l0 (colsM l0 : Int) _ (Kd.C_drewN hr n) hc (columns_f l0)).mono fun e w' hq => ⟨hq.1, hq.2.out⟩
theorem choose_quiet (k : Nat) (a b r : Int) (w : World) (n : Nat) (h : table_choose.f k a b = some r) :
  Calls Tryz.prog 105 #[.int .i64 a, .int .i64 b] (w.drewN n) fun e w' => e = .returned (.int .i64 r) ∧ ∃ m, w' = (w.drewN n).drewN m :=
 (table_choose.calls k a b r _ h).mono fun e w' hq => ⟨hq.1, hq.2.out⟩
theorem postM_ret {F : Fence} {n : Nat} {P : Program} {fn : Func} {R : Ending → World → Prop} {a : Act} {w : World} {v : Value}
  (hr : (results fn a.tmps).run P w = .ok v w) (hd : a.defers = []) (hR : R (.returned v) w) : bodyPostM F n P fn R .ret a w := by
 show LeavesInM F n P fn a.tmps R a.defers .returning w
 rw [hd]; exact ⟨v, hr, hR⟩
set_option maxHeartbeats 8000000 in
set_option maxRecDepth 100000 in
theorem table_Minors.calls (k : Nat) (A0 : Option Addr) (c0 : Nat) (l0 : List (List Int)) (a1 : Int) (r1 : List ByteArray) (r2 : Int) (w : World) (hr0 : Kd.C (Kd.slice 3 (Kd.int .i64)) w A0 l0.length l0) (hc0 : l0.length ≤ c0) (hG : GW w) (h : table_Minors.f k l0 a1 = some (r1, r2)) :
  Calls Tryz.prog 33 #[.slice A0 l0.length c0, .int .i64 a1] w fun e w' => ∃ v0_ : Value, e = .returned (.tuple #[v0_, .int .i64 r2]) ∧ Kd.R Kd.string 26 w' w.heap.size (fun _ => True) v0_ r1 ∧ Below w.heap.size w w' := by
 have HG := Aside0.mk hG
 have HR0 := Aside0.mk hr0
 have HC0 := Aside0.mk hc0
 clear hG hr0 hc0
 unfold table_Minors.f at h
 have hxm0 : ((w.alloc (.cells #[.slice A0 l0.length c0] 23)).alloc (.cells #[.int .i64 a1] 3)).cell? ⟨w.heap.size, 0, none⟩ = some (.slice A0 l0.length c0) :=
  ((below_alloc (Below.refl _ _) _).cell (World.block_lt_of_cell? _ _ (blk_cell (heap_alloc_new _ _) 0))).trans (blk_cell (heap_alloc_new w _) 0)
 have hxk0 : ((w.alloc (.cells #[.slice A0 l0.length c0] 23)).alloc (.cells #[.int .i64 a1] 3)).cell? ⟨w.heap.size + 1, 0, none⟩ = some (.int .i64 a1) := by
  have := blk_cell (heap_alloc_new (w.alloc (.cells #[.slice A0 l0.length c0] 23)) (.cells #[.int .i64 a1] 3)) 0
  rwa [World.size_alloc] at this
 refine (callsIn_wide (n := 10)).1 ?_
 refine callsIn_of_wp_marks Tryz.func33 rfl trivial ?_ rfl
 simp only [Tryz.ntmps33, List.size_toArray, List.length_cons, List.length_nil, Nat.reduceAdd, Nat.reduceSub, Array.replicate_succ, Array.replicate_zero, List.push_toArray, List.append_toArray, List.nil_append, List.cons_append]
 refine wpIn_wide.2 ?_
 by_cases q1 : checkM l0 = 0
 ·rw [if_pos q1] at h
  have HCk1 := Aside0.mk q1
  clear q1
  go_wp2_with (first | (go_at_call 70; (refine (table_Check.calls A0 c0 l0 (checkM l0) _ (Kd.C_alloc (Kd.C_alloc HR0.out _) _) HC0.out rfl).mono ?_); rw [HCk1.out]; rintro e w1 ⟨rfl, hb⟩; have HR1 := Aside0.mk (Kd.C_below (Kd.C_alloc (Kd.C_alloc HR0.out _) _) hb); have HB := Aside0.mk (below_step (below_alloc (below_alloc (Below.refl w.heap.size w) _) _) hb); have hx1 := (hb.cell (World.block_lt_of_cell? _ _ hxm0)).trans hxm0; have hx2 := (hb.cell (World.block_lt_of_cell? _ _ hxk0)).trans hxk0; clear hb))
  clear hxm0 hxk0
  by_cases p1 : 0 ≤ a1
  ·by_cases p2 : a1 ≤ (l0.length : Int)
   ·by_cases p3 : a1 ≤ (colsM l0 : Int)
    ·rw [if_pos ⟨p1, p2, p3⟩] at h
     obtain ⟨ca, hca, h⟩ := Option.bind_eq_some_iff.mp h
     obtain ⟨cb, hcb, h⟩ := Option.bind_eq_some_iff.mp h
     have HCA := Aside0.mk hca
     have HCB := Aside0.mk hcb
     have p1b : decide (a1 < 0) = false := decide_eq_false (by omega)
     have p2b : decide (a1 > (l0.length : Int)) = false := decide_eq_false (by omega)
     have p3b : decide (a1 > (colsM l0 : Int)) = false := decide_eq_false (by omega)
     have p1c : ¬ a1 < 0 := by omega
     have p2c : ¬ (l0.length : Int) < a1 := by omega
     have p3c : ¬ (colsM l0 : Int) < a1 := by omega
     have HP := Aside0.mk (show 0 ≤ a1 ∧ a1 ≤ (l0.length : Int) ∧ a1 ≤ (colsM l0 : Int) from ⟨p1, p2, p3⟩)
     clear p1 p2 p3 hca hcb
     go_quiet (first | (go_at_call 72; refine Calls.quiet_of (columns_quiet A0 c0 l0 _ _ (by first | exact HR1.out | exact Kd.C_drewN HR1.out _) HC0.out)))
     go_wp2
     obtain ⟨W2, hW2⟩ : ∃ W, W = w1.drewN nq := ⟨_, rfl⟩
     have hb2 : Below w1.heap.size w1 W2 := by rw [hW2]; exact pw_below_drewN (Below.refl _ _) _
     have HR2 := Aside0.mk (Kd.C_below HR1.out hb2)
     have hx3 := (hb2.cell (World.block_lt_of_cell? _ _ hx1)).trans hx1
     have hx4 := (hb2.cell (World.block_lt_of_cell? _ _ hx2)).trans hx2
     have HB2 := Aside0.mk (below_step HB.out hb2)
     rw [← hW2]
     clear hb2 hW2 hx1 hx2
     by_cases p4 : wrap64 (ca * cb) > 1000
     ·rw [if_pos p4] at h
      obtain ⟨rfl, rfl⟩ : ([] : List ByteArray) = r1 ∧ (4 : Int) = r2 := by simpa using h
      have p4b : decide (wrap64 (ca * cb) > 1000) = true := decide_eq_true p4
      go_quiet (first | (go_at_call 72; refine Calls.quiet_of (columns_quiet A0 c0 l0 _ _ HR2.out HC0.out)) | (go_at_call_of 105 (Value.int IntKind.i64 (l0.length : Int)); refine Calls.quiet_of (choose_quiet k (l0.length : Int) a1 ca _ _ HCA.out)) | (go_at_call_of 105 (Value.int IntKind.i64 (colsM l0 : Int)); refine Calls.quiet_of (choose_quiet k (colsM l0 : Int) a1 cb _ _ HCB.out)))
      go_wp2
      (try simp only [Exit.inBlock, Exit.then])
      refine postM_ret (results_tmp2 rfl _ _ _) rfl ?_
      exact ⟨_, rfl, Kd.R_nil _ _ _ _ _, by repeat (first | (with_reducible first | exact HB2.out | apply below_alloc | apply pw_below_drewN | apply below_drew1) | exact HB2.out)⟩
     ·rw [if_neg p4] at h
      have p4b : decide (wrap64 (ca * cb) > 1000) = false := decide_eq_false p4
      go_quiet (first | (go_at_call 72; refine Calls.quiet_of (columns_quiet A0 c0 l0 _ _ HR2.out HC0.out)) | (go_at_call_of 105 (Value.int IntKind.i64 (l0.length : Int)); refine Calls.quiet_of (choose_quiet k (l0.length : Int) a1 ca _ _ HCA.out)) | (go_at_call_of 105 (Value.int IntKind.i64 (colsM l0 : Int)); refine Calls.quiet_of (choose_quiet k (colsM l0 : Int) a1 cb _ _ HCB.out)))
      obtain ⟨W3, hW3⟩ : ∃ W, W = W2.drewN nq := ⟨_, rfl⟩
      have hb3 : Below W2.heap.size W2 W3 := by rw [hW3]; exact pw_below_drewN (Below.refl _ _) _
      have HR3 := Aside0.mk (Kd.C_below HR2.out hb3)
      have hx5 := (hb3.cell (World.block_lt_of_cell? _ _ hx3)).trans hx3
      have hx6 := (hb3.cell (World.block_lt_of_cell? _ _ hx4)).trans hx4
      have HB3 := Aside0.mk (below_step HB2.out hb3)
      rw [← hW3]
      have hx7 : ∀ o, (W3.alloc o).cell? ⟨w.heap.size, 0, none⟩ = some (.slice A0 l0.length c0) := fun o => ((below_alloc (Below.refl W3.heap.size W3) o).cell (World.block_lt_of_cell? _ _ hx5)).trans hx5
      have hx8 : ∀ o, (W3.alloc o).cell? ⟨w.heap.size + 1, 0, none⟩ = some (.int .i64 a1) := fun o => ((below_alloc (Below.refl W3.heap.size W3) o).cell (World.block_lt_of_cell? _ _ hx6)).trans hx6
      clear hb3 hW3 hx3 hx4
      go_wp2_with (first | (go_at_call 106; (refine (sets_call (l0.length : Int) a1 _).mono ?_); rintro e w3 ⟨rfl, rfl⟩))
      obtain ⟨kk, rfl⟩ : ∃ kk : Nat, a1 = (kk : Int) := ⟨a1.toNat, by have := HP.out; omega⟩
      obtain ⟨hkn, hkc⟩ : kk ≤ l0.length ∧ kk ≤ colsM l0 := by have := HP.out; omega
      have hl12 : l0.length ≤ 12 := (checkM_ok HCk1.out).1
      have hc12 : colsM l0 ≤ 12 := cols_le HCk1.out
      obtain ⟨g7, hg7⟩ : ∃ g, g = W3.heap.size := ⟨_, rfl⟩
      obtain ⟨W4, hW4⟩ : ∃ W, W = ((W3.alloc (.cells #[.slice none 0 0] 40)).alloc (.cells #[.int .i64 l0.length] 3)).alloc (.cells #[.int .i64 kk] 3) := ⟨_, rfl⟩
      have hsz4 : W4.heap.size = g7 + 3 := by rw [hW4, hg7]; simp
      have hb4 : Below W3.heap.size W3 W4 := by rw [hW4]; exact below_alloc (below_alloc (below_alloc (Below.refl _ _) _) _) _
      have hn4 : W4.cell? ⟨g7 + 1, 0, none⟩ = some (.int .i64 l0.length) := by
       have h1 := blk_cell (heap_alloc_new (W3.alloc (.cells #[.slice none 0 0] 40)) (.cells #[.int .i64 l0.length] 3)) 0
       rw [World.size_alloc] at h1
       have h2 := ((below_alloc (Below.refl _ ((W3.alloc (.cells #[.slice none 0 0] 40)).alloc (.cells #[.int .i64 l0.length] 3))) (.cells #[.int .i64 kk] 3)).cell (World.block_lt_of_cell? _ _ h1)).trans h1
       rw [hW4, hg7]; exact h2
      have hk4 : W4.cell? ⟨g7 + 2, 0, none⟩ = some (.int .i64 kk) := by
       have h1 := blk_cell (heap_alloc_new ((W3.alloc (.cells #[.slice none 0 0] 40)).alloc (.cells #[.int .i64 l0.length] 3)) (.cells #[.int .i64 kk] 3)) 0
       rw [World.size_alloc, World.size_alloc] at h1
       rw [hW4, hg7]; exact h1
      have hbox4 : W4.heap[g7]? = some (.cells #[.slice none 0 0] 40 (0, 0)) := by
       rw [hW4, hg7]; exact (Below.heap_alloc _ _ _ (by simp; omega)).trans ((Below.heap_alloc _ _ _ (by simp)).trans (heap_alloc_new W3 _))
      rw [← hW4]
      simp only [World.size_alloc, ← hg7]
      have hlt7 : w.heap.size + 1 < g7 := by rw [hg7]; exact World.block_lt_of_cell? _ _ hx6
      rw [← hg7] at hb4
      have HG7 := Aside0.mk hg7
      clear hg7 hW4
      have hseq : ∀ o : Loop, Goes Fence.wide 9 Tryz.prog (W4.heap.size + 1) (g7 + 1) (W4.heap.size + 2) 1 (fun _ => #[.slice (some ⟨W4.heap.size + 2, 0, none⟩) kk kk]) (rowT (W4.heap.size + 2) kk) 171 #[.pointer (some ⟨g7 + 2, 0, none⟩), .pointer (some ⟨g7 + 1, 0, none⟩)] (Sets.sets l0.length kk) ((W4.alloc (.deferred (some []))).alloc (.loop o)) := by
       intro o
       have hb5 : Below W4.heap.size W4 ((W4.alloc (.deferred (some []))).alloc (.loop o)) := below_alloc (below_alloc (Below.refl _ _) _) _
       have h1 := sets_goes 9 (by decide) (W4.heap.size + 1) (g7 + 1) (g7 + 2) (g7 + 1) l0.length kk hl12 (by omega) ((W4.alloc (.deferred (some []))).alloc (.loop o)) (by omega) (Nat.le_refl _) ((hb5.cell (World.block_lt_of_cell? _ _ hk4)).trans hk4) ((hb5.cell (World.block_lt_of_cell? _ _ hn4)).trans hn4)
       rw [if_pos hkn] at h1
       simp only [World.size_alloc] at h1
       exact h1
      refine (wpIn_wide (n := 10)).1 ?_
      refine loop_outer (F := Fence.wide) (n := 10) (c := 1) (lo := g7 + 1) (w := W4) rfl (by decide) (gf := 171) rfl trivial (enters_of Tryz.func171 (by kernel_rfl) rfl) (fun _ => rfl) hseq (by omega)
       (fun pre W => ∃ (out : List ByteArray) (v : Value), minorsR k l0 (kk : Int) (Sets.sets (colsM l0) kk) pre [] = some out ∧ W.heap[g7]? = some (.cells #[v] 40 (0, 0)) ∧ Kd.R Kd.string 26 W g7 (fun q => W4.heap.size + 3 ≤ q) v out ∧ Below g7 W4 W)
       ?hI ?hT ?h0
       (fun x a' W => ∃ B : Nat, W4.heap.size + 3 ≤ B ∧ a' = { tmps := (mA A0 c0 kk l0 w.heap.size g7 B ca cb).toArray, defers := [] } ∧ W.heap[B]? = some (.cells #[.slice (some ⟨W4.heap.size + 2, 0, none⟩) kk kk] 50 (0, 0))) ?hAx ?assign ?body ?done
      case hI =>
       rintro s A B ⟨out, v, h1, h2, h3, h4⟩ hm
       refine ⟨out, v, h1, (hm.1.block g7 (by omega)).trans h2, Kd.R_step h3 (fun q hq hlt => ?_), h4.trans (hm.1.mono (by omega))⟩
       exact hm.2 q (by omega) hlt
      case hT => exact fun x A B h he => rowT_same h (he _ (Nat.le_refl _) (Nat.lt_succ_self _))
      case h0 => exact ⟨[], .slice none 0 0, rfl, hbox4, Kd.R_nil _ _ _ _ _, Below.refl _ _⟩
      case hAx =>
       rintro x a' A o ⟨B, hB, e, hh⟩
       exact ⟨B, hB, e, (World.putObj_heap_other (by omega)).trans hh⟩
      case done =>
       rintro W ⟨out, v, h1, h2, h3, h4⟩ hK
       have hv : W.cell? ⟨g7, 0, none⟩ = some v := blk_cell h2 0
       rw [Int.toNat_natCast, h1] at h
       obtain ⟨rfl, rfl⟩ : out = r1 ∧ (0 : Int) = r2 := by simpa using h
       have H2 := Aside0.mk h2
       have H3 := Aside0.mk h3
       have H4 := Aside0.mk h4
       clear h1 h2 h3 h4 h
       go_wp2
       refine ⟨by simp, .inl ⟨_, _, rfl, run_takeDeferred hK, ?_⟩⟩
       have e1 : w.heap.size ≤ g7 := by omega
       have hB : Below w.heap.size w W := HB3.out.trans ((hb4.mono e1).trans (H4.out.mono e1))
       refine ⟨_, results_tmp2 rfl _ _ _, v, rfl, ?_, ?_⟩
       ·exact Kd.R_mono (Kd.R_step (Kd.R_lower H3.out e1) (fun q hq _ => World.putObj_heap_other (by omega))) (fun _ _ => trivial)
       ·exact hB.trans ⟨rfl, rfl, rfl, by simp, fun q hq => World.putObj_heap_other (by omega)⟩
      case assign =>
       rintro pre x W K ⟨out, v, h1, h2, h3, h4⟩ hsz hT hK
       gi_wp2
       refine hK _ _ ⟨by simp, fun q hq1 hq2 => Below.heap_alloc _ _ _ (by omega)⟩ ⟨out, v, h1, (Below.heap_alloc _ _ _ (by omega)).trans h2, Kd.R_step h3 (fun q hq hlt => Below.heap_alloc _ _ _ hlt), h4.alloc (by omega) _⟩ ⟨W.heap.size, by omega, rfl, ?_⟩
       rw [hsz4]; exact heap_alloc_new _ _
      case body =>
       rintro pre x a' W hpre ⟨rec, hrec⟩ ⟨out, v, h1, h2, h3, h4⟩ hsz hT ⟨B, hB, rfl, hbx⟩
       have hg := HG7.out
       have hbW : Below W3.heap.size W3 W := by rw [← hg]; exact hb4.trans h4
       clear hg
       have HRW := Aside0.mk (Kd.C_below HR3.out hbW)
       have hmW := (hbW.cell (World.block_lt_of_cell? _ _ hx5)).trans hx5
       have hkW := (hbW.cell (World.block_lt_of_cell? _ _ hx6)).trans hx6
       have hxin : x ∈ Sets.sets l0.length kk := hpre.subset (by simp)
       have hxb : ∀ i ∈ x, 0 ≤ i ∧ i < (l0.length : Int) := fun i hi => by have := lex_bound l0.length 0 kk x hxin i hi; omega
       have hBlt : B < W.heap.size := (Array.getElem?_eq_some_iff.1 hbx).1
       have HXB := Aside0.mk hxb
       have H3 := Aside0.mk h3
       have H4 := Aside0.mk h4
       have H2 := Aside0.mk h2
       have HT := Aside0.mk hT
       have hall := h
       rw [Int.toNat_natCast] at hall
       obtain ⟨rr, hrr, -⟩ := Option.bind_eq_some_iff.mp hall
       obtain ⟨oc, hoc⟩ := minorsR_part hrr hpre h1
       have HOC := Aside0.mk hoc
       have H1 := Aside0.mk h1
       clear hall hrr hoc h1 h2 h3 h4 hT hxb hxin hbW h
       gi_wp2
       rename_i Kb hKb
       have key : ∀ nd : Nat, Kb { tmps := (mB A0 c0 kk l0 w.heap.size g7 B W.heap.size ca cb).toArray, defers := [] } (((W.drewN nd).alloc (.cells #[.int .i64 (colsM l0)] 3)).alloc (.cells #[.int .i64 kk] 3)) := by
        intro nd
        refine hKb _ _ ?_
        clear hKb Kb
        obtain ⟨W5, hW5⟩ : ∃ W5, W5 = (((W.drewN nd).alloc (.cells #[.int .i64 (colsM l0)] 3)).alloc (.cells #[.int .i64 kk] 3)) := ⟨_, rfl⟩
        have hsz5 : W5.heap.size = W.heap.size + 2 := by rw [hW5]; simp
        have hb5 : Below W.heap.size W W5 := by rw [hW5]; exact below_alloc (below_alloc (pw_below_drewN (Below.refl _ _) _) _) _
        have hn5 : W5.cell? ⟨W.heap.size, 0, none⟩ = some (.int .i64 (colsM l0)) := by
         have e1 := blk_cell (heap_alloc_new (W.drewN nd) (.cells #[.int .i64 (colsM l0)] 3)) 0
         have e2 := ((below_alloc (Below.refl _ ((W.drewN nd).alloc (.cells #[.int .i64 (colsM l0)] 3))) (.cells #[.int .i64 kk] 3)).cell (World.block_lt_of_cell? _ _ e1)).trans e1
         rw [hW5]; exact e2
        have hk5 : W5.cell? ⟨W.heap.size + 1, 0, none⟩ = some (.int .i64 kk) := by
         have e1 := blk_cell (heap_alloc_new ((W.drewN nd).alloc (.cells #[.int .i64 (colsM l0)] 3)) (.cells #[.int .i64 kk] 3)) 0
         rw [World.size_alloc] at e1
         rw [hW5]; exact e1
        rw [← hW5]
        clear hW5
        have hseq5 : ∀ o : Loop, Goes (Fence.wide.inRound (W4.heap.size + 1)) 7 Tryz.prog W5.heap.size W.heap.size (W5.heap.size + 1) 1 (fun _ => #[.slice (some ⟨W5.heap.size + 1, 0, none⟩) kk kk]) (rowT (W5.heap.size + 1) kk) 171 #[.pointer (some ⟨W.heap.size + 1, 0, none⟩), .pointer (some ⟨W.heap.size, 0, none⟩)] (Sets.sets (colsM l0) kk) (W5.alloc (.loop o)) := by
         intro o
         have hb6 : Below W5.heap.size W5 (W5.alloc (.loop o)) := below_alloc (Below.refl _ _) _
         have e1 := sets_goes 7 (by decide) W5.heap.size W.heap.size (W.heap.size + 1) W.heap.size (colsM l0) kk hc12 (by omega) (W5.alloc (.loop o)) (by omega) (Nat.le_refl _) ((hb6.cell (World.block_lt_of_cell? _ _ hk5)).trans hk5) ((hb6.cell (World.block_lt_of_cell? _ _ hn5)).trans hn5)
         rw [if_pos hkc] at e1
         simp only [World.size_alloc] at e1
         exact e1
        have hl5 : W5.heap[W4.heap.size + 1]? = some (.loop rec) := (hb5.block _ (Array.getElem?_eq_some_iff.1 hrec).1).trans hrec
        have hbx5 : W5.heap[B]? = W.heap[B]? := hb5.block B hBlt
        have HSZ5 := Aside0.mk hsz5
        have hlo5 : W.heap.size ≤ W5.heap.size := by omega
        clear hsz5
        simp only [mB, mA, List.set_cons_succ, List.set_cons_zero]
        gi_wp2
        refine loop_inner (F := Fence.wide.inRound (W4.heap.size + 1)) (n := 10 - 1 - 1) (l₀ := W4.heap.size + 1) (r₀ := rec) (c := 1) (lo := W.heap.size) (w := W5) rfl hl5 (by decide) (gf := 171) rfl trivial (enters_of Tryz.func171 (by kernel_rfl) rfl) (fun _ => rfl) hseq5 hlo5
         (fun cpre W' => ∃ (out' : List ByteArray) (v' : Value), minorsC k l0 (kk : Int) x cpre out = some out' ∧ W'.heap[g7]? = some (.cells #[v'] 40 (0, 0)) ∧ Kd.R Kd.string 26 W' g7 (fun q => (W4.heap.size + 3 ≤ q ∧ (q < W.heap.size ∨ W5.heap.size + 2 ≤ q)) ∧ q ≠ B) v' out' ∧ Below g7 W W' ∧ Kept (g7 + 1) (W4.heap.size + 3) W W' ∧ W'.heap[B]? = W.heap[B]?)
         ?hI ?hT ?h0
         (fun x2 a' W' => a' = { tmps := (((mB A0 c0 kk l0 w.heap.size g7 B W.heap.size ca cb).set 56 (.slice (some ⟨W5.heap.size + 1, 0, none⟩) kk kk)).set 9 (.slice (some ⟨W5.heap.size + 1, 0, none⟩) kk kk)).toArray, defers := [] }) ?hAx ?assign ?body ?done
        case hI =>
         have hsz5 := HSZ5.out
         rintro s A B' ⟨out', v', i1, i2, i3, i4, i5, i6⟩ hm
         refine ⟨out', v', i1, (hm.1.block g7 (by omega)).trans i2, Kd.R_step i3 (fun q hq hlt => ?_), i4.trans (hm.1.mono (by omega)), i5.trans ⟨hm.1.size, fun q _ hq => hm.1.block q (by omega)⟩, (hm.1.block B (by omega)).trans i6⟩
         rcases hq.1.2 with hq | hq
         ·exact hm.1.block q (by omega)
         ·exact hm.2 q (by omega) hlt
        case hT => exact fun x A B h he => rowT_same h (he _ (Nat.le_refl _) (Nat.lt_succ_self _))
        case h0 =>
         have hsz5 := HSZ5.out
         refine ⟨out, v, rfl, (hb5.block g7 (by omega)).trans H2.out, ?_, hb5.mono (by omega), ⟨by omega, fun q _ hq => hb5.block q (by omega)⟩, hbx5⟩
         have r1 := Kd.R_apart' (v := .slice (some ⟨B, 0, none⟩) 0 0) H3.out (fun q hq => by
          have : B = q := by simpa [Value.ownBlock] using hq
          subst this; exact ⟨_, hbx⟩) (by decide)
         have r2 := Kd.R_lt H3.out
         have r3 := Kd.R_mono (Kd.R_tight rfl r1) (ok' := fun q => (W4.heap.size + 3 ≤ q ∧ (q < W.heap.size ∨ W5.heap.size + 2 ≤ q)) ∧ q ≠ B) (fun q hq => ⟨⟨(r1.1 q hq.symm).1, .inl (r2 q hq.symm)⟩, fun e => (r1.1 q hq.symm).2 (by simp [Value.ownBlock, e])⟩)
         exact Kd.R_step r3 (fun q hq hlt => hb5.block q hlt)
        case hAx => exact fun _ _ _ _ h => h
        case assign =>
         rintro cpre c W' K hI hsz hT hK
         gi_wp2
         exact hK _ _ (Kept.refl _ _ _) hI rfl
        case done =>
         have hsz5 := HSZ5.out
         rintro W' ⟨out', v', i1, i2, i3, i4, i5, i6⟩
         exact ⟨⟨i5.1, i5.2⟩, out', v', by rw [minorsR_snoc, H1.out, Option.bind_some, i1], i2, Kd.R_mono i3 (fun q hq => hq.1.1), H4.out.trans i4⟩
        case body =>
         have hsz5 := HSZ5.out
         rintro cpre c a' Wr hcpre - ⟨out', v', i1, i2, i3, i4, i5, i6⟩ hszr hTc rfl
         obtain ⟨⟨tl, tn, td, tm⟩, hck, hred, hsn⟩ := minorsC_part HOC.out hcpre i1
         have HCK := Aside0.mk hck
         have HRED := Aside0.mk hred
         have HSN := Aside0.mk hsn
         have hcin : c ∈ Sets.sets (colsM l0) kk := hcpre.subset (by simp)
         have hcb : ∀ i ∈ c, 0 ≤ i ∧ i < (colsM l0 : Int) := fun i hi => by have := lex_bound (colsM l0) 0 kk c hcin i hi; omega
         have HCB2 := Aside0.mk hcb
         have hg := HG7.out
         have hbr3 : Below W3.heap.size W3 Wr := by rw [← hg]; exact hb4.trans (H4.out.trans i4)
         clear hg
         have HRr := Aside0.mk (Kd.C_below HR3.out hbr3)
         have hmr := (hbr3.cell (World.block_lt_of_cell? _ _ hx5)).trans hx5
         have hkr := (hbr3.cell (World.block_lt_of_cell? _ _ hx6)).trans hx6
         have hxr : Wr.cell? ⟨B, 0, none⟩ = some (.slice (some ⟨W4.heap.size + 2, 0, none⟩) kk kk) := blk_cell (i6.trans hbx) 0
         have HBW := Aside0.mk (show Below w.heap.size w Wr from HB3.out.trans (hbr3.mono (by have := below_size HB3.out; omega)))
         have hor : Wr.cell? ⟨g7, 0, none⟩ = some v' := blk_cell i2 0
         have hTx : rowT (W4.heap.size + 2) kk x Wr := rowT_same HT.out (i5.2 _ (by omega) (by omega))
         have HTX := Aside0.mk hTx
         have HTC := Aside0.mk hTc
         have HI1 := Aside0.mk i1
         have HI2 := Aside0.mk i2
         have HI3 := Aside0.mk i3
         have HI4 := Aside0.mk i4
         have HI5 := Aside0.mk i5
         have HI6 := Aside0.mk i6
         have HSZr := Aside0.mk hszr
         have HOL := Aside0.mk (show (out'.length + 1) * 16 ≤ 140737488355328 from by
          have e1 := minorsC_len i1
          have e2 := minorsR_len H1.out
          have e3 := hcpre.length_le
          have e4 := hpre.length_le
          have e5 : (Sets.sets (colsM l0) kk).length ≤ 1000 := sets_len ⟨colsM l0, by omega⟩ ⟨kk, by omega⟩
          have e6 : (Sets.sets l0.length kk).length ≤ 1000 := sets_len ⟨l0.length, by omega⟩ ⟨kk, by omega⟩
          simp only [List.length_append, List.length_cons, List.length_nil] at e3 e4 e2
          have e7 : pre.length * (Sets.sets (colsM l0) kk).length ≤ 1000 * 1000 := Nat.mul_le_mul (by omega) e5
          omega)
         have hbW4 : B < Wr.heap.size := (Array.getElem?_eq_some_iff.1 (i6.trans hbx)).1
         clear hck hred hsn hcin hcb hbr3 hTx hTc i1 i2 i3 i4 i5 i6 hszr hsz5
         simp only [mB, mA, List.set_cons_succ, List.set_cons_zero]
         gi_wp2
         gi_loopg [10, 59] (kk + 1) (fun kq v10 v59 w' => ∃ (i : Nat), v59 = .int .i64 i ∧ Aside0 (i ≤ kk) ∧ Aside0 (kk - i + 1 ≤ kq) ∧ Aside0 (Kd.S (Kd.slice 3 (Kd.int .i64)) 51 w' Wr.heap.size (fun _ => True) v10 (partV l0 (x.take i) c)) ∧ Aside0 (Below Wr.heap.size Wr w'))
         case atStart => exact ⟨0, rfl, ⟨Nat.zero_le _⟩, ⟨by omega⟩, ⟨Kd.S_nil _ _ _ _ _⟩, ⟨Below.refl _ _⟩⟩
         case round =>
          obtain ⟨i, rfl, HI, HK, HO, HB⟩ := hrel
          by_cases ci : i < kk
          ·obtain ⟨k1, rfl⟩ : ∃ k1, gk = k1 + 1 := ⟨gk - 1, by have := HK.out; omega⟩
           obtain ⟨hx, -⟩ := Kd.R_celln (0 : Int) HTX.out.2 (i : Int) (by omega) (by omega)
           simp only [Int.toNat_natCast] at hx
           obtain ⟨q, hq⟩ : ∃ q, q = rdOf (0 : Int) x (i : Int) := ⟨_, rfl⟩
           rw [← hq] at hx
           have hql : x.length = kk := HTX.out.1
           have hq2 : q = x.getD i 0 := by rw [hq]; simp [rdOf]
           have hqb := HXB.out q (by rw [hq2, List.getD_eq_getElem?_getD, List.getElem?_eq_getElem (by omega), Option.getD_some]; exact List.getElem_mem _)
           have hq0 : 0 ≤ q := hqb.1
           have hq1 : q < (l0.length : Int) := hqb.2
           obtain ⟨ad1, A1, c1, e1, hx1, hl1, hi1⟩ := at_L1 HRr.out q hq0 hq1
           cases e1
           have hxq := (HB.out.cell (World.block_lt_of_cell? _ _ hx)).trans hx
           have hx1q := (HB.out.cell (World.block_lt_of_cell? _ _ hx1)).trans hx1
           have hmq := (HB.out.cell (World.block_lt_of_cell? _ _ hmr)).trans hmr
           have hik : (i : Int) < (kk : Int) := by omega
           have HR1 := Aside0.mk hi1
           have HCI := Aside0.mk ci
           have hrl : (rd_L1 l0 q).length = colsM l0 := by
            have := (checkM_ok HCk1.out).2 (rd_L1 l0 q) (by
             rw [rd_L1, List.getD_eq_getElem?_getD, List.getElem?_eq_getElem (by omega)]; exact List.getElem_mem _)
            exact this.2.1
           have HRL := Aside0.mk hrl
           have HQ2 := Aside0.mk hq2
           have HQL := Aside0.mk hql
           clear hq hq2 hqb hi1 hx hrl hql ci
           rw [hsz4] at hxq
           gi_wp2
           gi_loopg [13, 65] (kk + 1) (fun kq v13 v65 w' => ∃ (j : Nat), v65 = .int .i64 j ∧ Aside0 (j ≤ kk) ∧ Aside0 (kk - j + 1 ≤ kq) ∧ Aside0 (Kd.S (Kd.slice 3 (Kd.int .i64)) 51 w' Wr.heap.size (fun k_ => some k_ ≠ (v13 : Value).ownBlock) u10 (partV l0 (x.take i) c)) ∧ Aside0 (Kd.R (Kd.int .i64) 3 w' Wr.heap.size (fun _ => True) v13 ((c.take j).map fun j => rd (rd_L1 l0 q) j)) ∧ Aside0 (Below Wr.heap.size Wr w'))
           case atStart => exact ⟨0, rfl, ⟨Nat.zero_le _⟩, ⟨by omega⟩, ⟨Kd.S_mono HO.out (fun _ hk => (by simp [Value.ownBlock]))⟩, ⟨Kd.R_nil _ _ _ _ _⟩, ⟨HB.out⟩⟩
           case round =>
            clear HB HO hxq hx1q hmq
            obtain ⟨j, rfl, HJ1, HJ2, HO, HL, HB⟩ := hrel
            by_cases cj : j < kk
            ·obtain ⟨j1, rfl⟩ : ∃ j1, gk = j1 + 1 := ⟨gk - 1, by have := HJ2.out; omega⟩
             obtain ⟨hy, -⟩ := Kd.R_celln (0 : Int) HTC.out.2 (j : Int) (by omega) (by omega)
             simp only [Int.toNat_natCast] at hy
             obtain ⟨p, hp⟩ : ∃ p, p = rdOf (0 : Int) c (j : Int) := ⟨_, rfl⟩
             rw [← hp] at hy
             have hpl : c.length = kk := HTC.out.1
             have hp2 : p = c.getD j 0 := by rw [hp]; simp [rdOf]
             have hpb := HCB2.out p (by rw [hp2, List.getD_eq_getElem?_getD, List.getElem?_eq_getElem (by omega), Option.getD_some]; exact List.getElem_mem _)
             have hp0 : 0 ≤ p := hpb.1
             have hp1 : p < ((rd_L1 l0 q).length : Int) := by rw [HRL.out]; exact hpb.2
             obtain ⟨ad2, e2, hx2⟩ := Kd.at_int HR1.out p hp0 hp1
             cases e2
             have hyq := (HB.out.cell (World.block_lt_of_cell? _ _ hy)).trans hy
             have hx1q := (HB.out.cell (World.block_lt_of_cell? _ _ hx1)).trans hx1
             have hx2q := (HB.out.cell (World.block_lt_of_cell? _ _ hx2)).trans hx2
             have hmq := (HB.out.cell (World.block_lt_of_cell? _ _ hmr)).trans hmr
             have hjk : (j : Int) < (kk : Int) := by omega
             have HCJ := Aside0.mk cj
             have HP2 := Aside0.mk hp2
             have HPL := Aside0.mk hpl
             have HM := Aside0.mk (show (c.take (j + 1)).map (fun j => rd (rd_L1 l0 q) j) = (c.take j).map (fun j => rd (rd_L1 l0 q) j) ++ [rd (rd_L1 l0 q) p] from by
              rw [List.take_add_one, List.map_append, List.getElem?_eq_getElem (by omega), hp2, List.getD_eq_getElem?_getD, List.getElem?_eq_getElem (by omega)]; rfl)
             have HLen := Aside0.mk (show ((c.take j).map fun j => rd (rd_L1 l0 q) j).length ≤ 1000 from by rw [List.length_map, List.length_take]; omega)
             clear hp hp2 hpb hy hx2 hpl cj
             gi_upto_region 21 with fail
             refine region_lift (l := W5.heap.size) (by rintro ⟨_, _, h⟩; exact h) rfl ?_
             go_wp2_with (first | ((with_reducible refine gate_builtin (b := .append) (xs := #[.tmp 69, .tmp 77]) rfl ?_); at_builtin; refine Kd.R_append (Kd.int .i64) (w0 := Wr) Wr.heap.size rfl (.tmp 69) (.tmp 77) 51 3 (.int .i64 0) 8 rfl Tryz.underlying51 info3 rfl (by decide) (by omega) u13 ((c.take j).map fun j => rd (rd_L1 l0 q) j) (rd (rd_L1 l0 q) p) [.int .i64 (rd (rd_L1 l0 q) p)] (fun _ => True) (fun _ => False) rfl rfl ?aP (fun _ hk => hk.elim) ?aF ?aO ?aB ?aS ?aL ?_; (case aP => exact rfl); (case aB => exact (bl HB.out)); (case aF => exact (fun _ _ => trivial)); (case aO => exact (rx HL.out)); (case aS => exact (below_size (bl HB.out))); (case aL => have := HLen.out; omega); intro v981 w13 ho hb hg hat; rw [← HM.out] at ho; have n0_ := Aside0.mk (Kd.S_after (ok := (fun _ => True)) (by (with_reducible repeat (first | apply Kd.S_alloc | apply Kd.S_drewN | apply Kd.S_drew)); exact Kd.S_mono HO.out (fun _ hk => ⟨trivial, hk⟩)) hg hat); have n1_ := Aside0.mk (hb); have n2_ := Aside0.mk (ho); clear HO HB HL; have HO := n0_; have HB := n1_; have HL := n2_; clear n0_ n1_ n2_; clear ho hb hg hat))
             gi_wp2
             go_roundg j1
             case measure => exact Nat.lt_succ_self _
             case rel => exact ⟨j + 1, by go_num, ⟨by have := HCJ.out; omega⟩, ⟨by have := HJ2.out; have := HCJ.out; omega⟩, ⟨by (with_reducible repeat (first | apply Kd.S_alloc | apply Kd.S_drewN | apply Kd.S_drew)); exact Kd.S_mono HO.out (fun _ hk => hk.2)⟩, ⟨by (with_reducible repeat (first | apply Kd.R_alloc | apply Kd.R_drewN | apply Kd.R_drew)); exact HL.out⟩, ⟨(bl HB.out)⟩⟩
            ·obtain rfl : j = kk := by have := HJ1.out; omega
             have hjj : ¬ (j : Int) < (j : Int) := by omega
             have HM := Aside0.mk (show partV l0 (x.take (i + 1)) c = partV l0 (x.take i) c ++ [c.map fun j => rd (rd_L1 l0 q) j] from by
              rw [partV, partV, List.take_add_one, List.map_append, List.getElem?_eq_getElem (by have := HQL.out; have := HCI.out; omega), HQ2.out, List.getD_eq_getElem?_getD, List.getElem?_eq_getElem (by have := HQL.out; have := HCI.out; omega)]; rfl)
             have HLen := Aside0.mk (show (partV l0 (x.take i) c).length ≤ 1000 from by rw [partV, List.length_map, List.length_take]; have := HCI.out; omega)
             rw [List.take_of_length_le (by rw [HTC.out.1]; omega)] at HL
             obtain ⟨rw_, hrw⟩ : ∃ r, r = c.map fun j => rd (rd_L1 l0 q) j := ⟨_, rfl⟩
             rw [← hrw] at HL HM
             clear hrw cj
             obtain ⟨Ao, co, eo⟩ := Kd.R_slice HL.out
             subst eo
             gi_upto_region 23 with fail
             refine region_lift (l := W5.heap.size) (by rintro ⟨_, _, h⟩; exact h) rfl ?_
             go_wp2_with (first | ((with_reducible refine gate_builtin (b := .append) (xs := #[.tmp 80, .tmp 82]) rfl ?_); at_builtin; refine Kd.S_append (Kd.slice 3 (Kd.int .i64)) (w0 := Wr) Wr.heap.size rfl (.tmp 80) (.tmp 82) 23 51 (.slice none 0 0) 24 rfl Tryz.underlying23 info51 rfl (by decide) (by omega) u10 (partV l0 (x.take i) c) rw_ [.slice Ao rw_.length co] (fun _ => True) (fun k_ => some k_ = (.slice Ao rw_.length co : Value).ownBlock) rfl rfl ?aP (fun k_ hk_ => ((Kd.R_mono (ok' := fun k_ => ((fun _ => True)) k_ ∧ some k_ ≠ (u10 : Value).ownBlock) (Kd.R_apart' (HL.out) (Kd.S_typed HO.out) (by decide)) (fun k_ hk => ⟨trivial, hk.2⟩))).1 k_ hk_.symm) ?aF ?aO ?aB ?aS ?aL ?_; (case aP => exact Kd.M_row (Kd.R_mono (Kd.R_tight rfl (Kd.R_mono (ok' := fun k_ => ((fun _ => True)) k_ ∧ some k_ ≠ (u10 : Value).ownBlock) (Kd.R_apart' (HL.out) (Kd.S_typed HO.out) (by decide)) (fun k_ hk => ⟨trivial, hk.2⟩))) (fun _ h_ => h_))); (case aB => exact (bl HB.out)); (case aF => exact (fun _ _ => trivial)); (case aO => exact (by (with_reducible repeat (first | apply Kd.S_alloc | apply Kd.S_drewN | apply Kd.S_drew)); exact Kd.S_mono HO.out (fun k_ hk => ⟨trivial, fun e_ => hk e_⟩))); (case aS => exact (below_size (bl HB.out))); (case aL => have := HLen.out; omega); intro v984 w15 ho hb hg hat; rw [← HM.out] at ho; have n0_ := Aside0.mk (hb); have n1_ := Aside0.mk (ho); clear HB HO HL; have HB := n0_; have HO := n1_; clear n0_ n1_; clear ho hb hg hat))
             gi_wp2
             go_roundg k1
             case measure => exact Nat.lt_succ_self _
             case rel => exact ⟨i + 1, by go_num, ⟨by have := HCI.out; omega⟩, ⟨by have := HK.out; have := HCI.out; omega⟩, ⟨by (with_reducible repeat (first | apply Kd.S_alloc | apply Kd.S_drewN | apply Kd.S_drew)); exact HO.out⟩, ⟨(bl HB.out)⟩⟩
          ·obtain rfl : kk = i := by have := HI.out; omega
           have hii : ¬ (kk : Int) < (kk : Int) := by omega
           rw [List.take_of_length_le (by rw [HTX.out.1]; omega)] at HO
           have HBz := Aside0.mk (HBW.out.trans (HB.out.mono (below_size HBW.out)))
           have HGr := Aside0.mk (GW.below HG.out HBW.out)
           have hkz := (HB.out.cell (World.block_lt_of_cell? _ _ hkr)).trans hkr
           have hkza : ∀ o, (wr.alloc o).cell? ⟨w.heap.size + 1, 0, none⟩ = some (.int .i64 kk) := fun o => ((below_alloc (Below.refl wr.heap.size wr) o).cell (World.block_lt_of_cell? _ _ hkz)).trans hkz
           obtain ⟨Ap, cp, ep⟩ := Kd.S_slice HO.out
           subst ep
           clear ci HI HK
           gi_upto_region 25 with fail
           rename_i Kr hKr
           refine (show ∀ L : List Value, L = _ → Code.wpIn _ _ _ _ _ ⟨L.toArray, []⟩ _ from ?_) _ rfl
           intro L hL
           have tail_ : ∀ (v86 v87 v89 v85 v90 v91 v16 : Value) (D : Nat) (Wf : World), Below Wr.heap.size Wr Wf → Wf.cell? ⟨D, 0, none⟩ = some (.string tn) →
             Kr { tmps := (((((((((L.set 86 v86).set 87 v87).set 88 (.int .i64 kk)).set 89 v89).set 85 v85).set 90 v90).set 91 v91).set 16 v16).set 17 (.pointer (some ⟨D, 0, none⟩))).toArray, defers := [] } Wf := by
            subst hL
            intro v86 v87 v89 v85 v90 v91 v16 D Wf hBf hd0
            refine hKr _ _ ?_
            clear hKr Kr hkza hkz hii HGr HBz HO HB
            simp only [List.set_cons_succ, List.set_cons_zero]
            have hg7 : g7 < Wr.heap.size := World.block_lt_of_cell? _ _ hor
            have hgf : Wf.heap[g7]? = some (.cells #[v'] 40 (0, 0)) := (hBf.block g7 hg7).trans HI2.out
            have hof : Wf.cell? ⟨g7, 0, none⟩ = some v' := blk_cell hgf 0
            have HRf := Aside0.mk (Kd.R_step HI3.out (fun q hq hlt => hBf.block q hlt))
            have HBW2 := Aside0.mk (show Below g7 W Wf from HI4.out.trans (hBf.mono (Nat.le_of_lt hg7)))
            have HGF := Aside0.mk hgf
            have HBF := Aside0.mk hBf
            have hsf := hBf.size
            have HLS := Aside0.mk (show W5.heap.size + 2 ≤ Wf.heap.size ∧ W4.heap.size + 3 ≤ Wf.heap.size ∧ B < Wf.heap.size ∧ g7 < Wf.heap.size from by
             have := HSZr.out; have := HSZ5.out; omega)
            obtain ⟨on, hon⟩ : ∃ l, l = out' ++ [tn] := ⟨_, rfl⟩
            have HON := Aside0.mk hon
            clear hgf hBf hon
            refine region_lift (l := W5.heap.size) (by rintro ⟨_, _, h⟩; exact h) rfl ?_
            go_wp2_with (first | ((with_reducible refine gate_builtin (b := .append) (xs := #[.tmp 92, .tmp 95]) rfl ?_); at_builtin; refine Kd.R_append Kd.string (w0 := W) g7 rfl (.tmp 92) (.tmp 95) 40 26 (.string ⟨#[]⟩) 16 rfl Tryz.underlying40 info26 rfl (by decide) (by omega) v' out' tn [.string tn] (fun q => (W4.heap.size + 3 ≤ q ∧ (q < W.heap.size ∨ W5.heap.size + 2 ≤ q)) ∧ q ≠ B) (fun _ => False) rfl rfl ?aP (fun _ hk => hk.elim) ?aF ?aO ?aB ?aS ?aL ?_; (case aP => exact rfl); (case aB => exact HBW2.out); (case aF => exact (fun q hq => ⟨⟨by have := HLS.out; omega, Or.inr (by have := HLS.out; omega)⟩, by have := HLS.out; omega⟩)); (case aO => exact HRf.out); (case aS => exact Nat.le_of_lt HLS.out.2.2.2); (case aL => exact HOL.out); intro v1 w15 ho hb hg hat; rw [← HON.out] at ho; obtain ⟨An, cn, en⟩ := Kd.R_slice ho; subst en; have hne := Kd.R_ne HRf.out HGF.out (by decide); have hg15 : w15.heap[g7]? = some (.cells #[v'] 40 (0, 0)) := (hg.block g7 HLS.out.2.2.2 hne).trans HGF.out; have hc15 : w15.cell? ⟨g7, 0, none⟩ = some v' := blk_cell hg15 0; have hf15 : w15.frozen? ⟨g7, 0, none⟩ = false := (by simp [World.frozen?, hg15]); have HO15 := Aside0.mk ho; have HB15 := Aside0.mk hb; have HG15 := Aside0.mk hg; have HH15 := Aside0.mk hg15; clear ho hb hg hat hg15 hne))
            have hsz5 := HSZ5.out
            have hszr := HSZr.out
            have hkeep : ∀ q, q < Wr.heap.size → q ≠ g7 → some q ≠ v'.ownBlock → (w15.setCell ⟨g7, 0, none⟩ (.slice An on.length cn)).heap[q]? = Wr.heap[q]? := fun q h1 h2 h3 =>
             (Below.heap_setCell w15 ⟨g7, 0, none⟩ (.slice An on.length cn) q h2).trans ((HG15.out.block q (by omega) h3).trans (HBF.out.block q h1))
            have hown : ∀ q, v'.ownBlock = some q → (W4.heap.size + 3 ≤ q ∧ (q < W.heap.size ∨ W5.heap.size + 2 ≤ q)) ∧ q ≠ B := HRf.out.1
            have hszf : Wr.heap.size ≤ (w15.setCell ⟨g7, 0, none⟩ (.slice An on.length cn)).heap.size := by
             have := HG15.out.size
             simp [World.setCell]; omega
            have hlg : g7 < W.heap.size := by omega
            refine ⟨⟨hszf, fun q h1 h2 => hkeep q (by omega) (by omega) (fun e => by have := hown q e.symm; omega)⟩, on, .slice An on.length cn, HON.out ▸ HSN.out, one_setCell HH15.out, Kd.R_set HO15.out HH15.out (by decide) 0 _, HB15.out.setCell (Nat.le_refl _) _,
             ⟨Nat.le_trans HI5.out.1 hszf, fun q h1 h2 => (hkeep q (by omega) (by omega) (fun e => by have := hown q e.symm; omega)).trans (HI5.out.2 q h1 h2)⟩,
             (hkeep B hbW4 (by omega) (fun e => by have := hown B e.symm; omega)).trans HI6.out⟩
           subst hL
           refine wpIn_region_any (by kernel_rfl) (any_lift (l := W5.heap.size) ?hno (noDefer_spec (by rfl)) _ _ _ _ ?_)
           case hno => rintro ⟨_, _, h⟩; exact h
           change wpAny _ _ _ _ _ _ _ (World.drew _)
           refine wpAny_take (i := 0) (v := ?_) rfl (by kernel_rfl) (by kernel_rfl) (by kernel_rfl) (fun _ _ _ h => h) (Or.inl ⟨by rfl, ?_⟩) ?_
           rotate_left 1
           ·intro w; go_simp; (try with_reducible rfl)
           (try dsimp only [Act.put, List.setIfInBounds_toArray, List.set_cons_succ, List.set_cons_zero])
           refine wpAny_ready (rs := [1, 2, 7]) (by kernel_rfl) (by simp) ?_
           refine AllReady.cons rfl (fun K hK => ?_) ?_
           ·go_simp
            go_wp2_with (first | (go_at_call 94; refine (rats_call Ap cp (partV l0 x c) _ (by repeat (first | exact (Kd.S_reads' HO.out).2.2 | (with_reducible refine Kd.C_alloc ?_ _) | (with_reducible refine Kd.C_drewN ?_ _) | (with_reducible refine Kd.C_drew ?_))) (Kd.S_reads' HO.out).2.1 (GW.below HG.out (bl HBz.out)) HCK.out).mono ?_; rintro e w3 ⟨vr, rfl, hS, hb⟩; have HB3 := Aside0.mk (below_step (bl HB.out) hb); have HS := Aside0.mk (Kd.S_mono (ok' := fun k_ => wr.heap.size ≤ k_ ∧ k_ < w3.heap.size) (Kd.S_lower (Kd.S_bound hS) (below_size (bl HB.out))) (fun k_ hk_ => ⟨hk_.2.1, hk_.2.2.1⟩)); have hk3 := (HB3.out.cell (World.block_lt_of_cell? _ _ hkr)).trans hkr; have hk3a : ∀ o, (w3.alloc o).cell? ⟨w.heap.size + 1, 0, none⟩ = some (.int .i64 kk) := fun o => ((below_alloc (Below.refl w3.heap.size w3) o).cell (World.block_lt_of_cell? _ _ hk3)).trans hk3; clear hS hb; obtain ⟨Ar, cr, er⟩ := Kd.S_slice HS.out; subst er))
            refine wpAny_ready (rs := [2, 7]) (by kernel_rfl) (by simp) ?_
            refine AllReady.cons rfl (fun K hK => ?_) ?_
            ·go_simp
             refine hK _ _ ?_
             clear hK K
             refine wpAny_ready (rs := [3, 7]) (by kernel_rfl) (by simp) ?_
             refine AllReady.cons rfl (fun K hK => ?_) ?_
             ·go_simp
              go_wp2_with (first | (go_at_call 93; refine (table_reduce.calls k (fun k_ => wr.heap.size ≤ k_ ∧ k_ < w3.heap.size) _ _ (kk : Int) tl tn td tm Wr _ (bl HB3.out) (sx HS.out) HGr.out HRED.out).mono ?_; rintro e w4 ⟨vl, rfl, hl, -, hb, hkp⟩; have HB4 := Aside0.mk hb; clear hb hkp; obtain ⟨Al, cl, el⟩ := Kd.R_slice hl; subst el; clear hl))
              refine wpAny_take (i := 4) (v := ?_) rfl (by kernel_rfl) (by kernel_rfl) (by kernel_rfl) (fun _ _ _ h => h) (Or.inl ⟨by rfl, ?_⟩) ?_
              rotate_left 1
              ·intro w; go_simp; (try with_reducible rfl)
              (try dsimp only [Act.put, List.setIfInBounds_toArray, List.set_cons_succ, List.set_cons_zero])
              refine wpAny_take (i := 5) (v := ?_) rfl (by kernel_rfl) (by kernel_rfl) (by kernel_rfl) (fun _ _ _ h => h) (Or.inl ⟨by rfl, ?_⟩) ?_
              rotate_left 1
              ·intro w; go_simp; (try with_reducible rfl)
              (try dsimp only [Act.put, List.setIfInBounds_toArray, List.set_cons_succ, List.set_cons_zero])
              refine wpAny_take (i := 6) (v := ?_) rfl (by kernel_rfl) (by kernel_rfl) (by kernel_rfl) (fun _ _ _ h => h) (Or.inl ⟨by rfl, ?_⟩) ?_
              rotate_left 1
              ·intro w; go_simp; (try with_reducible rfl)
              (try dsimp only [Act.put, List.setIfInBounds_toArray, List.set_cons_succ, List.set_cons_zero])
              refine wpAny_ready (rs := [7]) (by kernel_rfl) (by simp) ?_
              refine AllReady.cons rfl (fun K hK => ?_) ?_
              ·go_simp
               refine hK _ _ ?_
               clear hK K
               refine wpAny_take (i := 8) (v := ?_) rfl (by kernel_rfl) (by kernel_rfl) (by kernel_rfl) (fun _ _ _ h => h) (Or.inl ⟨by rfl, ?_⟩) ?_
               rotate_left 1
               ·intro w; go_simp; (try with_reducible rfl)
               (try dsimp only [Act.put, List.setIfInBounds_toArray, List.set_cons_succ, List.set_cons_zero])
               refine wpAny_ready (rs := [9]) (by kernel_rfl) (by simp) ?_
               refine AllReady.cons rfl (fun K hK => ?_) ?_
               ·go_simp
                refine hK _ _ ?_
                clear hK K
                refine wpAny_done (by kernel_rfl) ?_ _
                obtain ⟨Wf, hWf⟩ : ∃ Wf, Wf = w4.alloc (.cells #[.string tn, .string td] 103) := ⟨_, rfl⟩
                have hBf : Below Wr.heap.size Wr Wf := by rw [hWf]; exact HB4.out.alloc (below_size HB4.out) _
                have hDf : Wf.heap[w4.heap.size]? = some (.cells #[.string tn, .string td] 103 (0, 0)) := by rw [hWf]; exact heap_alloc_new _ _
                rw [← hWf]
                have hd0 : Wf.cell? ⟨w4.heap.size, 0, none⟩ = some (.string tn) := blk_cell hDf 0
                clear hWf hDf
                obtain ⟨D, hDD⟩ : ∃ D, D = w4.heap.size := ⟨_, rfl⟩
                rw [← hDD] at hd0 ⊢
                exact tail_ _ _ _ _ _ _ _ D Wf hBf hd0
               exact AllReady.nil
              exact AllReady.nil
             refine AllReady.cons rfl (fun K hK => ?_) ?_
             ·go_simp
              refine hK _ _ ?_
              clear hK K
              refine wpAny_ready (rs := [3]) (by kernel_rfl) (by simp) ?_
              refine AllReady.cons rfl (fun K hK => ?_) ?_
              ·go_simp
               go_wp2_with (first | (go_at_call 93; refine (table_reduce.calls k (fun k_ => wr.heap.size ≤ k_ ∧ k_ < w3.heap.size) _ _ (kk : Int) tl tn td tm Wr _ (bl HB3.out) (sx HS.out) HGr.out HRED.out).mono ?_; rintro e w4 ⟨vl, rfl, hl, -, hb, hkp⟩; have HB4 := Aside0.mk hb; have hD4 := (hkp.2 w3.heap.size (by rw [World.size_alloc]; exact Nat.lt_succ_self _) (by omega)).trans (heap_alloc_new w3 _); clear hb hkp; obtain ⟨Al, cl, el⟩ := Kd.R_slice hl; subst el; clear hl))
               have hc0 : w4.cell? ⟨w3.heap.size, 0, none⟩ = some (.string ⟨#[]⟩) := blk_cell hD4 0
               have hf0 : w4.frozen? ⟨w3.heap.size, 0, none⟩ = false := by simp [World.frozen?, hD4]
               have hc1 : (w4.setCell ⟨w3.heap.size, 0, none⟩ (.string tn)).cell? ⟨w3.heap.size, 1, none⟩ = some (.string ⟨#[]⟩) := set_cell1 hD4
               have hf1 : (w4.setCell ⟨w3.heap.size, 0, none⟩ (.string tn)).frozen? ⟨w3.heap.size, 1, none⟩ = false := set_frozen1 hD4
               refine wpAny_take (i := 4) (v := ?_) rfl (by kernel_rfl) (by kernel_rfl) (by kernel_rfl) (fun _ _ _ h => h) (Or.inl ⟨by rfl, ?_⟩) ?_
               rotate_left 1
               ·intro w; go_simp; (try with_reducible rfl)
               (try dsimp only [Act.put, List.setIfInBounds_toArray, List.set_cons_succ, List.set_cons_zero])
               refine wpAny_take (i := 5) (v := ?_) rfl (by kernel_rfl) (by kernel_rfl) (by kernel_rfl) (fun _ _ _ h => h) (Or.inl ⟨by rfl, ?_⟩) ?_
               rotate_left 1
               ·intro w; go_simp; (try with_reducible rfl)
               (try dsimp only [Act.put, List.setIfInBounds_toArray, List.set_cons_succ, List.set_cons_zero])
               refine wpAny_take (i := 6) (v := ?_) rfl (by kernel_rfl) (by kernel_rfl) (by kernel_rfl) (fun _ _ _ h => h) (Or.inl ⟨by rfl, ?_⟩) ?_
               rotate_left 1
               ·intro w; go_simp; (try with_reducible rfl)
               (try dsimp only [Act.put, List.setIfInBounds_toArray, List.set_cons_succ, List.set_cons_zero])
               refine wpAny_take (i := 8) (v := ?_) rfl (by kernel_rfl) (by kernel_rfl) (by kernel_rfl) (fun _ _ _ h => h) (Or.inl ⟨by rfl, ?_⟩) ?_
               rotate_left 1
               ·intro w; go_simp; (try with_reducible rfl)
               (try dsimp only [Act.put, List.setIfInBounds_toArray, List.set_cons_succ, List.set_cons_zero])
               refine wpAny_ready (rs := [9]) (by kernel_rfl) (by simp) ?_
               refine AllReady.cons rfl (fun K hK => ?_) ?_
               ·go_simp
                refine hK _ _ ?_
                clear hK K
                refine wpAny_done (by kernel_rfl) ?_ _
                obtain ⟨Wf, hWf⟩ : ∃ Wf, Wf = (w4.setCell ⟨w3.heap.size, 0, none⟩ (.string tn)).setCell ⟨w3.heap.size, 1, none⟩ (.string td) := ⟨_, rfl⟩
                have hBf : Below Wr.heap.size Wr Wf := by rw [hWf]; have hDl := below_size HB3.out; exact (HB4.out.setCell hDl _).setCell hDl _
                have hDf : Wf.heap[w3.heap.size]? = some (.cells #[.string tn, .string td] 103 (0, 0)) := by rw [hWf]; exact set_heap2 hD4
                rw [← hWf]
                have hd0 : Wf.cell? ⟨w3.heap.size, 0, none⟩ = some (.string tn) := blk_cell hDf 0
                clear hWf hDf
                obtain ⟨D, hDD⟩ : ∃ D, D = w3.heap.size := ⟨_, rfl⟩
                rw [← hDD] at hd0 ⊢
                exact tail_ _ _ _ _ _ _ _ D Wf hBf hd0
               exact AllReady.nil
              exact AllReady.nil
             exact AllReady.nil
            refine AllReady.cons rfl (fun K hK => ?_) ?_
            ·go_simp
             refine hK _ _ ?_
             clear hK K
             refine wpAny_ready (rs := [2]) (by kernel_rfl) (by simp) ?_
             refine AllReady.cons rfl (fun K hK => ?_) ?_
             ·go_simp
              refine hK _ _ ?_
              clear hK K
              refine wpAny_ready (rs := [3]) (by kernel_rfl) (by simp) ?_
              refine AllReady.cons rfl (fun K hK => ?_) ?_
              ·go_simp
               go_wp2_with (first | (go_at_call 93; refine (table_reduce.calls k (fun k_ => wr.heap.size ≤ k_ ∧ k_ < w3.heap.size) _ _ (kk : Int) tl tn td tm Wr _ (bl HB3.out) (sx HS.out) HGr.out HRED.out).mono ?_; rintro e w4 ⟨vl, rfl, hl, -, hb, hkp⟩; have HB4 := Aside0.mk hb; have hD4 := (hkp.2 w3.heap.size (by rw [World.size_alloc]; exact Nat.lt_succ_self _) (by omega)).trans (heap_alloc_new w3 _); clear hb hkp; obtain ⟨Al, cl, el⟩ := Kd.R_slice hl; subst el; clear hl))
               have hc0 : w4.cell? ⟨w3.heap.size, 0, none⟩ = some (.string ⟨#[]⟩) := blk_cell hD4 0
               have hf0 : w4.frozen? ⟨w3.heap.size, 0, none⟩ = false := by simp [World.frozen?, hD4]
               have hc1 : (w4.setCell ⟨w3.heap.size, 0, none⟩ (.string tn)).cell? ⟨w3.heap.size, 1, none⟩ = some (.string ⟨#[]⟩) := set_cell1 hD4
               have hf1 : (w4.setCell ⟨w3.heap.size, 0, none⟩ (.string tn)).frozen? ⟨w3.heap.size, 1, none⟩ = false := set_frozen1 hD4
               refine wpAny_take (i := 4) (v := ?_) rfl (by kernel_rfl) (by kernel_rfl) (by kernel_rfl) (fun _ _ _ h => h) (Or.inl ⟨by rfl, ?_⟩) ?_
               rotate_left 1
               ·intro w; go_simp; (try with_reducible rfl)
               (try dsimp only [Act.put, List.setIfInBounds_toArray, List.set_cons_succ, List.set_cons_zero])
               refine wpAny_take (i := 5) (v := ?_) rfl (by kernel_rfl) (by kernel_rfl) (by kernel_rfl) (fun _ _ _ h => h) (Or.inl ⟨by rfl, ?_⟩) ?_
               rotate_left 1
               ·intro w; go_simp; (try with_reducible rfl)
               (try dsimp only [Act.put, List.setIfInBounds_toArray, List.set_cons_succ, List.set_cons_zero])
               refine wpAny_take (i := 6) (v := ?_) rfl (by kernel_rfl) (by kernel_rfl) (by kernel_rfl) (fun _ _ _ h => h) (Or.inl ⟨by rfl, ?_⟩) ?_
               rotate_left 1
               ·intro w; go_simp; (try with_reducible rfl)
               (try dsimp only [Act.put, List.setIfInBounds_toArray, List.set_cons_succ, List.set_cons_zero])
               refine wpAny_take (i := 8) (v := ?_) rfl (by kernel_rfl) (by kernel_rfl) (by kernel_rfl) (fun _ _ _ h => h) (Or.inl ⟨by rfl, ?_⟩) ?_
               rotate_left 1
               ·intro w; go_simp; (try with_reducible rfl)
               (try dsimp only [Act.put, List.setIfInBounds_toArray, List.set_cons_succ, List.set_cons_zero])
               refine wpAny_ready (rs := [9]) (by kernel_rfl) (by simp) ?_
               refine AllReady.cons rfl (fun K hK => ?_) ?_
               ·go_simp
                refine hK _ _ ?_
                clear hK K
                refine wpAny_done (by kernel_rfl) ?_ _
                obtain ⟨Wf, hWf⟩ : ∃ Wf, Wf = (w4.setCell ⟨w3.heap.size, 0, none⟩ (.string tn)).setCell ⟨w3.heap.size, 1, none⟩ (.string td) := ⟨_, rfl⟩
                have hBf : Below Wr.heap.size Wr Wf := by rw [hWf]; have hDl := below_size HB3.out; exact (HB4.out.setCell hDl _).setCell hDl _
                have hDf : Wf.heap[w3.heap.size]? = some (.cells #[.string tn, .string td] 103 (0, 0)) := by rw [hWf]; exact set_heap2 hD4
                rw [← hWf]
                have hd0 : Wf.cell? ⟨w3.heap.size, 0, none⟩ = some (.string tn) := blk_cell hDf 0
                clear hWf hDf
                obtain ⟨D, hDD⟩ : ∃ D, D = w3.heap.size := ⟨_, rfl⟩
                rw [← hDD] at hd0 ⊢
                exact tail_ _ _ _ _ _ _ _ D Wf hBf hd0
               exact AllReady.nil
              exact AllReady.nil
             exact AllReady.nil
            exact AllReady.nil
           refine AllReady.cons rfl (fun K hK => ?_) ?_
           ·go_simp
            refine hK _ _ ?_
            clear hK K
            refine wpAny_ready (rs := [1, 7]) (by kernel_rfl) (by simp) ?_
            refine AllReady.cons rfl (fun K hK => ?_) ?_
            ·go_simp
             go_wp2_with (first | (go_at_call 94; refine (rats_call Ap cp (partV l0 x c) _ (by repeat (first | exact (Kd.S_reads' HO.out).2.2 | (with_reducible refine Kd.C_alloc ?_ _) | (with_reducible refine Kd.C_drewN ?_ _) | (with_reducible refine Kd.C_drew ?_))) (Kd.S_reads' HO.out).2.1 (GW.below HG.out (bl HBz.out)) HCK.out).mono ?_; rintro e w3 ⟨vr, rfl, hS, hb⟩; have HB3 := Aside0.mk (below_step (bl HB.out) hb); have HS := Aside0.mk (Kd.S_mono (ok' := fun k_ => wr.heap.size ≤ k_ ∧ k_ < w3.heap.size) (Kd.S_lower (Kd.S_bound hS) (below_size (bl HB.out))) (fun k_ hk_ => ⟨hk_.2.1, hk_.2.2.1⟩)); have hk3 := (HB3.out.cell (World.block_lt_of_cell? _ _ hkr)).trans hkr; have hk3a : ∀ o, (w3.alloc o).cell? ⟨w.heap.size + 1, 0, none⟩ = some (.int .i64 kk) := fun o => ((below_alloc (Below.refl w3.heap.size w3) o).cell (World.block_lt_of_cell? _ _ hk3)).trans hk3; clear hS hb; obtain ⟨Ar, cr, er⟩ := Kd.S_slice HS.out; subst er))
             refine wpAny_ready (rs := [3, 7]) (by kernel_rfl) (by simp) ?_
             refine AllReady.cons rfl (fun K hK => ?_) ?_
             ·go_simp
              go_wp2_with (first | (go_at_call 93; refine (table_reduce.calls k (fun k_ => wr.heap.size ≤ k_ ∧ k_ < w3.heap.size) _ _ (kk : Int) tl tn td tm Wr _ (bl HB3.out) (sx HS.out) HGr.out HRED.out).mono ?_; rintro e w4 ⟨vl, rfl, hl, -, hb, hkp⟩; have HB4 := Aside0.mk hb; clear hb hkp; obtain ⟨Al, cl, el⟩ := Kd.R_slice hl; subst el; clear hl))
              refine wpAny_take (i := 4) (v := ?_) rfl (by kernel_rfl) (by kernel_rfl) (by kernel_rfl) (fun _ _ _ h => h) (Or.inl ⟨by rfl, ?_⟩) ?_
              rotate_left 1
              ·intro w; go_simp; (try with_reducible rfl)
              (try dsimp only [Act.put, List.setIfInBounds_toArray, List.set_cons_succ, List.set_cons_zero])
              refine wpAny_take (i := 5) (v := ?_) rfl (by kernel_rfl) (by kernel_rfl) (by kernel_rfl) (fun _ _ _ h => h) (Or.inl ⟨by rfl, ?_⟩) ?_
              rotate_left 1
              ·intro w; go_simp; (try with_reducible rfl)
              (try dsimp only [Act.put, List.setIfInBounds_toArray, List.set_cons_succ, List.set_cons_zero])
              refine wpAny_take (i := 6) (v := ?_) rfl (by kernel_rfl) (by kernel_rfl) (by kernel_rfl) (fun _ _ _ h => h) (Or.inl ⟨by rfl, ?_⟩) ?_
              rotate_left 1
              ·intro w; go_simp; (try with_reducible rfl)
              (try dsimp only [Act.put, List.setIfInBounds_toArray, List.set_cons_succ, List.set_cons_zero])
              refine wpAny_ready (rs := [7]) (by kernel_rfl) (by simp) ?_
              refine AllReady.cons rfl (fun K hK => ?_) ?_
              ·go_simp
               refine hK _ _ ?_
               clear hK K
               refine wpAny_take (i := 8) (v := ?_) rfl (by kernel_rfl) (by kernel_rfl) (by kernel_rfl) (fun _ _ _ h => h) (Or.inl ⟨by rfl, ?_⟩) ?_
               rotate_left 1
               ·intro w; go_simp; (try with_reducible rfl)
               (try dsimp only [Act.put, List.setIfInBounds_toArray, List.set_cons_succ, List.set_cons_zero])
               refine wpAny_ready (rs := [9]) (by kernel_rfl) (by simp) ?_
               refine AllReady.cons rfl (fun K hK => ?_) ?_
               ·go_simp
                refine hK _ _ ?_
                clear hK K
                refine wpAny_done (by kernel_rfl) ?_ _
                obtain ⟨Wf, hWf⟩ : ∃ Wf, Wf = w4.alloc (.cells #[.string tn, .string td] 103) := ⟨_, rfl⟩
                have hBf : Below Wr.heap.size Wr Wf := by rw [hWf]; exact HB4.out.alloc (below_size HB4.out) _
                have hDf : Wf.heap[w4.heap.size]? = some (.cells #[.string tn, .string td] 103 (0, 0)) := by rw [hWf]; exact heap_alloc_new _ _
                rw [← hWf]
                have hd0 : Wf.cell? ⟨w4.heap.size, 0, none⟩ = some (.string tn) := blk_cell hDf 0
                clear hWf hDf
                obtain ⟨D, hDD⟩ : ∃ D, D = w4.heap.size := ⟨_, rfl⟩
                rw [← hDD] at hd0 ⊢
                exact tail_ _ _ _ _ _ _ _ D Wf hBf hd0
               exact AllReady.nil
              exact AllReady.nil
             refine AllReady.cons rfl (fun K hK => ?_) ?_
             ·go_simp
              refine hK _ _ ?_
              clear hK K
              refine wpAny_ready (rs := [3]) (by kernel_rfl) (by simp) ?_
              refine AllReady.cons rfl (fun K hK => ?_) ?_
              ·go_simp
               go_wp2_with (first | (go_at_call 93; refine (table_reduce.calls k (fun k_ => wr.heap.size ≤ k_ ∧ k_ < w3.heap.size) _ _ (kk : Int) tl tn td tm Wr _ (bl HB3.out) (sx HS.out) HGr.out HRED.out).mono ?_; rintro e w4 ⟨vl, rfl, hl, -, hb, hkp⟩; have HB4 := Aside0.mk hb; have hD4 := (hkp.2 w3.heap.size (by rw [World.size_alloc]; exact Nat.lt_succ_self _) (by omega)).trans (heap_alloc_new w3 _); clear hb hkp; obtain ⟨Al, cl, el⟩ := Kd.R_slice hl; subst el; clear hl))
               have hc0 : w4.cell? ⟨w3.heap.size, 0, none⟩ = some (.string ⟨#[]⟩) := blk_cell hD4 0
               have hf0 : w4.frozen? ⟨w3.heap.size, 0, none⟩ = false := by simp [World.frozen?, hD4]
               have hc1 : (w4.setCell ⟨w3.heap.size, 0, none⟩ (.string tn)).cell? ⟨w3.heap.size, 1, none⟩ = some (.string ⟨#[]⟩) := set_cell1 hD4
               have hf1 : (w4.setCell ⟨w3.heap.size, 0, none⟩ (.string tn)).frozen? ⟨w3.heap.size, 1, none⟩ = false := set_frozen1 hD4
               refine wpAny_take (i := 4) (v := ?_) rfl (by kernel_rfl) (by kernel_rfl) (by kernel_rfl) (fun _ _ _ h => h) (Or.inl ⟨by rfl, ?_⟩) ?_
               rotate_left 1
               ·intro w; go_simp; (try with_reducible rfl)
               (try dsimp only [Act.put, List.setIfInBounds_toArray, List.set_cons_succ, List.set_cons_zero])
               refine wpAny_take (i := 5) (v := ?_) rfl (by kernel_rfl) (by kernel_rfl) (by kernel_rfl) (fun _ _ _ h => h) (Or.inl ⟨by rfl, ?_⟩) ?_
               rotate_left 1
               ·intro w; go_simp; (try with_reducible rfl)
               (try dsimp only [Act.put, List.setIfInBounds_toArray, List.set_cons_succ, List.set_cons_zero])
               refine wpAny_take (i := 6) (v := ?_) rfl (by kernel_rfl) (by kernel_rfl) (by kernel_rfl) (fun _ _ _ h => h) (Or.inl ⟨by rfl, ?_⟩) ?_
               rotate_left 1
               ·intro w; go_simp; (try with_reducible rfl)
               (try dsimp only [Act.put, List.setIfInBounds_toArray, List.set_cons_succ, List.set_cons_zero])
               refine wpAny_take (i := 8) (v := ?_) rfl (by kernel_rfl) (by kernel_rfl) (by kernel_rfl) (fun _ _ _ h => h) (Or.inl ⟨by rfl, ?_⟩) ?_
               rotate_left 1
               ·intro w; go_simp; (try with_reducible rfl)
               (try dsimp only [Act.put, List.setIfInBounds_toArray, List.set_cons_succ, List.set_cons_zero])
               refine wpAny_ready (rs := [9]) (by kernel_rfl) (by simp) ?_
               refine AllReady.cons rfl (fun K hK => ?_) ?_
               ·go_simp
                refine hK _ _ ?_
                clear hK K
                refine wpAny_done (by kernel_rfl) ?_ _
                obtain ⟨Wf, hWf⟩ : ∃ Wf, Wf = (w4.setCell ⟨w3.heap.size, 0, none⟩ (.string tn)).setCell ⟨w3.heap.size, 1, none⟩ (.string td) := ⟨_, rfl⟩
                have hBf : Below Wr.heap.size Wr Wf := by rw [hWf]; have hDl := below_size HB3.out; exact (HB4.out.setCell hDl _).setCell hDl _
                have hDf : Wf.heap[w3.heap.size]? = some (.cells #[.string tn, .string td] 103 (0, 0)) := by rw [hWf]; exact set_heap2 hD4
                rw [← hWf]
                have hd0 : Wf.cell? ⟨w3.heap.size, 0, none⟩ = some (.string tn) := blk_cell hDf 0
                clear hWf hDf
                obtain ⟨D, hDD⟩ : ∃ D, D = w3.heap.size := ⟨_, rfl⟩
                rw [← hDD] at hd0 ⊢
                exact tail_ _ _ _ _ _ _ _ D Wf hBf hd0
               exact AllReady.nil
              exact AllReady.nil
             exact AllReady.nil
            refine AllReady.cons rfl (fun K hK => ?_) ?_
            ·go_simp
             refine hK _ _ ?_
             clear hK K
             refine wpAny_ready (rs := [1]) (by kernel_rfl) (by simp) ?_
             refine AllReady.cons rfl (fun K hK => ?_) ?_
             ·go_simp
              go_wp2_with (first | (go_at_call 94; refine (rats_call Ap cp (partV l0 x c) _ (by repeat (first | exact (Kd.S_reads' HO.out).2.2 | (with_reducible refine Kd.C_alloc ?_ _) | (with_reducible refine Kd.C_drewN ?_ _) | (with_reducible refine Kd.C_drew ?_))) (Kd.S_reads' HO.out).2.1 (GW.below HG.out (bl HBz.out)) HCK.out).mono ?_; rintro e w3 ⟨vr, rfl, hS, hb⟩; have HB3 := Aside0.mk (below_step (bl HB.out) hb); have HS := Aside0.mk (Kd.S_mono (ok' := fun k_ => wr.heap.size + 1 ≤ k_ ∧ k_ < w3.heap.size) (Kd.S_lower (Kd.S_bound hS) (below_size (bl HB.out))) (fun k_ hk_ => ⟨(by have h_ : (wr.alloc (.cells #[.string ⟨#[]⟩, .string ⟨#[]⟩] 103)).heap.size ≤ k_ := hk_.2.1; rw [World.size_alloc] at h_; exact h_), hk_.2.2.1⟩)); have hk3 := (HB3.out.cell (World.block_lt_of_cell? _ _ hkr)).trans hkr; have hk3a : ∀ o, (w3.alloc o).cell? ⟨w.heap.size + 1, 0, none⟩ = some (.int .i64 kk) := fun o => ((below_alloc (Below.refl w3.heap.size w3) o).cell (World.block_lt_of_cell? _ _ hk3)).trans hk3; have hD := (hb.block wr.heap.size (by show wr.heap.size < (wr.alloc (.cells #[.string ⟨#[]⟩, .string ⟨#[]⟩] 103)).heap.size; rw [World.size_alloc]; exact Nat.lt_succ_self _)).trans (heap_alloc_new wr (.cells #[.string ⟨#[]⟩, .string ⟨#[]⟩] 103)); clear hS hb; obtain ⟨Ar, cr, er⟩ := Kd.S_slice HS.out; subst er))
              refine wpAny_ready (rs := [3]) (by kernel_rfl) (by simp) ?_
              refine AllReady.cons rfl (fun K hK => ?_) ?_
              ·go_simp
               go_wp2_with (first | (go_at_call 93; refine (table_reduce.calls k (fun k_ => wr.heap.size + 1 ≤ k_ ∧ k_ < w3.heap.size) _ _ (kk : Int) tl tn td tm Wr _ (bl HB3.out) (sx HS.out) HGr.out HRED.out).mono ?_; rintro e w4 ⟨vl, rfl, hl, -, hb, hkp⟩; have HB4 := Aside0.mk hb; have hlD := (Array.getElem?_eq_some_iff.1 hD).1; have hD4 := (hkp.2 wr.heap.size hlD (by omega)).trans hD; clear hb hkp; obtain ⟨Al, cl, el⟩ := Kd.R_slice hl; subst el; clear hl))
               have hc0 : w4.cell? ⟨wr.heap.size, 0, none⟩ = some (.string ⟨#[]⟩) := blk_cell hD4 0
               have hf0 : w4.frozen? ⟨wr.heap.size, 0, none⟩ = false := by simp [World.frozen?, hD4]
               have hc1 : (w4.setCell ⟨wr.heap.size, 0, none⟩ (.string tn)).cell? ⟨wr.heap.size, 1, none⟩ = some (.string ⟨#[]⟩) := set_cell1 hD4
               have hf1 : (w4.setCell ⟨wr.heap.size, 0, none⟩ (.string tn)).frozen? ⟨wr.heap.size, 1, none⟩ = false := set_frozen1 hD4
               refine wpAny_take (i := 4) (v := ?_) rfl (by kernel_rfl) (by kernel_rfl) (by kernel_rfl) (fun _ _ _ h => h) (Or.inl ⟨by rfl, ?_⟩) ?_
               rotate_left 1
               ·intro w; go_simp; (try with_reducible rfl)
               (try dsimp only [Act.put, List.setIfInBounds_toArray, List.set_cons_succ, List.set_cons_zero])
               refine wpAny_take (i := 5) (v := ?_) rfl (by kernel_rfl) (by kernel_rfl) (by kernel_rfl) (fun _ _ _ h => h) (Or.inl ⟨by rfl, ?_⟩) ?_
               rotate_left 1
               ·intro w; go_simp; (try with_reducible rfl)
               (try dsimp only [Act.put, List.setIfInBounds_toArray, List.set_cons_succ, List.set_cons_zero])
               refine wpAny_take (i := 6) (v := ?_) rfl (by kernel_rfl) (by kernel_rfl) (by kernel_rfl) (fun _ _ _ h => h) (Or.inl ⟨by rfl, ?_⟩) ?_
               rotate_left 1
               ·intro w; go_simp; (try with_reducible rfl)
               (try dsimp only [Act.put, List.setIfInBounds_toArray, List.set_cons_succ, List.set_cons_zero])
               refine wpAny_take (i := 8) (v := ?_) rfl (by kernel_rfl) (by kernel_rfl) (by kernel_rfl) (fun _ _ _ h => h) (Or.inl ⟨by rfl, ?_⟩) ?_
               rotate_left 1
               ·intro w; go_simp; (try with_reducible rfl)
               (try dsimp only [Act.put, List.setIfInBounds_toArray, List.set_cons_succ, List.set_cons_zero])
               refine wpAny_ready (rs := [9]) (by kernel_rfl) (by simp) ?_
               refine AllReady.cons rfl (fun K hK => ?_) ?_
               ·go_simp
                refine hK _ _ ?_
                clear hK K
                refine wpAny_done (by kernel_rfl) ?_ _
                obtain ⟨Wf, hWf⟩ : ∃ Wf, Wf = (w4.setCell ⟨wr.heap.size, 0, none⟩ (.string tn)).setCell ⟨wr.heap.size, 1, none⟩ (.string td) := ⟨_, rfl⟩
                have hBf : Below Wr.heap.size Wr Wf := by rw [hWf]; have hDl := below_size HB.out; exact (HB4.out.setCell hDl _).setCell hDl _
                have hDf : Wf.heap[wr.heap.size]? = some (.cells #[.string tn, .string td] 103 (0, 0)) := by rw [hWf]; exact set_heap2 hD4
                rw [← hWf]
                have hd0 : Wf.cell? ⟨wr.heap.size, 0, none⟩ = some (.string tn) := blk_cell hDf 0
                clear hWf hDf
                obtain ⟨D, hDD⟩ : ∃ D, D = wr.heap.size := ⟨_, rfl⟩
                rw [← hDD] at hd0 ⊢
                exact tail_ _ _ _ _ _ _ _ D Wf hBf hd0
               exact AllReady.nil
              exact AllReady.nil
             exact AllReady.nil
            exact AllReady.nil
           refine AllReady.cons rfl (fun K hK => ?_) ?_
           ·go_simp
            refine hK _ _ ?_
            clear hK K
            refine wpAny_ready (rs := [1, 2]) (by kernel_rfl) (by simp) ?_
            refine AllReady.cons rfl (fun K hK => ?_) ?_
            ·go_simp
             go_wp2_with (first | (go_at_call 94; refine (rats_call Ap cp (partV l0 x c) _ (by repeat (first | exact (Kd.S_reads' HO.out).2.2 | (with_reducible refine Kd.C_alloc ?_ _) | (with_reducible refine Kd.C_drewN ?_ _) | (with_reducible refine Kd.C_drew ?_))) (Kd.S_reads' HO.out).2.1 (GW.below HG.out (bl HBz.out)) HCK.out).mono ?_; rintro e w3 ⟨vr, rfl, hS, hb⟩; have HB3 := Aside0.mk (below_step (bl HB.out) hb); have HS := Aside0.mk (Kd.S_mono (ok' := fun k_ => wr.heap.size + 1 ≤ k_ ∧ k_ < w3.heap.size) (Kd.S_lower (Kd.S_bound hS) (below_size (bl HB.out))) (fun k_ hk_ => ⟨(by have h_ : (wr.alloc (.cells #[.string ⟨#[]⟩, .string ⟨#[]⟩] 103)).heap.size ≤ k_ := hk_.2.1; rw [World.size_alloc] at h_; exact h_), hk_.2.2.1⟩)); have hk3 := (HB3.out.cell (World.block_lt_of_cell? _ _ hkr)).trans hkr; have hk3a : ∀ o, (w3.alloc o).cell? ⟨w.heap.size + 1, 0, none⟩ = some (.int .i64 kk) := fun o => ((below_alloc (Below.refl w3.heap.size w3) o).cell (World.block_lt_of_cell? _ _ hk3)).trans hk3; have hD := (hb.block wr.heap.size (by show wr.heap.size < (wr.alloc (.cells #[.string ⟨#[]⟩, .string ⟨#[]⟩] 103)).heap.size; rw [World.size_alloc]; exact Nat.lt_succ_self _)).trans (heap_alloc_new wr (.cells #[.string ⟨#[]⟩, .string ⟨#[]⟩] 103)); clear hS hb; obtain ⟨Ar, cr, er⟩ := Kd.S_slice HS.out; subst er))
             refine wpAny_ready (rs := [2]) (by kernel_rfl) (by simp) ?_
             refine AllReady.cons rfl (fun K hK => ?_) ?_
             ·go_simp
              refine hK _ _ ?_
              clear hK K
              refine wpAny_ready (rs := [3]) (by kernel_rfl) (by simp) ?_
              refine AllReady.cons rfl (fun K hK => ?_) ?_
              ·go_simp
               go_wp2_with (first | (go_at_call 93; refine (table_reduce.calls k (fun k_ => wr.heap.size + 1 ≤ k_ ∧ k_ < w3.heap.size) _ _ (kk : Int) tl tn td tm Wr _ (bl HB3.out) (sx HS.out) HGr.out HRED.out).mono ?_; rintro e w4 ⟨vl, rfl, hl, -, hb, hkp⟩; have HB4 := Aside0.mk hb; have hlD := (Array.getElem?_eq_some_iff.1 hD).1; have hD4 := (hkp.2 wr.heap.size hlD (by omega)).trans hD; clear hb hkp; obtain ⟨Al, cl, el⟩ := Kd.R_slice hl; subst el; clear hl))
               have hc0 : w4.cell? ⟨wr.heap.size, 0, none⟩ = some (.string ⟨#[]⟩) := blk_cell hD4 0
               have hf0 : w4.frozen? ⟨wr.heap.size, 0, none⟩ = false := by simp [World.frozen?, hD4]
               have hc1 : (w4.setCell ⟨wr.heap.size, 0, none⟩ (.string tn)).cell? ⟨wr.heap.size, 1, none⟩ = some (.string ⟨#[]⟩) := set_cell1 hD4
               have hf1 : (w4.setCell ⟨wr.heap.size, 0, none⟩ (.string tn)).frozen? ⟨wr.heap.size, 1, none⟩ = false := set_frozen1 hD4
               refine wpAny_take (i := 4) (v := ?_) rfl (by kernel_rfl) (by kernel_rfl) (by kernel_rfl) (fun _ _ _ h => h) (Or.inl ⟨by rfl, ?_⟩) ?_
               rotate_left 1
               ·intro w; go_simp; (try with_reducible rfl)
               (try dsimp only [Act.put, List.setIfInBounds_toArray, List.set_cons_succ, List.set_cons_zero])
               refine wpAny_take (i := 5) (v := ?_) rfl (by kernel_rfl) (by kernel_rfl) (by kernel_rfl) (fun _ _ _ h => h) (Or.inl ⟨by rfl, ?_⟩) ?_
               rotate_left 1
               ·intro w; go_simp; (try with_reducible rfl)
               (try dsimp only [Act.put, List.setIfInBounds_toArray, List.set_cons_succ, List.set_cons_zero])
               refine wpAny_take (i := 6) (v := ?_) rfl (by kernel_rfl) (by kernel_rfl) (by kernel_rfl) (fun _ _ _ h => h) (Or.inl ⟨by rfl, ?_⟩) ?_
               rotate_left 1
               ·intro w; go_simp; (try with_reducible rfl)
               (try dsimp only [Act.put, List.setIfInBounds_toArray, List.set_cons_succ, List.set_cons_zero])
               refine wpAny_take (i := 8) (v := ?_) rfl (by kernel_rfl) (by kernel_rfl) (by kernel_rfl) (fun _ _ _ h => h) (Or.inl ⟨by rfl, ?_⟩) ?_
               rotate_left 1
               ·intro w; go_simp; (try with_reducible rfl)
               (try dsimp only [Act.put, List.setIfInBounds_toArray, List.set_cons_succ, List.set_cons_zero])
               refine wpAny_ready (rs := [9]) (by kernel_rfl) (by simp) ?_
               refine AllReady.cons rfl (fun K hK => ?_) ?_
               ·go_simp
                refine hK _ _ ?_
                clear hK K
                refine wpAny_done (by kernel_rfl) ?_ _
                obtain ⟨Wf, hWf⟩ : ∃ Wf, Wf = (w4.setCell ⟨wr.heap.size, 0, none⟩ (.string tn)).setCell ⟨wr.heap.size, 1, none⟩ (.string td) := ⟨_, rfl⟩
                have hBf : Below Wr.heap.size Wr Wf := by rw [hWf]; have hDl := below_size HB.out; exact (HB4.out.setCell hDl _).setCell hDl _
                have hDf : Wf.heap[wr.heap.size]? = some (.cells #[.string tn, .string td] 103 (0, 0)) := by rw [hWf]; exact set_heap2 hD4
                rw [← hWf]
                have hd0 : Wf.cell? ⟨wr.heap.size, 0, none⟩ = some (.string tn) := blk_cell hDf 0
                clear hWf hDf
                obtain ⟨D, hDD⟩ : ∃ D, D = wr.heap.size := ⟨_, rfl⟩
                rw [← hDD] at hd0 ⊢
                exact tail_ _ _ _ _ _ _ _ D Wf hBf hd0
               exact AllReady.nil
              exact AllReady.nil
             exact AllReady.nil
            refine AllReady.cons rfl (fun K hK => ?_) ?_
            ·go_simp
             refine hK _ _ ?_
             clear hK K
             refine wpAny_ready (rs := [1]) (by kernel_rfl) (by simp) ?_
             refine AllReady.cons rfl (fun K hK => ?_) ?_
             ·go_simp
              go_wp2_with (first | (go_at_call 94; refine (rats_call Ap cp (partV l0 x c) _ (by repeat (first | exact (Kd.S_reads' HO.out).2.2 | (with_reducible refine Kd.C_alloc ?_ _) | (with_reducible refine Kd.C_drewN ?_ _) | (with_reducible refine Kd.C_drew ?_))) (Kd.S_reads' HO.out).2.1 (GW.below HG.out (bl HBz.out)) HCK.out).mono ?_; rintro e w3 ⟨vr, rfl, hS, hb⟩; have HB3 := Aside0.mk (below_step (bl HB.out) hb); have HS := Aside0.mk (Kd.S_mono (ok' := fun k_ => wr.heap.size + 1 ≤ k_ ∧ k_ < w3.heap.size) (Kd.S_lower (Kd.S_bound hS) (below_size (bl HB.out))) (fun k_ hk_ => ⟨(by have h_ : (wr.alloc (.cells #[.string ⟨#[]⟩, .string ⟨#[]⟩] 103)).heap.size ≤ k_ := hk_.2.1; rw [World.size_alloc] at h_; exact h_), hk_.2.2.1⟩)); have hk3 := (HB3.out.cell (World.block_lt_of_cell? _ _ hkr)).trans hkr; have hk3a : ∀ o, (w3.alloc o).cell? ⟨w.heap.size + 1, 0, none⟩ = some (.int .i64 kk) := fun o => ((below_alloc (Below.refl w3.heap.size w3) o).cell (World.block_lt_of_cell? _ _ hk3)).trans hk3; have hD := (hb.block wr.heap.size (by show wr.heap.size < (wr.alloc (.cells #[.string ⟨#[]⟩, .string ⟨#[]⟩] 103)).heap.size; rw [World.size_alloc]; exact Nat.lt_succ_self _)).trans (heap_alloc_new wr (.cells #[.string ⟨#[]⟩, .string ⟨#[]⟩] 103)); clear hS hb; obtain ⟨Ar, cr, er⟩ := Kd.S_slice HS.out; subst er))
              refine wpAny_ready (rs := [3]) (by kernel_rfl) (by simp) ?_
              refine AllReady.cons rfl (fun K hK => ?_) ?_
              ·go_simp
               go_wp2_with (first | (go_at_call 93; refine (table_reduce.calls k (fun k_ => wr.heap.size + 1 ≤ k_ ∧ k_ < w3.heap.size) _ _ (kk : Int) tl tn td tm Wr _ (bl HB3.out) (sx HS.out) HGr.out HRED.out).mono ?_; rintro e w4 ⟨vl, rfl, hl, -, hb, hkp⟩; have HB4 := Aside0.mk hb; have hlD := (Array.getElem?_eq_some_iff.1 hD).1; have hD4 := (hkp.2 wr.heap.size hlD (by omega)).trans hD; clear hb hkp; obtain ⟨Al, cl, el⟩ := Kd.R_slice hl; subst el; clear hl))
               have hc0 : w4.cell? ⟨wr.heap.size, 0, none⟩ = some (.string ⟨#[]⟩) := blk_cell hD4 0
               have hf0 : w4.frozen? ⟨wr.heap.size, 0, none⟩ = false := by simp [World.frozen?, hD4]
               have hc1 : (w4.setCell ⟨wr.heap.size, 0, none⟩ (.string tn)).cell? ⟨wr.heap.size, 1, none⟩ = some (.string ⟨#[]⟩) := set_cell1 hD4
               have hf1 : (w4.setCell ⟨wr.heap.size, 0, none⟩ (.string tn)).frozen? ⟨wr.heap.size, 1, none⟩ = false := set_frozen1 hD4
               refine wpAny_take (i := 4) (v := ?_) rfl (by kernel_rfl) (by kernel_rfl) (by kernel_rfl) (fun _ _ _ h => h) (Or.inl ⟨by rfl, ?_⟩) ?_
               rotate_left 1
               ·intro w; go_simp; (try with_reducible rfl)
               (try dsimp only [Act.put, List.setIfInBounds_toArray, List.set_cons_succ, List.set_cons_zero])
               refine wpAny_take (i := 5) (v := ?_) rfl (by kernel_rfl) (by kernel_rfl) (by kernel_rfl) (fun _ _ _ h => h) (Or.inl ⟨by rfl, ?_⟩) ?_
               rotate_left 1
               ·intro w; go_simp; (try with_reducible rfl)
               (try dsimp only [Act.put, List.setIfInBounds_toArray, List.set_cons_succ, List.set_cons_zero])
               refine wpAny_take (i := 6) (v := ?_) rfl (by kernel_rfl) (by kernel_rfl) (by kernel_rfl) (fun _ _ _ h => h) (Or.inl ⟨by rfl, ?_⟩) ?_
               rotate_left 1
               ·intro w; go_simp; (try with_reducible rfl)
               (try dsimp only [Act.put, List.setIfInBounds_toArray, List.set_cons_succ, List.set_cons_zero])
               refine wpAny_take (i := 8) (v := ?_) rfl (by kernel_rfl) (by kernel_rfl) (by kernel_rfl) (fun _ _ _ h => h) (Or.inl ⟨by rfl, ?_⟩) ?_
               rotate_left 1
               ·intro w; go_simp; (try with_reducible rfl)
               (try dsimp only [Act.put, List.setIfInBounds_toArray, List.set_cons_succ, List.set_cons_zero])
               refine wpAny_ready (rs := [9]) (by kernel_rfl) (by simp) ?_
               refine AllReady.cons rfl (fun K hK => ?_) ?_
               ·go_simp
                refine hK _ _ ?_
                clear hK K
                refine wpAny_done (by kernel_rfl) ?_ _
                obtain ⟨Wf, hWf⟩ : ∃ Wf, Wf = (w4.setCell ⟨wr.heap.size, 0, none⟩ (.string tn)).setCell ⟨wr.heap.size, 1, none⟩ (.string td) := ⟨_, rfl⟩
                have hBf : Below Wr.heap.size Wr Wf := by rw [hWf]; have hDl := below_size HB.out; exact (HB4.out.setCell hDl _).setCell hDl _
                have hDf : Wf.heap[wr.heap.size]? = some (.cells #[.string tn, .string td] 103 (0, 0)) := by rw [hWf]; exact set_heap2 hD4
                rw [← hWf]
                have hd0 : Wf.cell? ⟨wr.heap.size, 0, none⟩ = some (.string tn) := blk_cell hDf 0
                clear hWf hDf
                obtain ⟨D, hDD⟩ : ∃ D, D = wr.heap.size := ⟨_, rfl⟩
                rw [← hDD] at hd0 ⊢
                exact tail_ _ _ _ _ _ _ _ D Wf hBf hd0
               exact AllReady.nil
              exact AllReady.nil
             exact AllReady.nil
            exact AllReady.nil
           exact AllReady.nil
       refine wpIn_region_any (by kernel_rfl) (any_lift ?hno (noDefer_spec (by rfl)) _ _ _ _ ?_)
       case hno => rintro ⟨_, _, h⟩; exact h
       change wpAny _ _ _ _ _ _ _ (World.drew _)
       simp only [mA]
       refine wpAny_ready (rs := [0, 2]) (by kernel_rfl) (by simp) ?_
       refine AllReady.cons rfl (fun K hK => ?_) ?_
       ·go_simp
        refine hK _ _ ?_
        clear hK K
        refine wpAny_ready (rs := [1, 2]) (by kernel_rfl) (by simp) ?_
        refine AllReady.cons rfl (fun K hK => ?_) ?_
        ·go_simp
         go_wp2_with (first | (go_at_call 72; (refine (table_Columns.calls A0 c0 l0 (colsM l0 : Int) _ (Kd.C_drew HRW.out) HC0.out (columns_f l0)).mono ?_); rintro e w2 ⟨rfl, ⟨nd, rfl⟩⟩))
         refine wpAny_ready (rs := [2]) (by kernel_rfl) (by simp) ?_
         refine AllReady.cons rfl (fun K hK => ?_) ?_
         ·go_simp
          refine hK _ _ ?_
          clear hK K
          refine wpAny_ready (rs := [3]) (by kernel_rfl) (by simp) ?_
          refine AllReady.cons rfl (fun K hK => ?_) ?_
          ·go_simp
           go_wp2_with (first | (go_at_call 106; (refine (sets_call (colsM l0 : Int) (kk : Int) _).mono ?_); rintro e w3 ⟨rfl, rfl⟩))
           refine wpAny_done (by kernel_rfl) ?_ _
           exact key _
          exact AllReady.nil
         exact AllReady.nil
        refine AllReady.cons rfl (fun K hK => ?_) ?_
        ·go_simp
         refine hK _ _ ?_
         clear hK K
         refine wpAny_ready (rs := [1]) (by kernel_rfl) (by simp) ?_
         refine AllReady.cons rfl (fun K hK => ?_) ?_
         ·go_simp
          go_wp2_with (first | (go_at_call 72; (refine (table_Columns.calls A0 c0 l0 (colsM l0 : Int) _ (Kd.C_drew HRW.out) HC0.out (columns_f l0)).mono ?_); rintro e w2 ⟨rfl, ⟨nd, rfl⟩⟩))
          refine wpAny_ready (rs := [3]) (by kernel_rfl) (by simp) ?_
          refine AllReady.cons rfl (fun K hK => ?_) ?_
          ·go_simp
           go_wp2_with (first | (go_at_call 106; (refine (sets_call (colsM l0 : Int) (kk : Int) _).mono ?_); rintro e w3 ⟨rfl, rfl⟩))
           refine wpAny_done (by kernel_rfl) ?_ _
           exact key _
          exact AllReady.nil
         exact AllReady.nil
        exact AllReady.nil
       refine AllReady.cons rfl (fun K hK => ?_) ?_
       ·go_simp
        refine hK _ _ ?_
        clear hK K
        refine wpAny_ready (rs := [0]) (by kernel_rfl) (by simp) ?_
        refine AllReady.cons rfl (fun K hK => ?_) ?_
        ·go_simp
         refine hK _ _ ?_
         clear hK K
         refine wpAny_ready (rs := [1]) (by kernel_rfl) (by simp) ?_
         refine AllReady.cons rfl (fun K hK => ?_) ?_
         ·go_simp
          go_wp2_with (first | (go_at_call 72; (refine (table_Columns.calls A0 c0 l0 (colsM l0 : Int) _ (Kd.C_drew HRW.out) HC0.out (columns_f l0)).mono ?_); rintro e w2 ⟨rfl, ⟨nd, rfl⟩⟩))
          refine wpAny_ready (rs := [3]) (by kernel_rfl) (by simp) ?_
          refine AllReady.cons rfl (fun K hK => ?_) ?_
          ·go_simp
           go_wp2_with (first | (go_at_call 106; (refine (sets_call (colsM l0 : Int) (kk : Int) _).mono ?_); rintro e w3 ⟨rfl, rfl⟩))
           refine wpAny_done (by kernel_rfl) ?_ _
           exact key _
          exact AllReady.nil
         exact AllReady.nil
        exact AllReady.nil
       exact AllReady.nil
    ·rw [if_neg (fun hp => p3 hp.2.2)] at h
     obtain ⟨rfl, rfl⟩ : ([] : List ByteArray) = r1 ∧ (3 : Int) = r2 := by simpa using h
     have p1b : decide (a1 < 0) = false := decide_eq_false (by omega)
     have p2b : decide (a1 > (l0.length : Int)) = false := decide_eq_false (by omega)
     have p3b : decide (a1 > (colsM l0 : Int)) = true := decide_eq_true (by omega)
     have p1c : ¬ a1 < 0 := by omega
     have p2c : ¬ (l0.length : Int) < a1 := by omega
     have p3c : (colsM l0 : Int) < a1 := by omega
     clear p1 p2 p3
     go_quiet (first | (go_at_call 72; refine Calls.quiet_of (columns_quiet A0 c0 l0 _ _ (by first | exact HR1.out | exact Kd.C_drewN HR1.out _) HC0.out)))
     go_wp2
     (try simp only [Exit.inBlock, Exit.then])
     refine postM_ret (results_tmp2 rfl _ _ _) rfl ?_
     exact ⟨_, rfl, Kd.R_nil _ _ _ _ _, by repeat (first | (with_reducible first | exact HB.out | apply below_alloc | apply pw_below_drewN | apply below_drew1) | exact HB.out)⟩
   ·rw [if_neg (fun hp => p2 hp.2.1)] at h
    obtain ⟨rfl, rfl⟩ : ([] : List ByteArray) = r1 ∧ (3 : Int) = r2 := by simpa using h
    have p1b : decide (a1 < 0) = false := decide_eq_false (by omega)
    have p2b : decide (a1 > (l0.length : Int)) = true := decide_eq_true (by omega)
    have p1c : ¬ a1 < 0 := by omega
    have p2c : (l0.length : Int) < a1 := by omega
    clear p1 p2
    go_quiet (first | (go_at_call 72; refine Calls.quiet_of (columns_quiet A0 c0 l0 _ _ (by first | exact HR1.out | exact Kd.C_drewN HR1.out _) HC0.out)))
    go_wp2
    (try simp only [Exit.inBlock, Exit.then])
    refine postM_ret (results_tmp2 rfl _ _ _) rfl ?_
    exact ⟨_, rfl, Kd.R_nil _ _ _ _ _, by repeat (first | (with_reducible first | exact HB.out | apply below_alloc | apply pw_below_drewN | apply below_drew1) | exact HB.out)⟩
  ·rw [if_neg (fun hp => p1 hp.1)] at h
   obtain ⟨rfl, rfl⟩ : ([] : List ByteArray) = r1 ∧ (3 : Int) = r2 := by simpa using h
   have p1b : decide (a1 < 0) = true := decide_eq_true (by omega)
   have p1c : a1 < 0 := by omega
   clear p1
   go_quiet (first | (go_at_call 72; refine Calls.quiet_of (columns_quiet A0 c0 l0 _ _ (by first | exact HR1.out | exact Kd.C_drewN HR1.out _) HC0.out)))
   go_wp2
   (try simp only [Exit.inBlock, Exit.then])
   refine postM_ret (results_tmp2 rfl _ _ _) rfl ?_
   exact ⟨_, rfl, Kd.R_nil _ _ _ _ _, by repeat (first | (with_reducible first | exact HB.out | apply below_alloc | apply pw_below_drewN | apply below_drew1) | exact HB.out)⟩
 ·rw [if_neg q1] at h
  obtain ⟨rfl, rfl⟩ : ([] : List ByteArray) = r1 ∧ checkM l0 = r2 := by simpa using h
  go_wp2_with (first | (go_at_call 70; (refine (table_Check.calls A0 c0 l0 (checkM l0) _ (Kd.C_alloc (Kd.C_alloc HR0.out _) _) HC0.out rfl).mono ?_);  rintro e w1 ⟨rfl, hb⟩; have HR1 := Aside0.mk (Kd.C_below (Kd.C_alloc (Kd.C_alloc HR0.out _) _) hb); have HB := Aside0.mk (below_step (below_alloc (below_alloc (Below.refl w.heap.size w) _) _) hb); have hx1 := (hb.cell (World.block_lt_of_cell? _ _ hxm0)).trans hxm0; have hx2 := (hb.cell (World.block_lt_of_cell? _ _ hxk0)).trans hxk0; clear hb))
  (try simp only [Exit.inBlock, Exit.then])
  refine postM_ret (results_tmp2 rfl _ _ _) rfl ?_
  exact ⟨_, rfl, Kd.R_nil _ _ _ _ _, HB.out⟩
end Go.Proofs.YtegffolimjiioaaGreatDoor.PB
