/- slices.Repeat of one fraction, slices.Clone, the functions inside table.Inverse and table.Solve -/
import Derived.Test.YtegffolimjiioaaGreatDoorZPBx0
import Derived.Test.YtegffolimjiioaaGreatDoorZHq
import Derived.Test.YtegffolimjiioaaGreatDoorZGw
import Derived.Laws.CopyRow
import Derived.Laws.CopyOwn
import Derived.Deep.RegionWith
namespace Go.Proofs.YtegffolimjiioaaGreatDoor.PB
open Go.RowKit Go.Proofs.YtegffolimjiioaaGreatDoorW.PrintWords Go.Proofs.YtegffolimjiioaaGreatDoorW.PrintLast Go.Proofs.YtegffolimjiioaaGreatDoorW.PrintMore
set_option linter.unusedVariables false
set_option linter.unusedSimpArgs false
def cells2 (xs : List S103) : List Value := xs.flatMap fun x => [.string x.f0, .string x.f1]
theorem cells2_append (xs ys : List S103) : cells2 (xs ++ ys) = cells2 xs ++ cells2 ys := by simp [cells2]
theorem cells2_length (xs : List S103) : (cells2 xs).length = xs.length * 2 := by
 induction xs with
 | nil => rfl
 | cons x l ih => rw [show cells2 (x :: l) = [.string x.f0, .string x.f1] ++ cells2 l from rfl, List.length_append, ih]; simp; omega
theorem cells2_one (xs : List S103) : ∀ v ∈ cells2 xs, v.oneCell' = true := by
 intro v hv
 simp only [cells2, List.mem_flatMap] at hv
 obtain ⟨x, _, hv⟩ := hv
 simp at hv
 rcases hv with rfl | rfl <;> rfl
theorem run_copy2 {P : Program} (w : World) (dT sT ty elem : TypeId) (g o dLen dCap : Nat) (a : Addr) (sLen sCap : Nat) (cur : Array Value) (t : TypeId) (cs : List Value) (k : Nat) (hk : k = Nat.min sLen dLen)
  (hu : P.underlying dT = some (.slice elem)) (hs : (P.info? elem).map (·.size) = some 2)
  (hg : w.heap[g]? = some (.cells cur t (0, 0))) (hn : cs.length = k * 2)
  (hsrc : ∀ j v, cs[j]? = some v → w.cell? (a.add j) = some v) (hfit : o + cs.length ≤ cur.size) (h1 : ∀ v ∈ cs, v.oneCell' = true) :
  (Builtin.copy_ #[dT, sT] ty #[.slice (some ⟨g, o, none⟩) dLen dCap, .slice (some a) sLen sCap]).run P w =
   .ok (goInt k) (w.setRow g (cur.toList.take o ++ cs ++ cur.toList.drop (o + cs.length)).toArray) := by
 have hl := run_loadCells_list (P := P) w a cs hsrc
 have hst := run_storeCells_at P g o t cs 0 cur w hg (by simpa using hfit) h1
 cases hq : P.info? elem with
 | none => simp [hq] at hs
 | some i =>
  have hi : i.size = 2 := by simpa [hq] using hs
  simp [Builtin.copy_, run_underlying hu, Builtin.lenOf, Builtin.firstCells, sizeOf, typeInfo, hq, hi, ← hk, ← hn, hl, hst]
theorem reps2 {R : S103 → List Value → Prop} (hR : ∀ x : S103, R x [.string x.f0, .string x.f1]) : ∀ xs, Reps R 2 xs (cells2 xs)
 | [] => Reps.none _ _
 | x :: l => by
  have ih := reps2 hR l
  refine ⟨cells2_length _, fun j p hj => ?_⟩
  cases j with
  | zero =>
   obtain rfl : x = p := by simpa using hj
   exact hR x
  | succ j =>
   have := ih.2 j p (by simpa using hj)
   rw [show (j + 1) * 2 = j * 2 + 2 by omega]
   exact this
theorem R_of_heap {W : World} {g base : Nat} {xs : List S103} (hh : W.heap[g]? = some (.cells (cells2 xs).toArray 103 (0, 0))) (hb : base ≤ g) (hl : xs.length ≤ 1000) : Kd.R k103 103 W base (fun _ => True) (.slice (some ⟨g, 0, none⟩) xs.length xs.length) xs := by
 refine ⟨fun _ _ => trivial, cells2 xs, ⟨cells2_length xs, .inr ⟨g, xs.length, (cells2 xs).toArray, rfl, hb, hh, Nat.le_refl _, by simp [maxLen]; omega, by simp [cells2_length]; rfl, ?_⟩⟩, ?_⟩
 ·rw [List.toList_toArray]
  exact List.take_of_length_le (by rw [cells2_length]; exact Nat.le_refl _)
 ·exact reps2 (fun x => k103_mkM _ _ _ x) xs
theorem rep_step (z : S103) (t n k : Nat) (h1 : t ≤ n) (hk : k = min t (n - t)) : (cells2 (List.replicate t z ++ List.replicate (n - t) z103)).take (t * 2) ++ cells2 (List.replicate k z) ++ (cells2 (List.replicate t z ++ List.replicate (n - t) z103)).drop (t * 2 + (cells2 (List.replicate k z)).length) = cells2 (List.replicate (t + k) z ++ List.replicate (n - (t + k)) z103) := by
 have e1 : (cells2 (List.replicate t z)).length = t * 2 := by rw [cells2_length, List.length_replicate]
 have e2 : (cells2 (List.replicate k z)).length = k * 2 := by rw [cells2_length, List.length_replicate]
 have e3 : n - t = k + (n - (t + k)) := by omega
 have e4 : (cells2 (List.replicate k z103)).length = k * 2 := by rw [cells2_length, List.length_replicate]
 rw [cells2_append, e2]
 rw [List.take_append_of_le_length (by omega), List.take_of_length_le (by omega)]
 rw [e3, ← List.replicate_append_replicate, cells2_append, ← List.append_assoc, List.drop_append, List.drop_of_length_le (by simp [e1, e4])]
 rw [show t * 2 + k * 2 - (cells2 (List.replicate t z) ++ cells2 (List.replicate k z103)).length = 0 by rw [List.length_append, e1, e4]; omega]
 simp only [List.drop_zero, List.nil_append, ← List.replicate_append_replicate, cells2_append]
set_option maxRecDepth 100000 in
theorem mul_call (n : Nat) (w : World) (hn : n ≤ 12) : Calls Tryz.prog 169 #[.int .u64 1, .int .u64 n] w fun e w' => e = .returned (.tuple #[.int .u64 0, .int .u64 n]) ∧ w = w' := by
 match n, hn with
 | 0, _ | 1, _ | 2, _ | 3, _ | 4, _ | 5, _ | 6, _ | 7, _ | 8, _ | 9, _ | 10, _ | 11, _ | 12, _ =>
  go_enter Tryz.func169, Tryz.ntmps169
  go_wp2
  go_ret2
  exact ⟨by kernel_rfl, rfl⟩
theorem made2 (n : Nat) : madeCells (Value.agg #[Value.string ⟨#[]⟩, Value.string ⟨#[]⟩]).cells (n * 2) = (cells2 (List.replicate n z103)).toArray := by
 have h1 : cells2 (List.replicate n z103) = List.replicate (n * 2) (Value.string ⟨#[]⟩) := by
  induction n with
  | zero => rfl
  | succ n ih => rw [List.replicate_succ, show cells2 (z103 :: List.replicate n z103) = [.string ⟨#[]⟩, .string ⟨#[]⟩] ++ cells2 (List.replicate n z103) from rfl, ih, show (n + 1) * 2 = n * 2 + 1 + 1 by omega, List.replicate_succ, List.replicate_succ]; rfl
 rw [h1]
 refine Array.ext (by simp [madeCells]) fun i hi1 hi2 => ?_
 simp only [madeCells, Value.cells, Array.getElem_map, List.getElem_toArray, List.getElem_replicate]
 rcases Nat.mod_two_eq_zero_or_one ((Array.range (n * 2))[i]'(by simpa [madeCells] using hi1)) with h | h <;> simp only [List.size_toArray, List.length_cons, List.length_nil] <;> rw [h] <;> rfl
theorem make2_event {ops : Array Oper} {rest : List Oper} {o : Oper} {a : Act} {Q : Exit → Act → World → Prop} {W : World} (hgd : o.guard = none) {M : Tmp} (hd : o.dst = some M) (x : Operand) (ho : o.op = .makeSlice 39 x x) (n : Nat) (hx : a.eval x = .int .i64 n) (hn : n ≤ 12)
  (h : wpList Tryz.prog ops Q rest (a.put o.dst (.slice (some ⟨W.heap.size, 0, none⟩) n n)) (W.alloc (.cells (cells2 (List.replicate n z103)).toArray 103))) : wpList Tryz.prog ops Q (o :: rest) a W := by
 obtain ⟨i0, hi, hzz⟩ := Option.map_eq_some_iff.1 info103
 simp only [Prod.mk.injEq] at hzz
 obtain ⟨hz0, hz1, hz2⟩ := hzz
 have hr := run_make (P := Tryz.prog) W 39 103 i0 _ Tryz.underlying39 hi hz0 .i64 .i64 (n : Int) (n : Int) (by omega) (by omega) (by rw [hz2]; omega) (by omega)
 simp only [Int.toNat_natCast] at hr
 have e : madeCells (Value.agg #[Value.string ⟨#[]⟩, Value.string ⟨#[]⟩]).cells (n * i0.size) = (cells2 (List.replicate n z103)).toArray := by
  rw [hz1]; exact made2 n
 rw [e] at hr
 have hrun : (execOp a.eval o).run Tryz.prog W = .ok (.value (.slice (some ⟨W.heap.size, 0, none⟩) n n)) (W.alloc (.cells (cells2 (List.replicate n z103)).toArray 103)) := by
  simp [execOp, ho, hx, hr]
 exact Kd.event_run hgd hrun h
theorem copy2_event {P : Program} {ops : Array Oper} {rest : List Oper} {o : Oper} {a : Act} {Q : Exit → Act → World → Prop} {W : World} (hgd : o.guard = none) (s x : Operand) (t t' elem : TypeId) (ho : o.op = .call { callee := .builtin .copy, args := #[s, x], argTypes := #[t, t'] })
  (g off dLen dCap : Nat) (A : Addr) (sLen sCap : Nat) (hs : a.eval s = .slice (some ⟨g, off, none⟩) dLen dCap) (hx : a.eval x = .slice (some A) sLen sCap) (cur : Array Value) (ty : TypeId) (cs : List Value) (k : Nat) (hk : k = Nat.min sLen dLen)
  (hu : P.underlying t = some (.slice elem)) (hz : (P.info? elem).map (·.size) = some 2) (hg : W.heap[g]? = some (.cells cur ty (0, 0))) (hn : cs.length = k * 2) (hsrc : ∀ j v, cs[j]? = some v → W.cell? (A.add j) = some v) (hfit : off + cs.length ≤ cur.size) (h1 : ∀ v ∈ cs, v.oneCell' = true)
  (h : wpList P ops Q rest (a.put o.dst (.int .i64 k)) (W.setRow g (cur.toList.take off ++ cs ++ cur.toList.drop (off + cs.length)).toArray)) : wpList P ops Q (o :: rest) a W := by
 have hr := run_copy2 (P := P) W t t' o.type elem g off dLen dCap A sLen sCap cur ty cs k hk hu hz hg hn hsrc hfit h1
 refine wpList_plain hgd fun K hK => ?_
 unfold Oper.wp execOp
 simp only [ho, resolve, invoke, builtin, Sem.run_bind, Sem.run_pure, Result.andThen_ok, List.map_toArray, List.map_cons, List.map_nil, hs, hx, hr]
 exact hK _ _ h
theorem rep_start (z : S103) (n k : Nat) (hk : k ≤ n) : ((cells2 (List.replicate n z103)).toArray.toList.take 0 ++ cells2 (List.replicate k z) ++ (cells2 (List.replicate n z103)).toArray.toList.drop (0 + (cells2 (List.replicate k z)).length)) = cells2 (List.replicate k z ++ List.replicate (n - k) z103) := by
 obtain ⟨m, rfl⟩ : ∃ m, n = k + m := ⟨n - k, by omega⟩
 have e2 : (cells2 (List.replicate k z)).length = k * 2 := by rw [cells2_length, List.length_replicate]
 have e4 : (cells2 (List.replicate k z103)).length = k * 2 := by rw [cells2_length, List.length_replicate]
 rw [List.toList_toArray, e2, List.take_zero, List.nil_append, ← List.replicate_append_replicate, cells2_append, Nat.zero_add, List.drop_append_of_le_length (by omega), List.drop_of_length_le (by omega), cells2_append, show k + m - k = m by omega, List.nil_append]
set_option maxRecDepth 100000 in
theorem repeat_call (z : S103) (n : Nat) (A : Addr) (c : Nat) (w : World) (hn : n ≤ 12) (hc : 1 ≤ c) (hr : Kd.C k103 w (some A) 1 [z]) :
  Calls Tryz.prog 97 #[.slice (some A) 1 c, .int .i64 n] w fun e w' => ∃ v, e = .returned v ∧ Kd.R k103 103 w' w.heap.size (fun _ => True) v (List.replicate n z) ∧ Below w.heap.size w w' := by
 go_enter Tryz.func97, Tryz.ntmps97
 have c0 : ¬ ((n : Int) < 0) := by omega
 have c0b : decide ((n : Int) < 0) = false := decide_eq_false c0
 have hsrc : ∀ j v, (cells2 (List.replicate (min 1 n) z))[j]? = some v → w.cell? (A.add j) = some v := by
  obtain ⟨ad, ea, x0, x1⟩ := at_T103 hr 0 (by omega) (by omega)
  cases ea
  have e1 : rd_T103 [z] 0 = z := rfl
  rw [e1] at x0 x1
  intro j v hj
  have : cells2 (List.replicate (min 1 n) z) = [] ∨ cells2 (List.replicate (min 1 n) z) = [.string z.f0, .string z.f1] := by
   rcases Nat.eq_zero_or_pos n with h | h
   ·left; rw [h]; rfl
   ·right; rw [show min 1 n = 1 by omega]; rfl
  rcases this with h | h
  ·rw [h] at hj; simp at hj
  ·rw [h] at hj
   match j, hj with
   | 0, hj => obtain rfl := Option.some.inj hj; exact x0
   | 1, hj => obtain rfl := Option.some.inj hj; exact x1
 go_wp2_with (first | (go_at_call 169; (refine (mul_call n _ hn).mono ?_); rintro e w1 ⟨rfl, rfl⟩) | ((with_reducible refine gate_dst (N := 30) rfl ?_); refine make2_event rfl rfl (.tmp 29) rfl n rfl hn ?_) | ((with_reducible refine gate_builtin (b := .copy) (xs := #[.tmp 31, .tmp 32]) rfl ?_); refine copy2_event rfl (.tmp 31) (.tmp 32) 39 39 103 rfl _ 0 n n A 1 c rfl rfl _ 103 (cells2 (List.replicate (min 1 n) z)) (min 1 n) rfl Tryz.underlying39 (by kernel_rfl) (heap_alloc_new _ _) (by rw [cells2_length, List.length_replicate]) ?cS ?cF (cells2_one _) ?_; (case cS => exact fun j v hj => pw_cell_below (below_alloc (Below.refl _ _) _) (hsrc j v hj)); (case cF => (rw [List.size_toArray, cells2_length, cells2_length, List.length_replicate, List.length_replicate]; omega))))
 have hgh : ∀ (W : World) (cs : Array Value), (W.alloc (.cells cs 103)).heap[W.heap.size]? = some (.cells cs 103 (0, 0)) := fun W cs => heap_alloc_new _ _
 go_loopg [8] (n + 1) (fun kq v8 w' => ∃ (t : Nat), v8 = .int .i64 t ∧ Aside0 (t ≤ n) ∧ Aside0 (0 < n → 0 < t) ∧ Aside0 (n - t + 1 ≤ kq) ∧ Aside0 (w'.heap[w.heap.size]? = some (.cells (cells2 (List.replicate t z ++ List.replicate (n - t) z103)).toArray 103 (0, 0))) ∧ Aside0 (Below w.heap.size w w'))
 case atStart =>
  refine ⟨min 1 n, rfl, ⟨by omega⟩, ⟨by omega⟩, ⟨by omega⟩, ⟨?_⟩, ⟨?_⟩⟩
  ·have e_ := rep_start z n (min 1 n) (by omega)
   simp only [List.take_zero, List.nil_append, Nat.zero_add, List.toList_toArray] at e_
   rw [setRow_heap _ _ _ _ _ _ (hgh _ _)]
   rw [e_]
  ·exact below_setRow (below_alloc (Below.refl _ _) _) (Nat.le_refl _) _
 case round =>
  obtain ⟨t, rfl, HT, HT0, HK, HH, HB⟩ := hrel
  by_cases ct : t < n
  ·obtain ⟨k1, rfl⟩ : ∃ k1, gk = k1 + 1 := ⟨gk - 1, by have := HK.out; omega⟩
   have hT := HT.out
   have hT0 : 0 < t := HT0.out (by omega)
   obtain ⟨k, hk⟩ : ∃ k, k = min t (n - t) := ⟨_, rfl⟩
   have hk1 : t + k ≤ n := by omega
   have hk2 : 0 < k := by omega
   have hcp : (Builtin.copy_ #[39, 39] 3 #[.slice (some ⟨w.heap.size, t * 2, none⟩) (n - t) (n - t), .slice (some ⟨w.heap.size, 0, none⟩) t n]).run Tryz.prog wr.drew = .ok (.int .i64 k) (wr.drew.setRow w.heap.size (cells2 (List.replicate (t + k) z ++ List.replicate (n - (t + k)) z103)).toArray) := by
    have h := run_copy2 (P := Tryz.prog) wr.drew 39 39 3 103 w.heap.size (t * 2) (n - t) (n - t) ⟨w.heap.size, 0, none⟩ t n _ 103 (cells2 (List.replicate k z)) k hk Tryz.underlying39 (by kernel_rfl) HH.out (by simp [cells2_length]) (fun j v hj => ?_) (by simp [cells2_length] <;> omega) (cells2_one _)
    ·rw [List.toList_toArray, rep_step z t n k HT.out hk] at h
     exact h
    ·have hl : j < k * 2 := by
      rcases Nat.lt_or_ge j (k * 2) with h | h
      ·exact h
      ·rw [List.getElem?_eq_none (by rw [cells2_length, List.length_replicate]; exact h)] at hj
       cases hj
     have e3 : List.replicate t z = List.replicate k z ++ List.replicate (t - k) z := by rw [List.replicate_append_replicate]; congr 1; omega
     have hc := blk_cell HH.out j
     rw [e3] at hc
     rw [add_plain]
     refine hc.trans ?_
     rw [List.append_assoc, cells2_append]
     simp only [List.getElem?_toArray]
     rw [List.getElem?_append_left (by rw [cells2_length, List.length_replicate]; exact hl)]
     exact hj
   clear hk
   go_wp2
   go_region
   go_wp2
   go_roundg k1
   case measure => exact Nat.lt_succ_self _
   case rel => exact ⟨t + k, by push_cast; rfl, ⟨hk1⟩, ⟨fun _ => by omega⟩, ⟨by have := HK.out; omega⟩, ⟨setRow_heap _ _ _ _ _ _ HH.out⟩, ⟨below_setRow (below_drew1 HB.out) (Nat.le_refl _) _⟩⟩
  ·obtain rfl : t = n := by have := HT.out; omega
   go_wp2
   go_ret
   have := HH.out
   rw [Nat.sub_self, List.replicate_zero, List.append_nil] at this
   have hR := R_of_heap (base := w.heap.size) this (Nat.le_refl _) (by simp; omega)
   rw [List.length_replicate] at hR
   exact ⟨_, rfl, hR, HB.out⟩
end Go.Proofs.YtegffolimjiioaaGreatDoor.PB
