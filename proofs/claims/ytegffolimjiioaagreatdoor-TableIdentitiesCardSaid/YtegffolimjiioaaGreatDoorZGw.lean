/- What the calls ask of the world: the package-level variables of the library hold what their initialisers lay. Below keeps it. -/
import Derived.Test.YtegffolimjiioaaGreatDoorProg
import Derived.Test.YtegffolimjiioaaGreatDoorZWApart
import Derived.Lib.AppendIntMem
import Derived.WalkSmall
set_option linter.unusedVariables false
namespace Go.Proofs.YtegffolimjiioaaGreatDoor
open Go.RowKit Go.Proofs.YtegffolimjiioaaGreatDoorW.PrintWords
structure GW (w : World) : Prop where
 tab : Lib.TabIs Tryz.prog w "internal/strconv.uint64pow10" .u64 Lib.pow10Tab
 syn : ∃ tp p, w.var? Tryz.prog "strconv.ErrSyntax" = some #[.iface tp p]
 rng : ∃ tp p, w.var? Tryz.prog "strconv.ErrRange" = some #[.iface tp p]
theorem var_below {w W : World} {name : String} {cs : Array Value} (h : w.var? Tryz.prog name = some cs) (hb : Below w.heap.size w W) : W.var? Tryz.prog name = some cs := by
 cases hg : Tryz.prog.globalNamed name with
 | none => unfold World.var? at h; simp [hg] at h
 | some g =>
  have hlt : g < w.heap.size := by
   unfold World.var? at h
   simp only [hg, Option.bind_some] at h
   rcases Nat.lt_or_ge g w.heap.size with h' | h'
   ·exact h'
   ·rw [Array.getElem?_eq_none h'] at h; simp at h
  exact var?_below hb hg hlt h
theorem GW.below {w W : World} (h : GW w) (hb : Below w.heap.size w W) : GW W :=
 ⟨var_below h.tab hb, by obtain ⟨tp, p, h⟩ := h.syn; exact ⟨tp, p, var_below h hb⟩, by obtain ⟨tp, p, h⟩ := h.rng; exact ⟨tp, p, var_below h hb⟩⟩
section
variable {P : Program} {ops : Array Oper} {rest : List Oper} {o : Oper} {a : Act} {Q : Exit → Act → World → Prop} {α : Type}
theorem R_makecap (d : Kd α) {w0 W : World} (base e : Nat) (hgd : o.guard = none) {N : Tmp} (hd : o.dst = some N) (t : TypeId) (x y : Operand) (ho : o.op = .makeSlice t x y) (n : Int) (hx : a.eval x = .int .i64 0) (hy : a.eval y = .int .i64 n)
  (ht : P.underlying t = some (.slice e)) (z : Value) (bytes : Nat) (hinfo : (P.info? e).map (fun i => (i.zero, i.size, i.bytes)) = some (some z, d.sz, bytes)) (hz : z.cells.size = d.sz) (hs0 : 0 < d.sz) (hb0 : 0 < bytes)
  (z0 : α) {ok okp : Nat → Prop} (hzero : d.M W base okp z0 z.cells.toList) (hok : ∀ k, okp k → ok k) (hfresh : ok W.heap.size) (h0 : 0 ≤ n) (hl : n.toNat * bytes ≤ 281474976710656) (HB : Below base w0 W) (hbase : base ≤ W.heap.size)
  (h : ∀ v1 w1, d.R e w1 base ok v1 ([] : List α) → Below base w0 w1 → W.grownBy w1 none → (∃ b, v1.ownBlock = some b ∧ W.heap.size ≤ b) → wpList P ops Q rest (a.put o.dst v1) w1) : wpList P ops Q (o :: rest) a W := by
 obtain ⟨m, rfl⟩ := Int.eq_ofNat_of_zero_le h0
 simp only [Int.toNat_natCast] at hl
 obtain ⟨i0, hi, hzz⟩ := Option.map_eq_some_iff.1 hinfo
 simp only [Prod.mk.injEq] at hzz
 obtain ⟨hz0, hz1, hz2⟩ := hzz
 have hm : m ≤ 281474976710656 := Nat.le_trans (Nat.le_mul_of_pos_right _ hb0) hl
 have hr := run_make (P := P) W t e i0 z ht hi hz0 .i64 .i64 0 (m : Int) (by omega) (by omega)
  (by
   have h3 : ((i0.bytes * m : Nat) : Int) ≤ 281474976710656 := by rw [hz2, Nat.mul_comm]; omega
   rwa [Int.natCast_mul] at h3) (by omega)
 simp only [Int.toNat_natCast, Int.toNat_zero] at hr
 rw [hz1] at hr
 have hrun : (execOp a.eval o).run P W = .ok (.value (.slice (some ⟨W.heap.size, 0, none⟩) 0 m)) (W.alloc (.cells (madeCells z.cells (m * d.sz)) e)) := by
  simp [execOp, ho, hx, hy, hr]
 refine Kd.event_run hgd hrun (h _ _ ⟨fun k hk => ?_, [], ⟨by simp, .inr ⟨W.heap.size, m, madeCells z.cells (m * d.sz), rfl, hbase, heap_alloc_new W _, Nat.zero_le _, by simp [maxLen]; omega, by simp [size_madeCells], by simp⟩⟩, Reps.none _ _⟩ (HB.alloc hbase _) (World.grownBy_alloc W _ none) ⟨W.heap.size, by simp [Value.ownBlock], Nat.le_refl _⟩)
 have : W.heap.size = k := by simpa [Value.ownBlock] using hk
 subst this
 exact hfresh
end
section
variable {α : Type}
def swapL {β : Type} (d : β) (xs : List β) (i j : Nat) : List β := (xs.set i (xs.getD j d)).set j (xs.getD i d)
theorem reps_get {β : Type} {R : β → List Value → Prop} {ps : List β} {cs : List Value} (h : Reps R 1 ps cs) (j : Nat) (hj : j < ps.length) : ∃ v, cs[j]? = some v ∧ R ps[j] [v] := by
 have hl := h.1
 rw [Nat.mul_one] at hl
 have h2 := h.2 j _ (List.getElem?_eq_getElem hj)
 rw [Nat.mul_one] at h2
 refine ⟨cs[j], List.getElem?_eq_getElem (by omega), ?_⟩
 have e : (cs.drop j).take 1 = [cs[j]'(by omega)] := by rw [List.drop_eq_getElem_cons (by omega)]; rfl
 rwa [e] at h2
theorem reps_of {β : Type} {R : β → List Value → Prop} {ps : List β} {cs : List Value} (hl : cs.length = ps.length) (h : ∀ j (hj : j < ps.length) v, cs[j]? = some v → R ps[j] [v]) : Reps R 1 ps cs := by
 refine ⟨by omega, fun j p hj => ?_⟩
 obtain ⟨hj', rfl⟩ := List.getElem?_eq_some_iff.1 hj
 have := h j hj' cs[j] (List.getElem?_eq_getElem (by omega))
 have e : (cs.drop j).take 1 = [cs[j]'(by omega)] := by rw [List.drop_eq_getElem_cons (by omega)]; rfl
 rwa [Nat.mul_one, e]
theorem S_eq {d : Kd α} {e : Nat} {W : World} {base : Nat} {ok : Nat → Prop} {v : Value} {xs y : List α} (h : Kd.S d e W base ok v xs) (hy : y = xs) : Kd.S d e W base ok v y := hy ▸ h
theorem S_swap {d : Kd α} {e e' : Nat} {W : World} {base : Nat} {ok : Nat → Prop} {A : Option Addr} {c : Nat} {xs : List (List α)} (h : Kd.S (Kd.slice e' d) e W base ok (.slice A xs.length c) xs)
  (i j : Nat) (hi : i < xs.length) (hj : j < xs.length) :
  ∃ (g : Nat) (Ai Aj : Option Addr) (ni nj ci cj : Nat), A = some ⟨g, 0, none⟩ ∧ W.cell? ⟨g, i, none⟩ = some (.slice Ai ni ci) ∧ W.cell? ⟨g, j, none⟩ = some (.slice Aj nj cj) ∧ W.frozen? ⟨g, i, none⟩ = false ∧ W.frozen? ⟨g, j, none⟩ = false ∧ base ≤ g ∧ ok g ∧ (∃ cur : Array Value, W.heap[g]? = some (.cells cur e (0, 0))) ∧
   ∀ W', W' = (W.setCell ⟨g, i, none⟩ (.slice Aj nj cj)).setCell ⟨g, j, none⟩ (.slice Ai ni ci) →
    Kd.S (Kd.slice e' d) e W' base ok (.slice A xs.length c) (swapL [] xs i j) ∧ W.grownBy W' (some g) := by
 obtain ⟨f, h0, inner, ho, hr⟩ := h
 rw [List.length_zipIdx] at ho
 replace ho : W.ownsRow base e 1 (.slice A xs.length c) xs.length inner := ho
 replace hr : Reps ((Kd.tag f (Kd.slice e' d)).M W base (fun k => ok k ∧ some k ≠ (Value.slice A xs.length c).ownBlock)) 1 xs.zipIdx inner := hr
 have hil : inner.length = xs.length := by have := ho.1; omega
 rcases ho.2 with ⟨_, h00⟩ | ⟨g, cap, cur, hv, hb, hh, hnc, hcm, hcs, ht⟩
 ·omega
 injection hv with hA _ hc
 subst hA; subst hc
 have hzi : xs.zipIdx.length = xs.length := List.length_zipIdx
 obtain ⟨vi, hvi, hMi⟩ := reps_get hr i (by omega)
 obtain ⟨vj, hvj, hMj⟩ := reps_get hr j (by omega)
 have zi : xs.zipIdx[i]'(by omega) = (xs[i], i) := by simp
 have zj : xs.zipIdx[j]'(by omega) = (xs[j], j) := by simp
 rw [zi] at hMi
 rw [zj] at hMj
 have gi : xs.getD i [] = xs[i] := by simp [List.getD_eq_getElem?_getD, List.getElem?_eq_getElem hi]
 have gj : xs.getD j [] = xs[j] := by simp [List.getD_eq_getElem?_getD, List.getElem?_eq_getElem hj]
 obtain ⟨vi', e1, hRi⟩ : ∃ v, [vi] = [v] ∧ d.R e' W base (fun k => (ok k ∧ some k ≠ (Value.slice (some ⟨g, 0, none⟩) xs.length c).ownBlock) ∧ f k = i) v xs[i] := hMi
 obtain rfl : vi = vi' := by simpa using e1
 obtain ⟨vj', e2, hRj⟩ : ∃ v, [vj] = [v] ∧ d.R e' W base (fun k => (ok k ∧ some k ≠ (Value.slice (some ⟨g, 0, none⟩) xs.length c).ownBlock) ∧ f k = j) v xs[j] := hMj
 obtain rfl : vj = vj' := by simpa using e2
 obtain ⟨Ai, ci, rfl⟩ := Kd.R_slice hRi
 obtain ⟨Aj, cj, rfl⟩ := Kd.R_slice hRj
 have cell : ∀ k v, inner[k]? = some v → W.cell? ⟨g, k, none⟩ = some v := fun k v hk => by
  have := ho.cells (g := g) rfl k v hk
  rwa [add_plain] at this
 have froz : ∀ k, W.frozen? ⟨g, k, none⟩ = false := fun k => by simp [World.frozen?, hh]
 refine ⟨g, Ai, Aj, _, _, ci, cj, rfl, cell i _ hvi, cell j _ hvj, froz i, froz j, hb, h0 g rfl, ⟨_, hh⟩, ?_⟩
 rintro W' rfl
 obtain ⟨ho1, hg1⟩ := ho.stored i (.slice Aj xs[j].length cj)
 obtain ⟨ho2, hg2⟩ := ho1.stored j (.slice Ai xs[i].length ci)
 have hg := hg1.trans hg2
 refine ⟨?_, hg⟩
 -- the owners change with the elements
 have hsl : (swapL [] xs i j).length = xs.length := by simp [swapL]
 refine ⟨fun b => if f b = i then j else if f b = j then i else f b, h0, (inner.set i (.slice Aj xs[j].length cj)).set j (.slice Ai xs[i].length ci), ?_, ?_⟩
 ·rw [List.length_zipIdx, hsl]
  exact ho2
 ·refine reps_of (by simp [hil, hsl]) fun k hk v hkv => ?_
  have hk' : k < xs.length := by rw [List.length_zipIdx, hsl] at hk; exact hk
  have zk : (swapL [] xs i j).zipIdx[k] = ((swapL [] xs i j)[k]'(by omega), k) := by simp
  rw [zk]
  have moved : ∀ (m : Nat) (v : Value) (l : List α), d.R e' W base (fun k => (ok k ∧ some k ≠ (Value.slice (some ⟨g, 0, none⟩) xs.length c).ownBlock) ∧ f k = m) v l → (m = i → k = j) → (m = j → m ≠ i → k = i) → (m ≠ i → m ≠ j → k = m) →
    (Kd.tag (fun b => if f b = i then j else if f b = j then i else f b) (Kd.slice e' d)).M ((W.setCell ⟨g, i, none⟩ (.slice Aj xs[j].length cj)).setCell ⟨g, j, none⟩ (.slice Ai xs[i].length ci)) base (fun k => ok k ∧ some k ≠ (Value.slice (some ⟨g, 0, none⟩) xs.length c).ownBlock) (l, k) [v] := fun m v l hR c1 c2 c3 => by
   refine ⟨v, rfl, Kd.R_mono (Kd.R_grown hR hg (fun b hb => hb.1.2)) fun b hb => ⟨hb.1, ?_⟩⟩
   have hm := hb.2
   show (if f b = i then j else if f b = j then i else f b) = k
   rw [hm]
   by_cases d1 : m = i
   ·rw [if_pos d1, c1 d1]
   ·rw [if_neg d1]
    by_cases d2 : m = j
    ·rw [if_pos d2, c2 d2 d1]
    ·rw [if_neg d2, c3 d1 d2]
  by_cases kj : k = j
  ·subst kj
   rw [List.getElem?_set_self (by simp; omega)] at hkv
   obtain rfl := Option.some.inj hkv
   have : (swapL [] xs i k)[k]'(by omega) = xs[i] := by
    simp only [swapL]
    rw [List.getElem_set_self, gi]
   rw [this]
   exact moved i _ _ hRi (fun _ => rfl) (fun h1 h2 => absurd rfl h2) (fun h1 _ => absurd rfl h1)
  ·rw [List.getElem?_set_ne (by omega)] at hkv
   by_cases ki : k = i
   ·subst ki
    rw [List.getElem?_set_self (by omega)] at hkv
    obtain rfl := Option.some.inj hkv
    have : (swapL [] xs k j)[k]'(by omega) = xs[j] := by
     simp only [swapL]
     rw [List.getElem_set_ne (by omega), List.getElem_set_self, gj]
    rw [this]
    exact moved j _ _ hRj (fun h => absurd h.symm kj) (fun _ _ => rfl) (fun _ h => absurd rfl h)
   ·rw [List.getElem?_set_ne (by omega)] at hkv
    obtain ⟨v2, hv2, hMk⟩ := reps_get hr k (by omega)
    have zk2 : xs.zipIdx[k]'(by omega) = (xs[k], k) := by simp
    rw [zk2] at hMk
    obtain ⟨v2', e3, hRk⟩ : ∃ v, [v2] = [v] ∧ d.R e' W base (fun b => (ok b ∧ some b ≠ (Value.slice (some ⟨g, 0, none⟩) xs.length c).ownBlock) ∧ f b = k) v xs[k] := hMk
    obtain rfl : v2 = v2' := by simpa using e3
    obtain rfl : v = v2 := Option.some.inj (hkv.symm.trans hv2)
    have : (swapL [] xs i j)[k]'(by omega) = xs[k] := by
     simp only [swapL]
     rw [List.getElem_set_ne (by omega), List.getElem_set_ne (by omega)]
    rw [this]
    exact moved k _ _ hRk (fun h => absurd h ki) (fun h _ => absurd h kj) (fun _ _ => rfl)
end
end Go.Proofs.YtegffolimjiioaaGreatDoor
