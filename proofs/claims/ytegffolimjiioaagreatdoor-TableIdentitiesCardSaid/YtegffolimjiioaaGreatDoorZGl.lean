/- A range over an iterator that writes a slice of its own between the rounds and hands the slice over: the law of such a loop, as the outermost one and within a round. -/
import Derived.RangeFuncNested
namespace Go.Proofs.YtegffolimjiioaaGreatDoor
open Go Go.RowKit
def Mv (b c : Nat) (W W' : World) : Prop := Below b W W' ∧ ∀ k, b + c ≤ k → k < W.heap.size → W'.heap[k]? = W.heap[k]?
def Kept (lo hi : Nat) (W W' : World) : Prop := W.heap.size ≤ W'.heap.size ∧ ∀ k, lo ≤ k → k < hi → W'.heap[k]? = W.heap[k]?
theorem Mv.refl (b c : Nat) (W : World) : Mv b c W W := ⟨Below.refl _ _, fun _ _ _ => rfl⟩
theorem Mv.wider {b c b' c' : Nat} {X Y : World} (h : Mv b c X Y) (hb : b' ≤ b) (hc : b + c ≤ b' + c') : Mv b' c' X Y :=
 ⟨h.1.mono hb, fun k hk hs => h.2 k (by omega) hs⟩
theorem Kept.refl (lo hi : Nat) (W : World) : Kept lo hi W W := ⟨Nat.le_refl _, fun _ _ _ => rfl⟩
theorem Kept.trans {lo hi : Nat} {X Y Z : World} (h : Kept lo hi X Y) (h' : Kept lo hi Y Z) : Kept lo hi X Z :=
 ⟨Nat.le_trans h.1 h'.1, fun k h1 h2 => (h'.2 k h1 h2).trans (h.2 k h1 h2)⟩
theorem Mv.putObj {b c : Nat} (W : World) {l : Nat} (o : Obj) (h1 : b ≤ l) (h2 : l < b + c) : Mv b c W (W.putObj l o) :=
 ⟨⟨rfl, rfl, rfl, by simp, fun k hk => World.putObj_heap_other (by omega)⟩, fun k hk _ => World.putObj_heap_other (by omega)⟩
theorem Mv.alloc {b c : Nat} (W : World) (o : Obj) (hb : b ≤ W.heap.size) : Mv b c W (W.alloc o) :=
 ⟨(Below.refl b W).alloc hb o, fun k _ hs => Below.heap_alloc W o k hs⟩
def Goes {α : Type} (F : Fence) (n : Nat) (P : Program) (l lo b c : Nat) (encs : α → Array Value) (T : α → World → Prop) (g : Nat) (lb : Array Value) (xs : List α) (W : World) : Prop :=
 ∀ J : List α → World → Prop, (∀ s A B, J s A → Mv b c A B → J s B) →
  (∀ pre x W1, J pre W1 → b + c ≤ W1.heap.size → T x W1 → (pre ++ [x]) <+: xs → YieldAt F (n - 1) P l (encs x) W1 fun e W' => e = .returned (.bool true) ∧ J (pre ++ [x]) W' ∧ Kept lo (b + c) W1 W') →
  J [] W → CallsIn F n P g (#[.func (.yield l) #[] #[]] ++ lb) W fun e W' => (∃ v, e = .returned v) ∧ J xs W'
variable {F : Fence} {n : Nat} {P : Program}
theorem yield_mono {m l : Nat} {args : Array Value} {W : World} {R R' : Ending → World → Prop} (h : YieldAt F m P l args W R) (k : ∀ e W', R e W' → R' e W') : YieldAt F m P l args W R' := by
 obtain ⟨fn, tmps, assign, body, hy, hR⟩ := h
 exact ⟨fn, tmps, assign, body, hy, hR.mono k⟩
def bodyPost {α : Type} (lo hi : Nat) (I : List α → World → Prop) (xs : List α) (W : World) : Exit → Act → World → Prop
 | .normal, _, W' => Kept lo hi W W' ∧ I xs W'
 | _, _, _ => False
theorem round_of {α : Type} {xs : List α} {ps : Array Tmp} {assign body : Code} {a : Act} {m l lo b c : Nat} {fn : FuncId} {encs : α → Array Value} {T : α → World → Prop} {rec : LoopState → Option Code → Loop} {D : Nat}
  (hrec : ∀ st pe, rec st pe = { state := st, pending := pe, fn := fn, tmps := a.tmps, params := ps, assign := assign, body := body, defers := D })
  (hfn : F.fn fn) (hps : ∀ x, (encs x).size = ps.size) (hl1 : lo ≤ l) (hl2 : l < b)
  (I : List α → World → Prop) (hI : ∀ s A o, I s A → I s (A.putObj l o)) (hT : ∀ x A B, T x A → (∀ k, b ≤ k → k < b + c → B.heap[k]? = A.heap[k]?) → T x B)
  (Ax : α → Act → World → Prop) (hAx : ∀ x a' A o, Ax x a' A → Ax x a' (A.putObj l o))
  (hassign : ∀ (pre : List α) (x : α) (W : World) (K : Act → World → Prop), I pre W → b + c ≤ W.heap.size → T x W →
   (∀ a' W', Kept lo (b + c) W W' → I pre W' → Ax x a' W' → K a' W') →
   assign.wpIn (F.inRound l) m P (Exit.then K (fun _ _ _ => False)) { tmps := (ps.zip (encs x)).foldl (fun t (p, v) => t.setIfInBounds p v) a.tmps, defers := [] } W)
  (hbody : ∀ (pre : List α) (x : α) (a' : Act) (W : World), (pre ++ [x]) <+: xs → (∃ r, W.heap[l]? = some (.loop r)) → I pre W → b + c ≤ W.heap.size → T x W → Ax x a' W →
   body.wpIn (F.inRound l) m P (bodyPost lo (b + c) I (pre ++ [x]) W) a' W)
  (pre : List α) (x : α) (W : World) (hpre : (pre ++ [x]) <+: xs) (hi : I pre W) (hl : W.heap[l]? = some (.loop (rec .ready none))) (hsz : b + c ≤ W.heap.size) (ht : T x W) :
  YieldAt F m P l (encs x) W fun e W' => e = .returned (.bool true) ∧ (I (pre ++ [x]) W' ∧ W'.heap[l]? = some (.loop (rec .ready none))) ∧ Kept lo (b + c) W W' := by
 have hy := run_yield (P := P) (args := encs x) hl (by rw [hrec]; exact hps x)
 rw [hrec] at hy
 refine ⟨fn, _, assign, body, hy, roundIn_of_wpIn hfn (hassign pre x W _ hi hsz ht ?_)⟩
 intro a' Wa hka hia hax
 have hla : Wa.heap[l]? = some (.loop (rec .ready none)) := (hka.2 l hl1 (by omega)).trans hl
 have hlt : l < Wa.heap.size := (Array.getElem?_eq_some_iff.1 hla).1
 have hta : T x Wa := hT x W Wa ht fun k h1 h2 => hka.2 k (by omega) h2
 refine ⟨_, run_beginRound hla (by rw [hrec]), ?_⟩
 have hl2' : (Wa.putObj l (.loop { rec .ready none with state := .busy })).heap[l]? = some (.loop { rec .ready none with state := .busy }) := World.putObj_heap_same hlt
 refine wpIn_mono (hbody pre x a' _ hpre ⟨_, hl2'⟩ (hI _ _ _ hia) (by rw [World.putObj_size]; exact Nat.le_trans hsz hka.1)
  (hT x Wa _ hta fun k h1 _ => World.putObj_heap_other (by omega)) (hAx x a' _ _ hax)) ?_
 rintro e a3 W3 hp
 cases e with
 | normal =>
  obtain ⟨hk3, hi3⟩ := hp
  have hl3 := (hk3.2 l hl1 (by omega)).trans hl2'
  have hr := run_endRound (P := P) none hl3
  have hb : ({ ({ rec .ready none with state := .busy } : Loop) with state := .ready, pending := none } : Loop) = rec .ready none := by rw [hrec]
  simp only [Option.isNone_none, if_true] at hr
  rw [hb] at hr
  refine ⟨_, _, hr, rfl, ⟨hI _ _ _ hi3, World.putObj_heap_same (Array.getElem?_eq_some_iff.1 hl3).1⟩, ?_, ?_⟩
  ·rw [World.putObj_size]; have := hk3.1; rw [World.putObj_size] at this; exact Nat.le_trans hka.1 this
  ·intro k h1 h2
   by_cases hkl : k = l
   ·subst hkl; rw [World.putObj_heap_same (Array.getElem?_eq_some_iff.1 hl3).1, hl]
   ·rw [World.putObj_heap_other hkl, hk3.2 k h1 h2, World.putObj_heap_other hkl, hka.2 k h1 h2]
 | ret => exact hp.elim
 | exit id => exact hp.elim
 | goto t => exact hp.elim
 | panic ch => exact hp.elim
 | outgrown => exact hp.elim
theorem loop_outer {α : Type} {g : Operand} {ps : Array Tmp} {assign body : Code} {Q : Exit → Act → World → Prop} {a : Act} {w : World} {c lo : Nat}
  (hro : F.round = none) (h1 : 1 ≤ n) {gf : Nat} {lb : Array Value} (hg : a.eval g = .func (.func gf) #[] lb) (hFg : F.fn gf) (eg : ∀ args w, (callFunc gf args).run P w = .ok (.enter gf args) w)
  {encs : α → Array Value} {T : α → World → Prop} {xs : List α} (hps : ∀ x, (encs x).size = ps.size)
  (hseq : ∀ o : Loop, Goes F (n - 1) P (w.heap.size + 1) lo (w.heap.size + 2) c encs T gf lb xs ((w.alloc (.deferred (some []))).alloc (.loop o))) (hlo : lo ≤ w.heap.size)
  (I : List α → World → Prop) (hI : ∀ s A B, I s A → Mv w.heap.size (2 + c) A B → I s B) (hT : ∀ x A B, T x A → (∀ k, w.heap.size + 2 ≤ k → k < w.heap.size + 2 + c → B.heap[k]? = A.heap[k]?) → T x B) (h0 : I [] w)
  (Ax : α → Act → World → Prop) (hAx : ∀ x a' A o, Ax x a' A → Ax x a' (A.putObj (w.heap.size + 1) o))
  (hassign : ∀ (pre : List α) (x : α) (W : World) (K : Act → World → Prop), I pre W → w.heap.size + 2 + c ≤ W.heap.size → T x W →
   (∀ a' W', Kept lo (w.heap.size + 2 + c) W W' → I pre W' → Ax x a' W' → K a' W') →
   assign.wpIn (F.inRound (w.heap.size + 1)) (n - 1 - 1) P (Exit.then K (fun _ _ _ => False)) { tmps := (ps.zip (encs x)).foldl (fun t (p, v) => t.setIfInBounds p v) a.tmps, defers := [] } W)
  (hbody : ∀ (pre : List α) (x : α) (a' : Act) (W : World), (pre ++ [x]) <+: xs → (∃ r, W.heap[w.heap.size + 1]? = some (.loop r)) → I pre W → w.heap.size + 2 + c ≤ W.heap.size → T x W → Ax x a' W →
   body.wpIn (F.inRound (w.heap.size + 1)) (n - 1 - 1) P (bodyPost lo (w.heap.size + 2 + c) I (pre ++ [x]) W) a' W)
  (hdone : ∀ (W : World), I xs W → W.heap[w.heap.size]? = some (.deferred (some [])) → Q .normal { a with defers := { target := .collected w.heap.size, args := #[] } :: a.defers } W) :
  (Code.rangeFunc g ps assign body).wpIn F n P Q a w := by
 refine wpIn_rangeFunc ?_
 intro fn hfn
 rw [hro]
 obtain ⟨rec, hrec⟩ : ∃ rec : LoopState → Option Code → Loop, rec = fun st pe => { state := st, pending := pe, fn, tmps := a.tmps, params := ps, assign, body, defers := w.heap.size } := ⟨_, rfl⟩
 have hrec' : ∀ st pe, rec st pe = { state := st, pending := pe, fn := fn, tmps := a.tmps, params := ps, assign := assign, body := body, defers := w.heap.size } := fun st pe => by rw [hrec]
 obtain ⟨W1, hW1⟩ : ∃ W1, (w.alloc (.deferred (some []))).alloc (.loop (rec .ready none)) = W1 := ⟨_, rfl⟩
 have hL1 : W1.heap[w.heap.size + 1]? = some (.loop (rec .ready none)) := by
  rw [← hW1]; have := World.alloc_heap_new (w.alloc (.deferred (some []))) (.loop (rec .ready none)); rwa [World.size_alloc] at this
 have hK1 : W1.heap[w.heap.size]? = some (.deferred (some [])) := by
  rw [← hW1]; exact (Below.heap_alloc _ _ _ (by simp)).trans (World.alloc_heap_new w _)
 have hI1 : I [] W1 := by
  rw [← hW1]; exact hI _ _ _ (hI _ _ _ h0 (Mv.alloc _ _ (Nat.le_refl _))) (Mv.alloc _ _ (by simp))
 refine ⟨w.heap.size + 1, [{ target := .collected w.heap.size, args := #[] }], W1, { target := .fn (.func gf) lb, args := #[.func (.yield (w.heap.size + 1)) #[] #[]] }, W1, gf,
  #[.func (.yield (w.heap.size + 1)) #[] #[]] ++ lb, W1, ?_, ?_, ?_, ?_, fun _ => h1, ?_⟩
 ·rw [← hW1, hrec]; exact run_enterLoop_outer _ _ _ _ _
 ·simp only [resolve, hg]
  simp [go_sem]
 ·intro f' hf'; simp [Target.leads] at hf'; subst hf'; exact hFg
 ·simp [invoke, go_sem, eg]
 ·have hs := hseq (rec .ready none)
  rw [hW1] at hs
  refine (hs (fun pre W => (I pre W ∧ W.heap[w.heap.size + 1]? = some (.loop (rec .ready none))) ∧ W.heap[w.heap.size]? = some (.deferred (some []))) ?_ ?_ ⟨⟨hI1, hL1⟩, hK1⟩).mono ?_
  ·rintro s A B ⟨⟨hi, hl⟩, hk⟩ hm
   exact ⟨⟨hI _ _ _ hi (hm.wider (by omega) (by omega)), (hm.1.block _ (by omega)).trans hl⟩, (hm.1.block _ (by omega)).trans hk⟩
  ·rintro pre x W ⟨⟨hi, hl⟩, hk⟩ hsz ht hpre
   refine yield_mono (round_of (D := w.heap.size) hrec' hfn hps (by omega) (by omega) I (fun s A o h => hI _ _ _ h (Mv.putObj _ _ (by omega) (by omega))) hT Ax hAx hassign hbody pre x W hpre hi hl hsz ht) ?_
   rintro e W' ⟨he, hil, hkp⟩
   exact ⟨he, ⟨hil, (hkp.2 _ hlo (by omega)).trans hk⟩, hkp⟩
  ·rintro e W2 ⟨⟨v, rfl⟩, ⟨hi, hl⟩, hk⟩
   exact ⟨none, _, by have := run_endLoop (P := P) hl (by rw [hrec]; simp); rw [hrec] at this; exact this,
    hdone _ (hI _ _ _ hi (Mv.putObj _ _ (by omega) (by omega))) ((World.putObj_heap_other (by omega)).trans hk)⟩
theorem loop_inner {α : Type} {g : Operand} {ps : Array Tmp} {assign body : Code} {Q : Exit → Act → World → Prop} {a : Act} {w : World} {c lo : Nat} {l₀ : Nat} {r₀ : Loop}
  (hro : F.round = some l₀) (hl₀ : w.heap[l₀]? = some (.loop r₀)) (h1 : 1 ≤ n) {gf : Nat} {lb : Array Value} (hg : a.eval g = .func (.func gf) #[] lb) (hFg : F.fn gf) (eg : ∀ args w, (callFunc gf args).run P w = .ok (.enter gf args) w)
  {encs : α → Array Value} {T : α → World → Prop} {xs : List α} (hps : ∀ x, (encs x).size = ps.size)
  (hseq : ∀ o : Loop, Goes F (n - 1) P w.heap.size lo (w.heap.size + 1) c encs T gf lb xs (w.alloc (.loop o))) (hlo : lo ≤ w.heap.size)
  (I : List α → World → Prop) (hI : ∀ s A B, I s A → Mv w.heap.size (1 + c) A B → I s B) (hT : ∀ x A B, T x A → (∀ k, w.heap.size + 1 ≤ k → k < w.heap.size + 1 + c → B.heap[k]? = A.heap[k]?) → T x B) (h0 : I [] w)
  (Ax : α → Act → World → Prop) (hAx : ∀ x a' A o, Ax x a' A → Ax x a' (A.putObj w.heap.size o))
  (hassign : ∀ (pre : List α) (x : α) (W : World) (K : Act → World → Prop), I pre W → w.heap.size + 1 + c ≤ W.heap.size → T x W →
   (∀ a' W', Kept lo (w.heap.size + 1 + c) W W' → I pre W' → Ax x a' W' → K a' W') →
   assign.wpIn (F.inRound w.heap.size) (n - 1 - 1) P (Exit.then K (fun _ _ _ => False)) { tmps := (ps.zip (encs x)).foldl (fun t (p, v) => t.setIfInBounds p v) a.tmps, defers := [] } W)
  (hbody : ∀ (pre : List α) (x : α) (a' : Act) (W : World), (pre ++ [x]) <+: xs → (∃ r, W.heap[w.heap.size]? = some (.loop r)) → I pre W → w.heap.size + 1 + c ≤ W.heap.size → T x W → Ax x a' W →
   body.wpIn (F.inRound w.heap.size) (n - 1 - 1) P (bodyPost lo (w.heap.size + 1 + c) I (pre ++ [x]) W) a' W)
  (hdone : ∀ (W : World), I xs W → Q .normal a W) :
  (Code.rangeFunc g ps assign body).wpIn F n P Q a w := by
 refine wpIn_rangeFunc ?_
 intro fn hfn
 rw [hro]
 obtain ⟨rec, hrec⟩ : ∃ rec : LoopState → Option Code → Loop, rec = fun st pe => { state := st, pending := pe, fn, tmps := a.tmps, params := ps, assign, body, defers := r₀.defers } := ⟨_, rfl⟩
 have hrec' : ∀ st pe, rec st pe = { state := st, pending := pe, fn := fn, tmps := a.tmps, params := ps, assign := assign, body := body, defers := r₀.defers } := fun st pe => by rw [hrec]
 obtain ⟨W1, hW1⟩ : ∃ W1, w.alloc (.loop (rec .ready none)) = W1 := ⟨_, rfl⟩
 have hL1 : W1.heap[w.heap.size]? = some (.loop (rec .ready none)) := by rw [← hW1]; exact World.alloc_heap_new w _
 have hI1 : I [] W1 := by rw [← hW1]; exact hI _ _ _ h0 (Mv.alloc _ _ (Nat.le_refl _))
 refine ⟨w.heap.size, [], W1, { target := .fn (.func gf) lb, args := #[.func (.yield w.heap.size) #[] #[]] }, W1, gf,
  #[.func (.yield w.heap.size) #[] #[]] ++ lb, W1, ?_, ?_, ?_, ?_, fun _ => h1, ?_⟩
 ·rw [← hW1, hrec]; exact run_enterLoop_inner hl₀ _ _ _ _ _
 ·simp only [resolve, hg]
  simp [go_sem]
 ·intro f' hf'; simp [Target.leads] at hf'; subst hf'; exact hFg
 ·simp [invoke, go_sem, eg]
 ·have hs := hseq (rec .ready none)
  rw [hW1] at hs
  refine (hs (fun pre W => I pre W ∧ W.heap[w.heap.size]? = some (.loop (rec .ready none))) ?_ ?_ ⟨hI1, hL1⟩).mono ?_
  ·rintro s A B ⟨hi, hl⟩ hm
   exact ⟨hI _ _ _ hi (hm.wider (by omega) (by omega)), (hm.1.block _ (by omega)).trans hl⟩
  ·rintro pre x W ⟨hi, hl⟩ hsz ht hpre
   refine yield_mono (round_of (D := r₀.defers) hrec' hfn hps (by omega) (by omega) I (fun s A o h => hI _ _ _ h (Mv.putObj _ _ (by omega) (by omega))) hT Ax hAx hassign hbody pre x W hpre hi hl hsz ht) ?_
   rintro e W' ⟨he, hil, hkp⟩
   exact ⟨he, hil, hkp⟩
  ·rintro e W2 ⟨⟨v, rfl⟩, hi, hl⟩
   exact ⟨none, _, by have := run_endLoop (P := P) hl (by rw [hrec]; simp); rw [hrec] at this; exact this, hdone _ (hI _ _ _ hi (Mv.putObj _ _ (by omega) (by omega)))⟩
end Go.Proofs.YtegffolimjiioaaGreatDoor
