/- What is walked outside a round holds within one: operations that are no defer. -/
import Derived.Test.YtegffolimjiioaaGreatDoorZGl
import Derived.RangeFuncBound
import Derived.RangeFuncCalls
import Derived.TacticsIn
namespace Go.Proofs.YtegffolimjiioaaGreatDoor
open Go Go.RowKit
theorem op_lift {l n : Nat} {P : Program} {o : Oper} {a : Act} {K K' : Act → World → Prop} {Q : Exit → Act → World → Prop} {w : World} (hd : ∀ c, o.op ≠ .defer c)
  (hK : ∀ a w, K a w → K' a w) (h : o.wp P a w K Q) : o.wpIn (Fence.wide.inRound l) n P a w K' Q := by
 refine ⟨fun _ _ => trivial, ?_⟩
 rw [show (Fence.wide.inRound l).round = some l from rfl, Oper.semAt_some l _ o hd]
 unfold Oper.wp at h
 cases hr : (execOp a.eval o).run P w with
 | ok v w' =>
  rw [hr] at h
  cases v with
  | value v => exact hK _ _ h
  | skip => exact hK _ _ h
  | defer d => exact hK _ _ h
  | enter f args =>
   refine And.intro (fun h1 => by simp [Fence.inRound, Fence.wide] at h1) ?_
   have hc : CallsIn Fence.wide (n - 1) P f args w' _ := callsIn_wide.2 h
   refine (CallsIn.inRound l hc).mono ?_
   rintro e w'' hp
   cases e with
   | returned v => exact hK _ _ hp
   | panicked ch => exact hp
   | outgrown => exact hp
  | row row args =>
   refine And.intro (fun h1 => by simp [Fence.inRound, Fence.wide] at h1) ?_
   intro c cs _
   obtain ⟨v, w2, hv, hs⟩ := h c cs
   exact ⟨v, w2, hK _ _ hv, stepsIn_wide.2 hs⟩
  | _ => exact h.elim
 | halt hl w' =>
  rw [hr] at h
  cases hl with
  | panic v => exact h
  | _ => exact h
theorem list_lift {l n : Nat} {P : Program} {ops : Array Oper} {Q : Exit → Act → World → Prop} (hno : ¬ LetsOut Q) : ∀ (L : List Oper) (a : Act) (w : World), (∀ o ∈ L, ∀ c, o.op ≠ .defer c) →
  wpList P ops Q L a w → wpListIn (Fence.wide.inRound l) n P ops Q L a w
 | [], a, w, _, h => h
 | o :: rest, a, w, hd, h => by
  unfold wpList at h
  unfold wpListIn
  split at h
  ·rename_i hw
   rw [if_pos hw]
   rcases h with h | ⟨_, h⟩
   ·exact op_lift (hd o (List.mem_cons_self ..)) (fun a w h => list_lift hno rest a w (fun o ho => hd o (List.mem_cons_of_mem _ ho)) h) h
   ·exact absurd h hno
  ·rename_i hw
   rw [if_neg hw]
   exact ⟨fun _ _ => trivial, list_lift hno rest _ w (fun o ho => hd o (List.mem_cons_of_mem _ ho)) h⟩
def noDefer (L : List Oper) : Bool := L.all fun o => match o.op with | .defer _ => false | _ => true
theorem noDefer_spec {L : List Oper} (h : noDefer L = true) : ∀ o ∈ L, ∀ c, o.op ≠ .defer c := by
 intro o ho c hc
 have := List.all_eq_true.1 h o ho
 rw [hc] at this; cases this
theorem region_lift {id l n : Nat} {P : Program} {L : List Oper} {Q : Exit → Act → World → Prop} {a : Act} {w : World} (hno : ¬ LetsOut Q) (hd : noDefer L = true)
  (h : wpList P L.toArray Q L a w) : (Code.region id L.toArray false).wpIn (Fence.wide.inRound l) n P Q a w :=
 wpIn_region_lit (list_lift hno L a w (noDefer_spec hd) h)
end Go.Proofs.YtegffolimjiioaaGreatDoor
