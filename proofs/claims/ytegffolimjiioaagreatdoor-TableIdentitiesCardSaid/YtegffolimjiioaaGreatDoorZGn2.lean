/- What is walked outside a round holds within one: regions that draw their order. -/
import Derived.Test.YtegffolimjiioaaGreatDoorZGn1
import Derived.Deep.QuietTactic
import Derived.BigQuiet
import Derived.OrdersIn
namespace Go.Proofs.YtegffolimjiioaaGreatDoor
open Go Go.RowKit
theorem any_lift {l n : Nat} {P : Program} {md : Region.Mode} {ops : Array Oper} {Q : Exit → Act → World → Prop} (hno : ¬ LetsOut Q) (hd : ∀ o ∈ ops.toList, ∀ c, o.op ≠ .defer c) :
  ∀ (fuel : Nat) (listed : Array Bool) (a : Act) (w : World), wpAny P md ops Q fuel listed a w → wpAnyIn (Fence.wide.inRound l) n P md ops Q fuel listed a w
 | 0, _, _, _, h => h
 | fuel + 1, listed, a, w, h => by
  refine ⟨h.1, fun i hi => ?_⟩
  have h1 := h.2 i hi
  unfold wpOp at h1
  unfold wpOpIn
  split
  ·rename_i hx
   simp only [hx] at h1
   exact any_lift hno hd fuel _ a w h1
  ·rename_i o hx
   simp only [hx] at h1
   have ho : o ∈ ops.toList := by
    obtain ⟨hlt, rfl⟩ := Array.getElem?_eq_some_iff.1 hx
    simp
   split at h1
   ·rename_i hw
    rw [if_pos hw]
    rcases h1 with h1 | ⟨_, h1⟩
    ·exact op_lift (hd o ho) (fun a w h => any_lift hno hd fuel _ a w h) h1
    ·exact absurd h1 hno
   ·rename_i hw
    rw [if_neg hw]
    exact ⟨fun _ _ => trivial, any_lift hno hd fuel _ _ w h1⟩
end Go.Proofs.YtegffolimjiioaaGreatDoor
