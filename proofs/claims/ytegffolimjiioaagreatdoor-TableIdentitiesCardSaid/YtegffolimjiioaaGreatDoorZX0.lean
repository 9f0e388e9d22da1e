/- Short words for steps that recur: a world some blocks and draws further on. -/
import Derived.Test.YtegffolimjiioaaGreatDoorZGw
import Derived.Test.YtegffolimjiioaaGreatDoorZWN
import Derived.Test.YtegffolimjiioaaGreatDoorZWKept
namespace Go.Proofs.YtegffolimjiioaaGreatDoor
open Go Go.RowKit Go.Proofs.YtegffolimjiioaaGreatDoorW.PrintWords
class Gr (W W' : World) : Prop where
 up : Below W.heap.size W W'
instance grRefl (W : World) : Gr W W := ⟨Below.refl _ _⟩
instance grAlloc {W W' : World} [g : Gr W W'] (o : Obj) : Gr W (W'.alloc o) := ⟨below_alloc g.up o⟩
instance grDrewN {W W' : World} [g : Gr W W'] (n : Nat) : Gr W (W'.drewN n) := ⟨pw_below_drewN g.up n⟩
instance grDrew {W W' : World} [g : Gr W W'] : Gr W W'.drew := ⟨below_drew1 g.up⟩
section
variable {W W' w : World} [g : Gr W W'] {α : Type} {d : Kd α} {e base n b : Nat} {ok : Nat → Prop} {v : Value} {xs : List α} {A : Option Addr} {o : Obj}
theorem bl (h : Below w.heap.size w W) : Below w.heap.size w W' := below_step h g.up
theorem rx (h : d.R e W base ok v xs) : d.R e W' base ok v xs := Kd.R_below h g.up
theorem sx (h : d.S e W base ok v xs) : d.S e W' base ok v xs := Kd.S_below h g.up
theorem cx (h : d.C W A n xs) : d.C W' A n xs := Kd.C_below h g.up
theorem bx (h : W.heap[b]? = some o) : W'.heap[b]? = some o := (g.up.block b (Array.getElem?_eq_some_iff.1 h).1).trans h
theorem gw (hG : GW w) (h : Below w.heap.size w W) : GW W' := GW.below hG (bl h)
theorem nx (h : d.N e W base ok v xs) : d.N e W' base ok v xs := Kd.N_below h g.up
end
end Go.Proofs.YtegffolimjiioaaGreatDoor
