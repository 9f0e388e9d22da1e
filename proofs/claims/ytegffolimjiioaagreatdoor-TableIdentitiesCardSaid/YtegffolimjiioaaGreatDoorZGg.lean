/- What the rows' listed variables give the walks; a world that meets the condition. -/
import Derived.Test.YtegffolimjiioaaGreatDoorRows
import Derived.Test.YtegffolimjiioaaGreatDoorZGw
import Derived.LaidLaws
import Derived.Lib.LaidTab
import Derived.Stop.LaidErr
import Derived.Lay
import Derived.ChangeSame
import Derived.ChangeVars
import Derived.JoinedOf
import Derived.KernelRfl
namespace Go.Proofs.YtegffolimjiioaaGreatDoor
open Go Go.RowKit
set_option linter.unusedVariables false
def lst : List (String × DataW Unit) := [("math/bits.deBruijn32tab", Rows.laid_math_bits_deBruijn32tab), ("math/bits.deBruijn64tab", Rows.laid_math_bits_deBruijn64tab), ("internal/strconv.uint64pow10", Rows.laid_internal_strconv_uint64pow10), ("strconv.ErrRange", Rows.laid_strconv_ErrRange), ("strconv.ErrSyntax", Rows.laid_strconv_ErrSyntax)]
theorem ownT : ownKnob Tryz.prog.godebug = none := by kernel_rfl
theorem row301 (u : TypeId) (h : Tryz.prog.typeName? 3 u = some "*errors.errorString") : u = 301 :=
 typeName_ptr_named (nm := "errors.errorString") (by rw [show "*" ++ "errors.errorString" = "*errors.errorString" by decide]; kernel_rfl) (by kernel_rfl) (by decide) u (by rw [show "*" ++ "errors.errorString" = "*errors.errorString" by decide]; exact h)
theorem GW_of_laid {W : World} (h : laidMet Tryz.prog lst W) : GW W := by
 have h2 := h.tail.tail
 have h3 := h2.tail
 have h4 := h3.tail
 refine ⟨Lib.tabIs_of_head (g := 4) (t := 298) (e := 235) (n := 20) (by kernel_rfl) (by kernel_rfl) Tryz.underlying298 ?_ (by kernel_rfl) (by kernel_rfl) h2, ?_, ?_⟩
 ·kernel_rfl
 ·obtain ⟨a0, s0, hv0, -, -, -⟩ := laid_sentinel (nm := "*errors.errorString") h4 (g := 2) (ti := 218) (tp := 301) (te := 303) (by kernel_rfl) (by kernel_rfl) Tryz.underlying218 row301 Tryz.underlying301 Tryz.underlying303 rfl rfl (by kernel_rfl) (by kernel_rfl) (by kernel_rfl)
  exact ⟨_, _, hv0⟩
 ·obtain ⟨a0, s0, hv0, -, -, -⟩ := laid_sentinel (nm := "*errors.errorString") h3 (g := 3) (ti := 218) (tp := 301) (te := 303) (by kernel_rfl) (by kernel_rfl) Tryz.underlying218 row301 Tryz.underlying301 Tryz.underlying303 rfl rfl (by kernel_rfl) (by kernel_rfl) (by kernel_rfl)
  exact ⟨_, _, hv0⟩
noncomputable def laidW (os : Os) : World := World.laidAll Tryz.prog os lst
theorem laidW_met (os : Os) (args : Array Value) : laidMet Tryz.prog lst ((laidW os).forCall (fun _ _ => 0) ⟨#[], args, []⟩).memory :=
 laidMet_laidAll args (by kernel_rfl) (by kernel_rfl)
theorem me_head : (behindMainWord (wordsSigns Tryz.prog.initOrder.toList)).head? = some "cut".toList := by kernel_rfl
theorem me_later : Tryz.prog.laysLater = false := by kernel_rfl
theorem me_reflect : Tryz.prog.bearsReflect = false := by kernel_rfl
theorem me_door : Tryz.prog.doorFits [] = true := by kernel_rfl
theorem me_strip (rest : List (List Char)) : stripLifts liftWords ("cut".toList :: rest) = ([], "cut".toList :: rest) := by kernel_rfl
theorem mayE : Tryz.prog.mayEnter = true := by
 have h := me_head
 unfold Program.mayEnter
 generalize behindMainWord (wordsSigns Tryz.prog.initOrder.toList) = ws at h
 cases ws with
 | nil => cases h
 | cons c rest =>
  obtain rfl : c = "cut".toList := Option.some.inj h
  simp only [me_strip, me_later, me_reflect, me_door]
  simp
end Go.Proofs.YtegffolimjiioaaGreatDoor
