/- schismalaw06.known: the worked examples of the chapter hold. -/
import Derived.Test.YtegffolimjiioaaGreatDoorZX0
import Derived.Test.YtegffolimjiioaaGreatDoorZPBx0
import Derived.Test.YtegffolimjiioaaGreatDoorZGw
import Derived.Test.YtegffolimjiioaaGreatDoorZHm
import Derived.Test.YtegffolimjiioaaGreatDoorZHr
import Derived.Test.YtegffolimjiioaaGreatDoorZHj
import Derived.Test.YtegffolimjiioaaGreatDoorZHi
import Derived.Test.YtegffolimjiioaaGreatDoorZHv
import Derived.Deep.RegionWith
import Derived.WalkKit
import Derived.Test.YtegffolimjiioaaGreatDoorZPBx2
import Derived.Test.YtegffolimjiioaaGreatDoorZPBx12
namespace Go.Proofs.YtegffolimjiioaaGreatDoor.PB
open Go.RowKit Go.Proofs.YtegffolimjiioaaGreatDoorW.PrintWords Go.Proofs.YtegffolimjiioaaGreatDoorW.PrintLast Go.Proofs.YtegffolimjiioaaGreatDoorW.PrintMore
set_option linter.unusedVariables false
set_option linter.unusedSimpArgs false
theorem kn_det : table_Determinant.f 60 [[1, 2], [3, 4]] = some (⟨#[45, 50]⟩, 0) := by kernel_rfl
theorem kn_inv : table_Inverse.f 60 [[1, 2], [3, 4]] = some ([[⟨⟨#[45, 50]⟩, ⟨#[49]⟩⟩, ⟨⟨#[49]⟩, ⟨#[49]⟩⟩], [⟨⟨#[51]⟩, ⟨#[50]⟩⟩, ⟨⟨#[45, 49]⟩, ⟨#[50]⟩⟩]], 0) := by kernel_rfl
theorem kn_min : table_Minors.f 60 [[1, 0, -4], [0, 1, 4]] 2 = some ([⟨#[49]⟩, ⟨#[52]⟩, ⟨#[52]⟩], 0) := by kernel_rfl
theorem kn_sol : table_Solve.f 60 [[1, 2]] [3] = some ([⟨⟨#[51]⟩, ⟨#[49]⟩⟩, ⟨⟨#[48]⟩, ⟨#[49]⟩⟩], 2, 0) := by kernel_rfl
theorem kn_non : table_Solve.f 60 [[1, 2], [2, 4]] [3, 5] = some ([], 3, 0) := by kernel_rfl
theorem kn_n1 : schismalaw06_number.f 60 3 2 = some (⟨#[51]⟩, ⟨#[50]⟩) := by kernel_rfl
theorem kn_n2 : schismalaw06_number.f 60 (-1) 2 = some (⟨#[45, 49]⟩, ⟨#[50]⟩) := by kernel_rfl
theorem kn_n3 : schismalaw06_number.f 60 3 1 = some (⟨#[51]⟩, ⟨#[49]⟩) := by kernel_rfl
theorem kn_n4 : schismalaw06_number.f 60 0 1 = some (⟨#[48]⟩, ⟨#[49]⟩) := by kernel_rfl
theorem kn_s1 : schismalaw06_same.f 60 [⟨⟨#[51]⟩, ⟨#[50]⟩⟩, ⟨⟨#[45, 49]⟩, ⟨#[50]⟩⟩] [⟨⟨#[51]⟩, ⟨#[50]⟩⟩, ⟨⟨#[45, 49]⟩, ⟨#[50]⟩⟩] = some true := by kernel_rfl
theorem kn_s2 : schismalaw06_same.f 60 [⟨⟨#[51]⟩, ⟨#[49]⟩⟩, ⟨⟨#[48]⟩, ⟨#[49]⟩⟩] [⟨⟨#[51]⟩, ⟨#[49]⟩⟩, ⟨⟨#[48]⟩, ⟨#[49]⟩⟩] = some true := by kernel_rfl
def schismalaw06_known.f : Option (Bool) := some true
def schismalaw06_known.T7 : Bool × List (List Nat × List Nat) := (true, [([], []), ([0], [0]), ([1], [1]), ([2], [2]), ([3, 2], [2, 3]), ([2, 4], [2, 4]), ([5, 2], [5]), ([6], [6]), ([7, 6], [6, 7]), ([6, 8], [6, 8]), ([9, 6], [9]), ([10], [10]), ([11, 10], [10, 11]), ([12, 10], [10, 12]), ([10, 13], [10, 13]), ([14, 10], [14]), ([15], [15]), ([16, 15], [15, 16]), ([17, 15], [15, 17]), ([15, 15], [15]), ([19, 15], [15]), ([19, 20, 15], [15, 19, 20]), ([18, 21, 20, 15], [15, 18, 21]), ([15, 22], [15, 22]), ([23, 22], [23]), ([24], [24]), ([25, 24], [24, 25]), ([24, 26], [24, 26]), ([27, 24], [27]), ([28], [28]), ([29, 28], [28, 29]), ([30, 28], [28, 30]), ([28, 31], [28, 31]), ([32, 28], [32]), ([33], [33]), ([34, 33], [33, 34]), ([35, 33], [33, 35]), ([36, 33], [33, 36]), ([33, 37], [33, 37]), ([38, 33], [38]), ([39], [39]), ([40, 39], [39, 40]), ([41, 39], [39, 41]), ([42, 39], [39, 42]), ([39, 43], [39, 43]), ([44, 39], [44]), ([45], [45]), ([46, 45], [45, 46]), ([47, 45], [45, 47]), ([48, 45], [45, 48]), ([45, 49], [45, 49]), ([50, 45], [50]), ([51], [51]), ([52, 51], [51, 52]), ([51, 53], [51, 53]), ([54, 51], [54]), ([55], [55]), ([56, 55], [55, 56]), ([55, 57], [55, 57]), ([58, 55], [58]), ([59], [59]), ([59, 59], [59]), ([61, 59], [59]), ([61, 62, 59], [59, 61, 62]), ([60, 63, 62, 59], [59, 60, 63]), ([59, 64], [59, 64]), ([65, 64], [65]), ([66], [66]), ([67, 66], [66, 67]), ([66, 68], [66, 68]), ([69, 66], [69]), ([70], [70]), ([71, 70], [70, 71]), ([70, 72], [70, 72]), ([73, 70, 0, 1, 2, 3, 4, 5, 6, 7, 8, 9, 10, 11, 12, 13, 14, 15, 16, 17, 18, 19, 20, 21, 22, 23, 24, 25, 26, 27, 28, 29, 30, 31, 32, 33, 34, 35, 36, 37, 38, 39, 40, 41, 42, 43, 44, 45, 46, 47, 48, 49, 50, 51, 52, 53, 54, 55, 56, 57, 58, 59, 60, 61, 62, 63, 64, 65, 66, 67, 68, 69, 70, 71, 72, 73], [73])])
def schismalaw06_known.B7 : List Nat := [0, 1, 3, 7, 15, 31, 63, 127, 255, 511, 1023, 2047, 4095, 8191, 16383, 32767, 65535, 131071, 262143, 65535, 589823, 1638399, 4194303, 8388607, 16777215, 33554431, 67108863, 134217727, 268435455, 536870911, 1073741823, 2147483647, 4294967295, 8589934591, 17179869183, 34359738367, 68719476735, 137438953471, 274877906943, 549755813887, 1099511627775, 2199023255551, 4398046511103, 8796093022207, 17592186044415, 35184372088831, 70368744177663, 140737488355327, 281474976710655, 562949953421311, 1125899906842623, 2251799813685247, 4503599627370495, 9007199254740991, 18014398509481983, 36028797018963967, 72057594037927935, 144115188075855871, 288230376151711743, 576460752303423487, 1152921504606846975, 1152921504606846975, 3458764513820540927, 8070450532247928831, 18446744073709551615, 36893488147419103231, 73786976294838206463, 147573952589676412927, 295147905179352825855, 590295810358705651711, 1180591620717411303423, 2361183241434822606847, 4722366482869645213695, 9444732965739290427391, 18889465931478580854783]
theorem schismalaw06_known.tab7 : rtab .any (opsOf Tryz.f24 7) = schismalaw06_known.T7 := by kernel_rfl
theorem schismalaw06_known.bits7 : waitsOk schismalaw06_known.T7.2 schismalaw06_known.B7 = true := by kernel_rfl
set_option maxHeartbeats 8000000 in
set_option maxRecDepth 100000 in
theorem schismalaw06_known.calls (r : Bool) (w : World) (hG : GW w) (h : schismalaw06_known.f = some r) :
  Calls Tryz.prog 24 #[] w fun e w' => e = .returned (.bool r) ∧ Below w.heap.size w w' := by
 obtain rfl : true = r := Option.some.inj h
 clear h
 have HG := Aside0.mk hG
 clear hG
 have HB := Aside0.mk (Below.refl w.heap.size w)
 obtain ⟨k, hk⟩ : ∃ k : Nat, k = 60 := ⟨_, rfl⟩
 obtain ⟨t696, v_⟩ : ∃ t_ : ByteArray, t_ = ⟨#[45, 50]⟩ := ⟨_, rfl⟩
 have Vt696 := Aside0.mk v_
 clear v_
 obtain ⟨t697, v_⟩ : ∃ t_ : Int, t_ = 0 := ⟨_, rfl⟩
 have Vt697 := Aside0.mk v_
 clear v_
 obtain ⟨t698, v_⟩ : ∃ t_ : List (List S103), t_ = [[⟨⟨#[45, 50]⟩, ⟨#[49]⟩⟩, ⟨⟨#[49]⟩, ⟨#[49]⟩⟩], [⟨⟨#[51]⟩, ⟨#[50]⟩⟩, ⟨⟨#[45, 49]⟩, ⟨#[50]⟩⟩]] := ⟨_, rfl⟩
 have Vt698 := Aside0.mk v_
 clear v_
 obtain ⟨t699, v_⟩ : ∃ t_ : Int, t_ = 0 := ⟨_, rfl⟩
 have Vt699 := Aside0.mk v_
 clear v_
 obtain ⟨t711, v_⟩ : ∃ t_ : List ByteArray, t_ = [⟨#[49]⟩, ⟨#[52]⟩, ⟨#[52]⟩] := ⟨_, rfl⟩
 have Vt711 := Aside0.mk v_
 clear v_
 obtain ⟨t712, v_⟩ : ∃ t_ : Int, t_ = 0 := ⟨_, rfl⟩
 have Vt712 := Aside0.mk v_
 clear v_
 obtain ⟨t724, v_⟩ : ∃ t_ : List S103, t_ = [⟨⟨#[51]⟩, ⟨#[49]⟩⟩, ⟨⟨#[48]⟩, ⟨#[49]⟩⟩] := ⟨_, rfl⟩
 have Vt724 := Aside0.mk v_
 clear v_
 obtain ⟨t725, v_⟩ : ∃ t_ : Int, t_ = 2 := ⟨_, rfl⟩
 have Vt725 := Aside0.mk v_
 clear v_
 obtain ⟨t726, v_⟩ : ∃ t_ : Int, t_ = 0 := ⟨_, rfl⟩
 have Vt726 := Aside0.mk v_
 clear v_
 obtain ⟨t741, v_⟩ : ∃ t_ : List S103, t_ = [] := ⟨_, rfl⟩
 have Vt741 := Aside0.mk v_
 clear v_
 obtain ⟨t742, v_⟩ : ∃ t_ : Int, t_ = 3 := ⟨_, rfl⟩
 have Vt742 := Aside0.mk v_
 clear v_
 obtain ⟨t743, v_⟩ : ∃ t_ : Int, t_ = 0 := ⟨_, rfl⟩
 have Vt743 := Aside0.mk v_
 clear v_
 obtain ⟨t747, v_⟩ : ∃ t_ : ByteArray, t_ = ⟨#[51]⟩ := ⟨_, rfl⟩
 have Vt747 := Aside0.mk v_
 clear v_
 obtain ⟨t748, v_⟩ : ∃ t_ : ByteArray, t_ = ⟨#[50]⟩ := ⟨_, rfl⟩
 have Vt748 := Aside0.mk v_
 clear v_
 obtain ⟨t749, v_⟩ : ∃ t_ : ByteArray, t_ = ⟨#[45, 49]⟩ := ⟨_, rfl⟩
 have Vt749 := Aside0.mk v_
 clear v_
 obtain ⟨t750, v_⟩ : ∃ t_ : ByteArray, t_ = ⟨#[50]⟩ := ⟨_, rfl⟩
 have Vt750 := Aside0.mk v_
 clear v_
 obtain ⟨t758, v_⟩ : ∃ t_ : ByteArray, t_ = ⟨#[51]⟩ := ⟨_, rfl⟩
 have Vt758 := Aside0.mk v_
 clear v_
 obtain ⟨t759, v_⟩ : ∃ t_ : ByteArray, t_ = ⟨#[49]⟩ := ⟨_, rfl⟩
 have Vt759 := Aside0.mk v_
 clear v_
 obtain ⟨t760, v_⟩ : ∃ t_ : ByteArray, t_ = ⟨#[48]⟩ := ⟨_, rfl⟩
 have Vt760 := Aside0.mk v_
 clear v_
 obtain ⟨t761, v_⟩ : ∃ t_ : ByteArray, t_ = ⟨#[49]⟩ := ⟨_, rfl⟩
 have Vt761 := Aside0.mk v_
 clear v_
 -- ?? theorem schismalaw06_known.calls (k : Nat)  (r : Bool) (w : World) (hG : GW w) (h : schismalaw06_known.f k  = some r) :
 -- ?? Calls Tryz.prog 24 #[] w fun e w' => e = .returned (.bool r) ∧ Below w.heap.size w w' := by
 -- ?? have HG := Aside0.mk hG
 -- ?? clear hG
 -- ?? have HB := Aside0.mk (Below.refl w.heap.size w)
 obtain ⟨y687, hy687⟩ : ∃ y_ : List Int, y_ = (([1, 2] : List Int)) := ⟨_, rfl⟩
 have Ny687 := Aside0.mk hy687
 clear hy687
 obtain ⟨y690, hy690⟩ : ∃ y_ : List Int, y_ = (([3, 4] : List Int)) := ⟨_, rfl⟩
 have Ny690 := Aside0.mk hy690
 clear hy690
 obtain ⟨y693, hy693⟩ : ∃ y_ : List (List Int), y_ = (([y687, y690] : List (List Int))) := ⟨_, rfl⟩
 have Ny693 := Aside0.mk hy693
 clear hy693
 have A1 := Aside0.mk (show table_Determinant.f k y693 = some (t696, t697) from by rw [hk, Ny693.out, Ny687.out, Ny690.out, Vt696.out, Vt697.out]; exact kn_det)
 have A2 := Aside0.mk (show table_Inverse.f k y693 = some (t698, t699) from by rw [hk, Ny693.out, Ny687.out, Ny690.out, Vt698.out, Vt699.out]; exact kn_inv)
 obtain ⟨y702, hy702⟩ : ∃ y_ : List Int, y_ = (([1, 0, (-4)] : List Int)) := ⟨_, rfl⟩
 have Ny702 := Aside0.mk hy702
 clear hy702
 obtain ⟨y705, hy705⟩ : ∃ y_ : List Int, y_ = (([0, 1, 4] : List Int)) := ⟨_, rfl⟩
 have Ny705 := Aside0.mk hy705
 clear hy705
 obtain ⟨y708, hy708⟩ : ∃ y_ : List (List Int), y_ = (([y702, y705] : List (List Int))) := ⟨_, rfl⟩
 have Ny708 := Aside0.mk hy708
 clear hy708
 have A3 := Aside0.mk (show table_Minors.f k y708 2 = some (t711, t712) from by rw [hk, Ny708.out, Ny702.out, Ny705.out, Vt711.out, Vt712.out]; exact kn_min)
 obtain ⟨y715, hy715⟩ : ∃ y_ : List Int, y_ = (([1, 2] : List Int)) := ⟨_, rfl⟩
 have Ny715 := Aside0.mk hy715
 clear hy715
 obtain ⟨y718, hy718⟩ : ∃ y_ : List (List Int), y_ = (([y715] : List (List Int))) := ⟨_, rfl⟩
 have Ny718 := Aside0.mk hy718
 clear hy718
 obtain ⟨y721, hy721⟩ : ∃ y_ : List Int, y_ = (([3] : List Int)) := ⟨_, rfl⟩
 have Ny721 := Aside0.mk hy721
 clear hy721
 have A4 := Aside0.mk (show table_Solve.f k y718 y721 = some (t724, t725, t726) from by rw [hk, Ny718.out, Ny715.out, Ny721.out, Vt724.out, Vt725.out, Vt726.out]; exact kn_sol)
 obtain ⟨y729, hy729⟩ : ∃ y_ : List Int, y_ = (([1, 2] : List Int)) := ⟨_, rfl⟩
 have Ny729 := Aside0.mk hy729
 clear hy729
 obtain ⟨y732, hy732⟩ : ∃ y_ : List Int, y_ = (([2, 4] : List Int)) := ⟨_, rfl⟩
 have Ny732 := Aside0.mk hy732
 clear hy732
 obtain ⟨y735, hy735⟩ : ∃ y_ : List (List Int), y_ = (([y729, y732] : List (List Int))) := ⟨_, rfl⟩
 have Ny735 := Aside0.mk hy735
 clear hy735
 obtain ⟨y738, hy738⟩ : ∃ y_ : List Int, y_ = (([3, 5] : List Int)) := ⟨_, rfl⟩
 have Ny738 := Aside0.mk hy738
 clear hy738
 have A5 := Aside0.mk (show table_Solve.f k y735 y738 = some (t741, t742, t743) from by rw [hk, Ny735.out, Ny729.out, Ny732.out, Ny738.out, Vt741.out, Vt742.out, Vt743.out]; exact kn_non)
 have c6 : t697 = 0 := by rw [Vt697.out] <;> decide +kernel
 have c6b0 : (t697 == 0) = true := beq_iff_eq.mpr c6
 have c6b1 : (t697 != 0) = false := bne_eq_false_iff_eq.mpr c6
 clear c6
 have c7 : t696.toList = ([45, 50] : List UInt8) := by rw [Vt696.out] <;> decide +kernel
 have c7b0 : (t696.toList == ([45, 50] : List UInt8)) = true := beq_iff_eq.mpr c7
 have c7b1 : (t696.toList != ([45, 50] : List UInt8)) = false := bne_eq_false_iff_eq.mpr c7
 clear c7
 have c8 : t699 = 0 := by rw [Vt699.out] <;> decide +kernel
 have c8b0 : (t699 == 0) = true := beq_iff_eq.mpr c8
 have c8b1 : (t699 != 0) = false := bne_eq_false_iff_eq.mpr c8
 clear c8
 have c9 : (t698.length : Int) = 2 := by rw [Vt698.out] <;> decide +kernel
 have c9b0 : ((t698.length : Int) == 2) = true := beq_iff_eq.mpr c9
 have c9b1 : ((t698.length : Int) != 2) = false := bne_eq_false_iff_eq.mpr c9
 clear c9
 have c10 : 1 < (t698.length : Int) := by rw [Vt698.out] <;> decide +kernel
 have c10b0 : decide (1 < (t698.length : Int)) = true := decide_eq_true c10
 have c10b1 : decide (1 < t698.length) = true := decide_eq_true (by omega)
 clear c10
 have A11 := Aside0.mk (show schismalaw06_number.f k 3 2 = some (t747, t748) from by rw [hk, Vt747.out, Vt748.out]; exact kn_n1)
 have A12 := Aside0.mk (show schismalaw06_number.f k (-1) 2 = some (t749, t750) from by rw [hk, Vt749.out, Vt750.out]; exact kn_n2)
 obtain ⟨y751, hy751⟩ : ∃ y_ : List (S103), y_ = (([(⟨t747, t748⟩ : S103), (⟨t749, t750⟩ : S103)] : List (S103))) := ⟨_, rfl⟩
 have Ny751 := Aside0.mk hy751
 clear hy751
 have A13 := Aside0.mk (show schismalaw06_same.f k (rd_L4 t698 1) y751 = some true from by rw [hk, Vt698.out, Ny751.out, Vt747.out, Vt748.out, Vt749.out, Vt750.out]; exact kn_s1)
 -- ?? · subst c14
 have c15 : t712 = 0 := by rw [Vt712.out] <;> decide +kernel
 have c15b0 : (t712 == 0) = true := beq_iff_eq.mpr c15
 have c15b1 : (t712 != 0) = false := bne_eq_false_iff_eq.mpr c15
 clear c15
 have c16 : (t711.length : Int) = 3 := by rw [Vt711.out] <;> decide +kernel
 have c16b0 : ((t711.length : Int) == 3) = true := beq_iff_eq.mpr c16
 have c16b1 : ((t711.length : Int) != 3) = false := bne_eq_false_iff_eq.mpr c16
 clear c16
 have c17 : 0 < (t711.length : Int) := by rw [Vt711.out] <;> decide +kernel
 have c17b0 : decide (0 < (t711.length : Int)) = true := decide_eq_true c17
 have c17b1 : decide (0 < t711.length) = true := decide_eq_true (by omega)
 clear c17
 have c18 : (rdOf ByteArray.empty t711 0).toList = ([49] : List UInt8) := by rw [Vt711.out] <;> decide +kernel
 have c18b0 : ((rdOf ByteArray.empty t711 0).toList == ([49] : List UInt8)) = true := beq_iff_eq.mpr c18
 have c18b1 : ((rdOf ByteArray.empty t711 0).toList != ([49] : List UInt8)) = false := bne_eq_false_iff_eq.mpr c18
 clear c18
 have c19 : 1 < (t711.length : Int) := by rw [Vt711.out] <;> decide +kernel
 have c19b0 : decide (1 < (t711.length : Int)) = true := decide_eq_true c19
 have c19b1 : decide (1 < t711.length) = true := decide_eq_true (by omega)
 clear c19
 have c20 : (rdOf ByteArray.empty t711 1).toList = ([52] : List UInt8) := by rw [Vt711.out] <;> decide +kernel
 have c20b0 : ((rdOf ByteArray.empty t711 1).toList == ([52] : List UInt8)) = true := beq_iff_eq.mpr c20
 have c20b1 : ((rdOf ByteArray.empty t711 1).toList != ([52] : List UInt8)) = false := bne_eq_false_iff_eq.mpr c20
 clear c20
 have c21 : 2 < (t711.length : Int) := by rw [Vt711.out] <;> decide +kernel
 have c21b0 : decide (2 < (t711.length : Int)) = true := decide_eq_true c21
 have c21b1 : decide (2 < t711.length) = true := decide_eq_true (by omega)
 clear c21
 have c22 : (rdOf ByteArray.empty t711 2).toList = ([52] : List UInt8) := by rw [Vt711.out] <;> decide +kernel
 have c22b0 : ((rdOf ByteArray.empty t711 2).toList == ([52] : List UInt8)) = true := beq_iff_eq.mpr c22
 have c22b1 : ((rdOf ByteArray.empty t711 2).toList != ([52] : List UInt8)) = false := bne_eq_false_iff_eq.mpr c22
 clear c22
 have c23 : t726 = 0 := by rw [Vt726.out] <;> decide +kernel
 have c23b0 : (t726 == 0) = true := beq_iff_eq.mpr c23
 have c23b1 : (t726 != 0) = false := bne_eq_false_iff_eq.mpr c23
 clear c23
 have c24 : t725 = 2 := by rw [Vt725.out] <;> decide +kernel
 have c24b0 : (t725 == 2) = true := beq_iff_eq.mpr c24
 have c24b1 : (t725 != 2) = false := bne_eq_false_iff_eq.mpr c24
 clear c24
 have A25 := Aside0.mk (show schismalaw06_number.f k 3 1 = some (t758, t759) from by rw [hk, Vt758.out, Vt759.out]; exact kn_n3)
 have A26 := Aside0.mk (show schismalaw06_number.f k 0 1 = some (t760, t761) from by rw [hk, Vt760.out, Vt761.out]; exact kn_n4)
 obtain ⟨y762, hy762⟩ : ∃ y_ : List (S103), y_ = (([(⟨t758, t759⟩ : S103), (⟨t760, t761⟩ : S103)] : List (S103))) := ⟨_, rfl⟩
 have Ny762 := Aside0.mk hy762
 clear hy762
 have A27 := Aside0.mk (show schismalaw06_same.f k t724 y762 = some true from by rw [hk, Vt724.out, Ny762.out, Vt758.out, Vt759.out, Vt760.out, Vt761.out]; exact kn_s2)
 -- ?? · subst c28
 have c29 : t743 = 0 := by rw [Vt743.out] <;> decide +kernel
 have c29b0 : (t743 == 0) = true := beq_iff_eq.mpr c29
 have c29b1 : (t743 != 0) = false := bne_eq_false_iff_eq.mpr c29
 clear c29
 refine Calls.mono (R := fun e w' => e = .returned (.bool (t742 == 3)) ∧ Below w.heap.size w w') ?_ (fun e w' h => by rw [show (t742 == 3) = true from by rw [Vt742.out]; rfl] at h; exact h)
 clear hk
 go_enter Tryz.func24, Tryz.ntmps24
 try go_wp2_with (first | ((with_reducible refine gate_dst (N := 14) rfl ?_); (try (refine gate_guard (by rfl) ?_; dsimp only)); refine Kd.R_lit (Kd.int .i64) _ 3 ?hg (N := 14) ?hd (xs := ([1, 2] : List Int)) (inner := [.int .i64 1, .int .i64 2]) (ok := fun _ => True) (okp := fun _ => True) ?hr ?hp (fun _ hk => hk) trivial (Below.refl _ _) (Nat.le_refl _) (by simp) ?_; (case hd => rfl); (case hg => rfl); (case hr => first | (go_simp; done) | (go_simp; rfl)); (case hp => exact (Reps.one (show Kd.M (Kd.int .i64) _ _ _ 1 [.int .i64 1] from rfl) (Reps.one (show Kd.M (Kd.int .i64) _ _ _ 2 [.int .i64 2] from rfl) (Reps.none _ _)))); intro v688 w30 ho31 hb hg_ hnew_; clear hg_ hnew_; (first | rw [← Ny687.out] at ho31 | (simp only [Int.reduceToNat] at ho31; rw [← Ny687.out] at ho31)); have n0_ := Aside0.mk (Kd.R_lower ho31 (below_size (bl HB.out))); have n1_ := Aside0.mk (below_step (bl HB.out) hb); clear HB; have HO689 := n0_; have HB := n1_; clear n0_ n1_; clear hb ho31) | ((with_reducible refine gate_dst (N := 15) rfl ?_); (try (refine gate_guard (by rfl) ?_; dsimp only)); refine Kd.R_lit (Kd.int .i64) _ 3 ?hg (N := 15) ?hd (xs := ([3, 4] : List Int)) (inner := [.int .i64 3, .int .i64 4]) (ok := fun _ => True) (okp := fun _ => True) ?hr ?hp (fun _ hk => hk) trivial (Below.refl _ _) (Nat.le_refl _) (by simp) ?_; (case hd => rfl); (case hg => rfl); (case hr => first | (go_simp; done) | (go_simp; rfl)); (case hp => exact (Reps.one (show Kd.M (Kd.int .i64) _ _ _ 3 [.int .i64 3] from rfl) (Reps.one (show Kd.M (Kd.int .i64) _ _ _ 4 [.int .i64 4] from rfl) (Reps.none _ _)))); intro v691 w32 ho33 hb hg_ hnew_; clear hg_ hnew_; (first | rw [← Ny690.out] at ho33 | (simp only [Int.reduceToNat] at ho33; rw [← Ny690.out] at ho33)); have n0_ := Aside0.mk (Kd.R_elder' (rx HO689.out) (Kd.R_base ho33) hb); have n1_ := Aside0.mk (Kd.R_lower (Kd.R_new' ho33 (Kd.R_lt (rx HO689.out))) (below_size (bl HB.out))); have n2_ := Aside0.mk (below_step (bl HB.out) hb); clear HO689; clear HB; have HO689 := n0_; have HO692 := n1_; have HB := n2_; clear n0_ n1_ n2_; clear hb ho33; obtain ⟨Ao34, co34, eo34⟩ := Kd.R_slice HO689.out; subst eo34; obtain ⟨Ao35, co35, eo35⟩ := Kd.R_slice HO692.out; subst eo35) | ((with_reducible refine gate_dst (N := 16) rfl ?_); (try (refine gate_guard (by rfl) ?_; dsimp only)); refine Kd.N_lit (Kd.slice 3 (Kd.int .i64)) _ 51 ?hg (N' := 16) ?hd (xs := ([y687, y690] : List (List Int))) (inner := [.slice Ao34 y687.length co34, .slice Ao35 y690.length co35]) (ok := (fun _ => True)) (okp := (fun _ => True)) ?hr ?hp (fun _ hk => hk) ((show ∀ k_, w32.heap.size ≤ k_ → (fun _ => True) k_ from fun k_ hk => trivial) _ (Nat.le_refl _)) (Below.refl _ _) (Nat.le_refl _) (by simp) ?_; (case hd => rfl); (case hg => rfl); (case hr => first | (go_simp; done) | (go_simp; rfl)); (case hp => exact (Reps.one (show Kd.FK (Kd.slice 3 (Kd.int .i64)) _ _ y687 [.slice Ao34 y687.length co34] from (Kd.FK_slice_mk (Kd.R_reads' (Kd.R_mono (ok' := (fun _ => True)) (HO689.out) (fun k_ hk => trivial))).2.1 (Kd.R_F (Kd.R_mono (ok' := (fun _ => True)) (HO689.out) (fun k_ hk => trivial))))) (Reps.one (show Kd.FK (Kd.slice 3 (Kd.int .i64)) _ _ y690 [.slice Ao35 y690.length co35] from (Kd.FK_slice_mk (Kd.R_reads' (Kd.R_mono (ok' := (fun _ => True)) (HO692.out) (fun k_ hk => trivial))).2.1 (Kd.R_F (Kd.R_mono (ok' := (fun _ => True)) (HO692.out) (fun k_ hk => trivial))))) (Reps.none _ _)))); intro v694 w36 ho37 hb hg_ hnew_; clear hg_ hnew_; (first | rw [← Ny693.out] at ho37 | (simp only [Int.reduceToNat] at ho37; rw [← Ny693.out] at ho37)); have n0_ := Aside0.mk (Kd.N_lower ho37 (below_size (bl HB.out))); have n1_ := Aside0.mk (below_step (bl HB.out) hb); clear HB; clear HO689; clear HO692; have HO695 := n0_; have HB := n1_; clear n0_ n1_; clear hb ho37; obtain ⟨Ao38, co38, eo38⟩ := Kd.N_slice HO695.out; subst eo38) | ((with_reducible refine gate_callee (f := 26) rfl ?_); refine goesL_ (some 19) rfl rfl Tryz.func26 (by kernel_rfl) rfl #[.slice Ao38 y693.length co38] rfl (by (try simp only [List.map_toArray, List.map_cons, List.map_nil]); first | done | rfl | (simp only [List.length_drop, List.length_take]; rfl)) ?_; (with_reducible refine (table_Determinant.calls k _ _ y693 t696 t697 _ ?side1 ?side2 ?gG A1.out).mono ?_); (case gG => exact gw HG.out HB.out); (case side1 => exact cx (Kd.N_reads' HO695.out).2.2); (case side2 => exact (Kd.N_reads' HO695.out).2.1); rintro e w39 ⟨rfl, hb⟩; refine ⟨_, rfl, ?_⟩; have n0_ := Aside0.mk (Kd.N_below (nx HO695.out) hb); have n1_ := Aside0.mk (below_step (bl HB.out) hb); clear HO695; clear HB; have HO695 := n0_; have HB := n1_; clear n0_ n1_; (try clear hb); (try clear hb2); (try clear hk); (try clear hi)) | ((with_reducible refine gate_callee (f := 27) rfl ?_); refine goesL_ (some 24) rfl rfl Tryz.func27 (by kernel_rfl) rfl #[.slice Ao38 y693.length co38] rfl (by (try simp only [List.map_toArray, List.map_cons, List.map_nil]); first | done | rfl | (simp only [List.length_drop, List.length_take]; rfl)) ?_; (with_reducible refine (table_Inverse.calls k _ _ y693 t698 t699 _ ?side1 ?side2 ?gG A2.out).mono ?_); (case gG => exact gw HG.out HB.out); (case side1 => exact cx (Kd.N_reads' HO695.out).2.2); (case side2 => exact (Kd.N_reads' HO695.out).2.1); rintro e w40 ⟨v700, rfl, ho0, hb⟩; refine ⟨_, rfl, ?_⟩; have n0_ := Aside0.mk (Kd.N_elder' (nx HO695.out) (Kd.S_base ho0) hb); have n1_ := Aside0.mk (Kd.N_lower (Kd.N_mono (ok' := fun k_ => some k_ ≠ (.slice Ao38 y693.length co38 : Value).ownBlock) (Kd.S_N (Kd.S_bound ho0)) (fun k_ hk_ => (Kd.fresh' (Kd.N_lt (nx HO695.out)) k_ hk_.2.1))) (below_size (bl HB.out))); have n2_ := Aside0.mk (below_step (bl HB.out) hb); clear HO695; clear HB; have HO695 := n0_; have HO701 := n1_; have HB := n2_; clear n0_ n1_ n2_; (try clear hb); (try clear hb2); (try clear hk); (try clear hi); (try clear ho0)) | ((with_reducible refine gate_dst (N := 28) rfl ?_); (try (refine gate_guard (by rfl) ?_; dsimp only)); refine Kd.R_lit (Kd.int .i64) _ 3 ?hg (N := 28) ?hd (xs := ([1, 0, (-4)] : List Int)) (inner := [.int .i64 1, .int .i64 0, .int .i64 (-4)]) (ok := fun _ => True) (okp := fun _ => True) ?hr ?hp (fun _ hk => hk) trivial (Below.refl _ _) (Nat.le_refl _) (by simp) ?_; (case hd => rfl); (case hg => rfl); (case hr => first | (go_simp; done) | (go_simp; rfl)); (case hp => exact (Reps.one (show Kd.M (Kd.int .i64) _ _ _ 1 [.int .i64 1] from rfl) (Reps.one (show Kd.M (Kd.int .i64) _ _ _ 0 [.int .i64 0] from rfl) (Reps.one (show Kd.M (Kd.int .i64) _ _ _ (-4) [.int .i64 (-4)] from rfl) (Reps.none _ _))))); intro v703 w41 ho42 hb hg_ hnew_; clear hg_ hnew_; (first | rw [← Ny702.out] at ho42 | (simp only [Int.reduceToNat] at ho42; rw [← Ny702.out] at ho42)); have n0_ := Aside0.mk (Kd.N_elder' (nx HO695.out) (Kd.R_base ho42) hb); have n1_ := Aside0.mk (Kd.N_elder' (nx HO701.out) (Kd.R_base ho42) hb); have n2_ := Aside0.mk (Kd.R_lower ho42 (below_size (bl HB.out))); have n3_ := Aside0.mk (below_step (bl HB.out) hb); clear HO695; clear HO701; clear HB; have HO695 := n0_; have HO701 := n1_; have HO704 := n2_; have HB := n3_; clear n0_ n1_ n2_ n3_; clear hb ho42) | ((with_reducible refine gate_dst (N := 29) rfl ?_); (try (refine gate_guard (by rfl) ?_; dsimp only)); refine Kd.R_lit (Kd.int .i64) _ 3 ?hg (N := 29) ?hd (xs := ([0, 1, 4] : List Int)) (inner := [.int .i64 0, .int .i64 1, .int .i64 4]) (ok := fun _ => True) (okp := fun _ => True) ?hr ?hp (fun _ hk => hk) trivial (Below.refl _ _) (Nat.le_refl _) (by simp) ?_; (case hd => rfl); (case hg => rfl); (case hr => first | (go_simp; done) | (go_simp; rfl)); (case hp => exact (Reps.one (show Kd.M (Kd.int .i64) _ _ _ 0 [.int .i64 0] from rfl) (Reps.one (show Kd.M (Kd.int .i64) _ _ _ 1 [.int .i64 1] from rfl) (Reps.one (show Kd.M (Kd.int .i64) _ _ _ 4 [.int .i64 4] from rfl) (Reps.none _ _))))); intro v706 w43 ho44 hb hg_ hnew_; clear hg_ hnew_; (first | rw [← Ny705.out] at ho44 | (simp only [Int.reduceToNat] at ho44; rw [← Ny705.out] at ho44)); have n0_ := Aside0.mk (Kd.N_elder' (nx HO695.out) (Kd.R_base ho44) hb); have n1_ := Aside0.mk (Kd.N_elder' (nx HO701.out) (Kd.R_base ho44) hb); have n2_ := Aside0.mk (Kd.R_elder' (rx HO704.out) (Kd.R_base ho44) hb); have n3_ := Aside0.mk (Kd.R_lower (Kd.R_new' ho44 (Kd.R_lt (rx HO704.out))) (below_size (bl HB.out))); have n4_ := Aside0.mk (below_step (bl HB.out) hb); clear HO695; clear HO701; clear HO704; clear HB; have HO695 := n0_; have HO701 := n1_; have HO704 := n2_; have HO707 := n3_; have HB := n4_; clear n0_ n1_ n2_ n3_ n4_; clear hb ho44; obtain ⟨Ao45, co45, eo45⟩ := Kd.R_slice HO704.out; subst eo45; obtain ⟨Ao46, co46, eo46⟩ := Kd.R_slice HO707.out; subst eo46) | ((with_reducible refine gate_dst (N := 30) rfl ?_); (try (refine gate_guard (by rfl) ?_; dsimp only)); refine Kd.N_lit (Kd.slice 3 (Kd.int .i64)) _ 51 ?hg (N' := 30) ?hd (xs := ([y702, y705] : List (List Int))) (inner := [.slice Ao45 y702.length co45, .slice Ao46 y705.length co46]) (ok := (fun k_ => some k_ ≠ (.slice Ao38 y693.length co38 : Value).ownBlock ∧ some k_ ≠ (v700 : Value).ownBlock)) (okp := (fun k_ => some k_ ≠ (.slice Ao38 y693.length co38 : Value).ownBlock ∧ some k_ ≠ (v700 : Value).ownBlock)) ?hr ?hp (fun _ hk => hk) ((show ∀ k_, w43.heap.size ≤ k_ → (fun k_ => some k_ ≠ (.slice Ao38 y693.length co38 : Value).ownBlock ∧ some k_ ≠ (v700 : Value).ownBlock) k_ from fun k_ hk => ⟨Kd.fresh' (Kd.N_lt (nx HO695.out)) k_ hk, Kd.fresh' (Kd.N_lt (nx HO701.out)) k_ hk⟩) _ (Nat.le_refl _)) (Below.refl _ _) (Nat.le_refl _) (by simp) ?_; (case hd => rfl); (case hg => rfl); (case hr => first | (go_simp; done) | (go_simp; rfl)); (case hp => exact (Reps.one (show Kd.FK (Kd.slice 3 (Kd.int .i64)) _ _ y702 [.slice Ao45 y702.length co45] from (Kd.FK_slice_mk (Kd.R_reads' (Kd.R_mono (ok' := (fun k_ => some k_ ≠ (.slice Ao38 y693.length co38 : Value).ownBlock ∧ some k_ ≠ (v700 : Value).ownBlock)) (Kd.R_apart' (Kd.R_apart' (HO704.out) (Kd.N_typed HO695.out) (by decide)) (Kd.N_typed HO701.out) (by decide)) (fun k_ hk => ⟨hk.1.2, hk.2⟩))).2.1 (Kd.R_F (Kd.R_mono (ok' := (fun k_ => some k_ ≠ (.slice Ao38 y693.length co38 : Value).ownBlock ∧ some k_ ≠ (v700 : Value).ownBlock)) (Kd.R_apart' (Kd.R_apart' (HO704.out) (Kd.N_typed HO695.out) (by decide)) (Kd.N_typed HO701.out) (by decide)) (fun k_ hk => ⟨hk.1.2, hk.2⟩))))) (Reps.one (show Kd.FK (Kd.slice 3 (Kd.int .i64)) _ _ y705 [.slice Ao46 y705.length co46] from (Kd.FK_slice_mk (Kd.R_reads' (Kd.R_mono (ok' := (fun k_ => some k_ ≠ (.slice Ao38 y693.length co38 : Value).ownBlock ∧ some k_ ≠ (v700 : Value).ownBlock)) (Kd.R_apart' (Kd.R_apart' (HO707.out) (Kd.N_typed HO695.out) (by decide)) (Kd.N_typed HO701.out) (by decide)) (fun k_ hk => ⟨hk.1.2, hk.2⟩))).2.1 (Kd.R_F (Kd.R_mono (ok' := (fun k_ => some k_ ≠ (.slice Ao38 y693.length co38 : Value).ownBlock ∧ some k_ ≠ (v700 : Value).ownBlock)) (Kd.R_apart' (Kd.R_apart' (HO707.out) (Kd.N_typed HO695.out) (by decide)) (Kd.N_typed HO701.out) (by decide)) (fun k_ hk => ⟨hk.1.2, hk.2⟩))))) (Reps.none _ _)))); intro v709 w47 ho48 hb hg_ hnew_; clear hg_ hnew_; (first | rw [← Ny708.out] at ho48 | (simp only [Int.reduceToNat] at ho48; rw [← Ny708.out] at ho48)); have n0_ := Aside0.mk (Kd.N_elder' (nx HO695.out) (Kd.N_base ho48) hb); have n1_ := Aside0.mk (Kd.N_elder' (nx HO701.out) (Kd.N_base ho48) hb); have n2_ := Aside0.mk (Kd.N_lower ho48 (below_size (bl HB.out))); have n3_ := Aside0.mk (below_step (bl HB.out) hb); clear HO695; clear HO701; clear HB; clear HO704; clear HO707; have HO695 := n0_; have HO701 := n1_; have HO710 := n2_; have HB := n3_; clear n0_ n1_ n2_ n3_; clear hb ho48; obtain ⟨Ao49, co49, eo49⟩ := Kd.N_slice HO710.out; subst eo49) | ((with_reducible refine gate_callee (f := 33) rfl ?_); refine goesL_ (some 31) rfl rfl Tryz.func33 (by kernel_rfl) rfl #[.slice Ao49 y708.length co49, .int .i64 2] rfl (by (try simp only [List.map_toArray, List.map_cons, List.map_nil]); first | done | rfl | (simp only [List.length_drop, List.length_take]; rfl)) ?_; (with_reducible refine (table_Minors.calls k _ _ y708 2 t711 t712 _ ?side1 ?side2 ?gG A3.out).mono ?_); (case gG => exact gw HG.out HB.out); (case side1 => exact cx (Kd.N_reads' HO710.out).2.2); (case side2 => exact (Kd.N_reads' HO710.out).2.1); rintro e w50 ⟨v713, rfl, ho0, hb⟩; refine ⟨_, rfl, ?_⟩; have n0_ := Aside0.mk (Kd.N_elder' (nx HO695.out) (Kd.R_base ho0) hb); have n1_ := Aside0.mk (Kd.N_elder' (nx HO701.out) (Kd.R_base ho0) hb); have n2_ := Aside0.mk (Kd.N_elder' (nx HO710.out) (Kd.R_base ho0) hb); have n3_ := Aside0.mk (Kd.R_lower ho0 (below_size (bl HB.out))); have n4_ := Aside0.mk (below_step (bl HB.out) hb); clear HO695; clear HO701; clear HO710; clear HB; have HO695 := n0_; have HO701 := n1_; have HO710 := n2_; have HO714 := n3_; have HB := n4_; clear n0_ n1_ n2_ n3_ n4_; (try clear hb); (try clear hb2); (try clear hk); (try clear hi); (try clear ho0)) | ((with_reducible refine gate_dst (N := 35) rfl ?_); (try (refine gate_guard (by rfl) ?_; dsimp only)); refine Kd.R_lit (Kd.int .i64) _ 3 ?hg (N := 35) ?hd (xs := ([1, 2] : List Int)) (inner := [.int .i64 1, .int .i64 2]) (ok := fun _ => True) (okp := fun _ => True) ?hr ?hp (fun _ hk => hk) trivial (Below.refl _ _) (Nat.le_refl _) (by simp) ?_; (case hd => rfl); (case hg => rfl); (case hr => first | (go_simp; done) | (go_simp; rfl)); (case hp => exact (Reps.one (show Kd.M (Kd.int .i64) _ _ _ 1 [.int .i64 1] from rfl) (Reps.one (show Kd.M (Kd.int .i64) _ _ _ 2 [.int .i64 2] from rfl) (Reps.none _ _)))); intro v716 w51 ho52 hb hg_ hnew_; clear hg_ hnew_; (first | rw [← Ny715.out] at ho52 | (simp only [Int.reduceToNat] at ho52; rw [← Ny715.out] at ho52)); have n0_ := Aside0.mk (Kd.N_elder' (nx HO695.out) (Kd.R_base ho52) hb); have n1_ := Aside0.mk (Kd.N_elder' (nx HO701.out) (Kd.R_base ho52) hb); have n2_ := Aside0.mk (Kd.N_elder' (nx HO710.out) (Kd.R_base ho52) hb); have n3_ := Aside0.mk (Kd.R_below (rx HO714.out) hb); have n4_ := Aside0.mk (Kd.R_lower ho52 (below_size (bl HB.out))); have n5_ := Aside0.mk (below_step (bl HB.out) hb); clear HO695; clear HO701; clear HO710; clear HO714; clear HB; have HO695 := n0_; have HO701 := n1_; have HO710 := n2_; have HO714 := n3_; have HO717 := n4_; have HB := n5_; clear n0_ n1_ n2_ n3_ n4_ n5_; clear hb ho52; obtain ⟨Ao53, co53, eo53⟩ := Kd.R_slice HO717.out; subst eo53) | ((with_reducible refine gate_dst (N := 36) rfl ?_); (try (refine gate_guard (by rfl) ?_; dsimp only)); refine Kd.N_lit (Kd.slice 3 (Kd.int .i64)) _ 51 ?hg (N' := 36) ?hd (xs := ([y715] : List (List Int))) (inner := [.slice Ao53 y715.length co53]) (ok := (fun k_ => some k_ ≠ (.slice Ao38 y693.length co38 : Value).ownBlock ∧ some k_ ≠ (v700 : Value).ownBlock ∧ some k_ ≠ (.slice Ao49 y708.length co49 : Value).ownBlock ∧ some k_ ≠ (v713 : Value).ownBlock)) (okp := (fun k_ => some k_ ≠ (.slice Ao38 y693.length co38 : Value).ownBlock ∧ some k_ ≠ (v700 : Value).ownBlock ∧ some k_ ≠ (.slice Ao49 y708.length co49 : Value).ownBlock ∧ some k_ ≠ (v713 : Value).ownBlock)) ?hr ?hp (fun _ hk => hk) ((show ∀ k_, w51.heap.size ≤ k_ → (fun k_ => some k_ ≠ (.slice Ao38 y693.length co38 : Value).ownBlock ∧ some k_ ≠ (v700 : Value).ownBlock ∧ some k_ ≠ (.slice Ao49 y708.length co49 : Value).ownBlock ∧ some k_ ≠ (v713 : Value).ownBlock) k_ from fun k_ hk => ⟨Kd.fresh' (Kd.N_lt (nx HO695.out)) k_ hk, Kd.fresh' (Kd.N_lt (nx HO701.out)) k_ hk, Kd.fresh' (Kd.N_lt (nx HO710.out)) k_ hk, Kd.fresh' (Kd.R_lt (rx HO714.out)) k_ hk⟩) _ (Nat.le_refl _)) (Below.refl _ _) (Nat.le_refl _) (by simp) ?_; (case hd => rfl); (case hg => rfl); (case hr => first | (go_simp; done) | (go_simp; rfl)); (case hp => exact (Reps.one (show Kd.FK (Kd.slice 3 (Kd.int .i64)) _ _ y715 [.slice Ao53 y715.length co53] from (Kd.FK_slice_mk (Kd.R_reads' (Kd.R_mono (ok' := (fun k_ => some k_ ≠ (.slice Ao38 y693.length co38 : Value).ownBlock ∧ some k_ ≠ (v700 : Value).ownBlock ∧ some k_ ≠ (.slice Ao49 y708.length co49 : Value).ownBlock ∧ some k_ ≠ (v713 : Value).ownBlock)) (Kd.R_apart' (Kd.R_apart' (Kd.R_apart' (Kd.R_apart' (HO717.out) (Kd.N_typed HO695.out) (by decide)) (Kd.N_typed HO701.out) (by decide)) (Kd.N_typed HO710.out) (by decide)) (Kd.R_typed HO714.out) (by decide)) (fun k_ hk => ⟨hk.1.1.1.2, ⟨hk.1.1.2, ⟨hk.1.2, hk.2⟩⟩⟩))).2.1 (Kd.R_F (Kd.R_mono (ok' := (fun k_ => some k_ ≠ (.slice Ao38 y693.length co38 : Value).ownBlock ∧ some k_ ≠ (v700 : Value).ownBlock ∧ some k_ ≠ (.slice Ao49 y708.length co49 : Value).ownBlock ∧ some k_ ≠ (v713 : Value).ownBlock)) (Kd.R_apart' (Kd.R_apart' (Kd.R_apart' (Kd.R_apart' (HO717.out) (Kd.N_typed HO695.out) (by decide)) (Kd.N_typed HO701.out) (by decide)) (Kd.N_typed HO710.out) (by decide)) (Kd.R_typed HO714.out) (by decide)) (fun k_ hk => ⟨hk.1.1.1.2, ⟨hk.1.1.2, ⟨hk.1.2, hk.2⟩⟩⟩))))) (Reps.none _ _))); intro v719 w54 ho55 hb hg_ hnew_; clear hg_ hnew_; (first | rw [← Ny718.out] at ho55 | (simp only [Int.reduceToNat] at ho55; rw [← Ny718.out] at ho55)); have n0_ := Aside0.mk (Kd.N_elder' (nx HO695.out) (Kd.N_base ho55) hb); have n1_ := Aside0.mk (Kd.N_elder' (nx HO701.out) (Kd.N_base ho55) hb); have n2_ := Aside0.mk (Kd.N_elder' (nx HO710.out) (Kd.N_base ho55) hb); have n3_ := Aside0.mk (Kd.R_below (rx HO714.out) hb); have n4_ := Aside0.mk (Kd.N_lower ho55 (below_size (bl HB.out))); have n5_ := Aside0.mk (below_step (bl HB.out) hb); clear HO695; clear HO701; clear HO710; clear HO714; clear HB; clear HO717; have HO695 := n0_; have HO701 := n1_; have HO710 := n2_; have HO714 := n3_; have HO720 := n4_; have HB := n5_; clear n0_ n1_ n2_ n3_ n4_ n5_; clear hb ho55) | ((with_reducible refine gate_dst (N := 37) rfl ?_); (try (refine gate_guard (by rfl) ?_; dsimp only)); refine Kd.R_lit (Kd.int .i64) _ 3 ?hg (N := 37) ?hd (xs := ([3] : List Int)) (inner := [.int .i64 3]) (ok := fun _ => True) (okp := fun _ => True) ?hr ?hp (fun _ hk => hk) trivial (Below.refl _ _) (Nat.le_refl _) (by simp) ?_; (case hd => rfl); (case hg => rfl); (case hr => first | (go_simp; done) | (go_simp; rfl)); (case hp => exact (Reps.one (show Kd.M (Kd.int .i64) _ _ _ 3 [.int .i64 3] from rfl) (Reps.none _ _))); intro v722 w56 ho57 hb hg_ hnew_; clear hg_ hnew_; (first | rw [← Ny721.out] at ho57 | (simp only [Int.reduceToNat] at ho57; rw [← Ny721.out] at ho57)); have n0_ := Aside0.mk (Kd.N_elder' (nx HO695.out) (Kd.R_base ho57) hb); have n1_ := Aside0.mk (Kd.N_elder' (nx HO701.out) (Kd.R_base ho57) hb); have n2_ := Aside0.mk (Kd.N_elder' (nx HO710.out) (Kd.R_base ho57) hb); have n3_ := Aside0.mk (Kd.R_below (rx HO714.out) hb); have n4_ := Aside0.mk (Kd.N_elder' (nx HO720.out) (Kd.R_base ho57) hb); have n5_ := Aside0.mk (Kd.R_lower ho57 (below_size (bl HB.out))); have n6_ := Aside0.mk (below_step (bl HB.out) hb); clear HO695; clear HO701; clear HO710; clear HO714; clear HO720; clear HB; have HO695 := n0_; have HO701 := n1_; have HO710 := n2_; have HO714 := n3_; have HO720 := n4_; have HO723 := n5_; have HB := n6_; clear n0_ n1_ n2_ n3_ n4_ n5_ n6_; clear hb ho57; obtain ⟨Ao58, co58, eo58⟩ := Kd.N_slice HO720.out; subst eo58; obtain ⟨Ao59, co59, eo59⟩ := Kd.R_slice HO723.out; subst eo59) | ((with_reducible refine gate_callee (f := 38) rfl ?_); refine goesL_ (some 38) rfl rfl Tryz.func38 (by kernel_rfl) rfl #[.slice Ao58 y718.length co58, .slice Ao59 y721.length co59] rfl (by (try simp only [List.map_toArray, List.map_cons, List.map_nil]); first | done | rfl | (simp only [List.length_drop, List.length_take]; rfl)) ?_; (with_reducible refine (table_Solve.calls k _ _ y718 _ _ y721 t724 t725 t726 _ ?side1 ?side2 ?side3 ?side4 ?gG A4.out).mono ?_); (case gG => exact gw HG.out HB.out); (case side1 => exact cx (Kd.N_reads' HO720.out).2.2); (case side2 => exact (Kd.N_reads' HO720.out).2.1); (case side3 => exact cx (Kd.R_reads' HO723.out).2.2); (case side4 => exact (Kd.R_reads' HO723.out).2.1); rintro e w60 ⟨v727, rfl, ho0, hb⟩; refine ⟨_, rfl, ?_⟩; have n0_ := Aside0.mk (Kd.N_elder' (nx HO695.out) (Kd.R_base ho0) hb); have n1_ := Aside0.mk (Kd.N_elder' (nx HO701.out) (Kd.R_base ho0) hb); have n2_ := Aside0.mk (Kd.N_elder' (nx HO710.out) (Kd.R_base ho0) hb); have n3_ := Aside0.mk (Kd.R_below (rx HO714.out) hb); have n4_ := Aside0.mk (Kd.N_elder' (nx HO720.out) (Kd.R_base ho0) hb); have n5_ := Aside0.mk (Kd.R_below (rx HO723.out) hb); have n6_ := Aside0.mk (Kd.R_lower ho0 (below_size (bl HB.out))); have n7_ := Aside0.mk (below_step (bl HB.out) hb); clear HO695; clear HO701; clear HO710; clear HO714; clear HO720; clear HO723; clear HB; have HO695 := n0_; have HO701 := n1_; have HO710 := n2_; have HO714 := n3_; have HO720 := n4_; have HO723 := n5_; have HO728 := n6_; have HB := n7_; clear n0_ n1_ n2_ n3_ n4_ n5_ n6_ n7_; (try clear hb); (try clear hb2); (try clear hk); (try clear hi); (try clear ho0)) | ((with_reducible refine gate_dst (N := 43) rfl ?_); (try (refine gate_guard (by rfl) ?_; dsimp only)); refine Kd.R_lit (Kd.int .i64) _ 3 ?hg (N := 43) ?hd (xs := ([1, 2] : List Int)) (inner := [.int .i64 1, .int .i64 2]) (ok := fun _ => True) (okp := fun _ => True) ?hr ?hp (fun _ hk => hk) trivial (Below.refl _ _) (Nat.le_refl _) (by simp) ?_; (case hd => rfl); (case hg => rfl); (case hr => first | (go_simp; done) | (go_simp; rfl)); (case hp => exact (Reps.one (show Kd.M (Kd.int .i64) _ _ _ 1 [.int .i64 1] from rfl) (Reps.one (show Kd.M (Kd.int .i64) _ _ _ 2 [.int .i64 2] from rfl) (Reps.none _ _)))); intro v730 w61 ho62 hb hg_ hnew_; clear hg_ hnew_; (first | rw [← Ny729.out] at ho62 | (simp only [Int.reduceToNat] at ho62; rw [← Ny729.out] at ho62)); have n0_ := Aside0.mk (Kd.N_elder' (nx HO695.out) (Kd.R_base ho62) hb); have n1_ := Aside0.mk (Kd.N_elder' (nx HO701.out) (Kd.R_base ho62) hb); have n2_ := Aside0.mk (Kd.N_elder' (nx HO710.out) (Kd.R_base ho62) hb); have n3_ := Aside0.mk (Kd.R_below (rx HO714.out) hb); have n4_ := Aside0.mk (Kd.N_elder' (nx HO720.out) (Kd.R_base ho62) hb); have n5_ := Aside0.mk (Kd.R_elder' (rx HO723.out) (Kd.R_base ho62) hb); have n6_ := Aside0.mk (Kd.R_below (rx HO728.out) hb); have n7_ := Aside0.mk (Kd.R_lower (Kd.R_new' ho62 (Kd.R_lt (rx HO723.out))) (below_size (bl HB.out))); have n8_ := Aside0.mk (below_step (bl HB.out) hb); clear HO695; clear HO701; clear HO710; clear HO714; clear HO720; clear HO723; clear HO728; clear HB; have HO695 := n0_; have HO701 := n1_; have HO710 := n2_; have HO714 := n3_; have HO720 := n4_; have HO723 := n5_; have HO728 := n6_; have HO731 := n7_; have HB := n8_; clear n0_ n1_ n2_ n3_ n4_ n5_ n6_ n7_ n8_; clear hb ho62) | ((with_reducible refine gate_dst (N := 44) rfl ?_); (try (refine gate_guard (by rfl) ?_; dsimp only)); refine Kd.R_lit (Kd.int .i64) _ 3 ?hg (N := 44) ?hd (xs := ([2, 4] : List Int)) (inner := [.int .i64 2, .int .i64 4]) (ok := fun _ => True) (okp := fun _ => True) ?hr ?hp (fun _ hk => hk) trivial (Below.refl _ _) (Nat.le_refl _) (by simp) ?_; (case hd => rfl); (case hg => rfl); (case hr => first | (go_simp; done) | (go_simp; rfl)); (case hp => exact (Reps.one (show Kd.M (Kd.int .i64) _ _ _ 2 [.int .i64 2] from rfl) (Reps.one (show Kd.M (Kd.int .i64) _ _ _ 4 [.int .i64 4] from rfl) (Reps.none _ _)))); intro v733 w63 ho64 hb hg_ hnew_; clear hg_ hnew_; (first | rw [← Ny732.out] at ho64 | (simp only [Int.reduceToNat] at ho64; rw [← Ny732.out] at ho64)); have n0_ := Aside0.mk (Kd.N_elder' (nx HO695.out) (Kd.R_base ho64) hb); have n1_ := Aside0.mk (Kd.N_elder' (nx HO701.out) (Kd.R_base ho64) hb); have n2_ := Aside0.mk (Kd.N_elder' (nx HO710.out) (Kd.R_base ho64) hb); have n3_ := Aside0.mk (Kd.R_below (rx HO714.out) hb); have n4_ := Aside0.mk (Kd.N_elder' (nx HO720.out) (Kd.R_base ho64) hb); have n5_ := Aside0.mk (Kd.R_elder' (rx HO723.out) (Kd.R_base ho64) hb); have n6_ := Aside0.mk (Kd.R_below (rx HO728.out) hb); have n7_ := Aside0.mk (Kd.R_elder' (rx HO731.out) (Kd.R_base ho64) hb); have n8_ := Aside0.mk (Kd.R_lower (Kd.R_new' (Kd.R_new' ho64 (Kd.R_lt (rx HO723.out))) (Kd.R_lt (rx HO731.out))) (below_size (bl HB.out))); have n9_ := Aside0.mk (below_step (bl HB.out) hb); clear HO695; clear HO701; clear HO710; clear HO714; clear HO720; clear HO723; clear HO728; clear HO731; clear HB; have HO695 := n0_; have HO701 := n1_; have HO710 := n2_; have HO714 := n3_; have HO720 := n4_; have HO723 := n5_; have HO728 := n6_; have HO731 := n7_; have HO734 := n8_; have HB := n9_; clear n0_ n1_ n2_ n3_ n4_ n5_ n6_ n7_ n8_ n9_; clear hb ho64; obtain ⟨Ao65, co65, eo65⟩ := Kd.R_slice HO731.out; subst eo65; obtain ⟨Ao66, co66, eo66⟩ := Kd.R_slice HO734.out; subst eo66) | ((with_reducible refine gate_dst (N := 45) rfl ?_); (try (refine gate_guard (by rfl) ?_; dsimp only)); refine Kd.N_lit (Kd.slice 3 (Kd.int .i64)) _ 51 ?hg (N' := 45) ?hd (xs := ([y729, y732] : List (List Int))) (inner := [.slice Ao65 y729.length co65, .slice Ao66 y732.length co66]) (ok := (fun k_ => some k_ ≠ (.slice Ao38 y693.length co38 : Value).ownBlock ∧ some k_ ≠ (v700 : Value).ownBlock ∧ some k_ ≠ (.slice Ao49 y708.length co49 : Value).ownBlock ∧ some k_ ≠ (v713 : Value).ownBlock ∧ some k_ ≠ (.slice Ao58 y718.length co58 : Value).ownBlock ∧ some k_ ≠ (.slice Ao59 y721.length co59 : Value).ownBlock ∧ some k_ ≠ (v727 : Value).ownBlock)) (okp := (fun k_ => some k_ ≠ (.slice Ao38 y693.length co38 : Value).ownBlock ∧ some k_ ≠ (v700 : Value).ownBlock ∧ some k_ ≠ (.slice Ao49 y708.length co49 : Value).ownBlock ∧ some k_ ≠ (v713 : Value).ownBlock ∧ some k_ ≠ (.slice Ao58 y718.length co58 : Value).ownBlock ∧ some k_ ≠ (.slice Ao59 y721.length co59 : Value).ownBlock ∧ some k_ ≠ (v727 : Value).ownBlock)) ?hr ?hp (fun _ hk => hk) ((show ∀ k_, w63.heap.size ≤ k_ → (fun k_ => some k_ ≠ (.slice Ao38 y693.length co38 : Value).ownBlock ∧ some k_ ≠ (v700 : Value).ownBlock ∧ some k_ ≠ (.slice Ao49 y708.length co49 : Value).ownBlock ∧ some k_ ≠ (v713 : Value).ownBlock ∧ some k_ ≠ (.slice Ao58 y718.length co58 : Value).ownBlock ∧ some k_ ≠ (.slice Ao59 y721.length co59 : Value).ownBlock ∧ some k_ ≠ (v727 : Value).ownBlock) k_ from fun k_ hk => ⟨Kd.fresh' (Kd.N_lt (nx HO695.out)) k_ hk, Kd.fresh' (Kd.N_lt (nx HO701.out)) k_ hk, Kd.fresh' (Kd.N_lt (nx HO710.out)) k_ hk, Kd.fresh' (Kd.R_lt (rx HO714.out)) k_ hk, Kd.fresh' (Kd.N_lt (nx HO720.out)) k_ hk, Kd.fresh' (Kd.R_lt (rx HO723.out)) k_ hk, Kd.fresh' (Kd.R_lt (rx HO728.out)) k_ hk⟩) _ (Nat.le_refl _)) (Below.refl _ _) (Nat.le_refl _) (by simp) ?_; (case hd => rfl); (case hg => rfl); (case hr => first | (go_simp; done) | (go_simp; rfl)); (case hp => exact (Reps.one (show Kd.FK (Kd.slice 3 (Kd.int .i64)) _ _ y729 [.slice Ao65 y729.length co65] from (Kd.FK_slice_mk (Kd.R_reads' (Kd.R_mono (ok' := (fun k_ => some k_ ≠ (.slice Ao38 y693.length co38 : Value).ownBlock ∧ some k_ ≠ (v700 : Value).ownBlock ∧ some k_ ≠ (.slice Ao49 y708.length co49 : Value).ownBlock ∧ some k_ ≠ (v713 : Value).ownBlock ∧ some k_ ≠ (.slice Ao58 y718.length co58 : Value).ownBlock ∧ some k_ ≠ (.slice Ao59 y721.length co59 : Value).ownBlock ∧ some k_ ≠ (v727 : Value).ownBlock)) (Kd.R_apart' (Kd.R_apart' (Kd.R_apart' (Kd.R_apart' (Kd.R_apart' (Kd.R_apart' (HO731.out) (Kd.N_typed HO695.out) (by decide)) (Kd.N_typed HO701.out) (by decide)) (Kd.N_typed HO710.out) (by decide)) (Kd.R_typed HO714.out) (by decide)) (Kd.N_typed HO720.out) (by decide)) (Kd.R_typed HO728.out) (by decide)) (fun k_ hk => ⟨hk.1.1.1.1.1.2, ⟨hk.1.1.1.1.2, ⟨hk.1.1.1.2, ⟨hk.1.1.2, ⟨hk.1.2, ⟨hk.1.1.1.1.1.1.1.2, hk.2⟩⟩⟩⟩⟩⟩))).2.1 (Kd.R_F (Kd.R_mono (ok' := (fun k_ => some k_ ≠ (.slice Ao38 y693.length co38 : Value).ownBlock ∧ some k_ ≠ (v700 : Value).ownBlock ∧ some k_ ≠ (.slice Ao49 y708.length co49 : Value).ownBlock ∧ some k_ ≠ (v713 : Value).ownBlock ∧ some k_ ≠ (.slice Ao58 y718.length co58 : Value).ownBlock ∧ some k_ ≠ (.slice Ao59 y721.length co59 : Value).ownBlock ∧ some k_ ≠ (v727 : Value).ownBlock)) (Kd.R_apart' (Kd.R_apart' (Kd.R_apart' (Kd.R_apart' (Kd.R_apart' (Kd.R_apart' (HO731.out) (Kd.N_typed HO695.out) (by decide)) (Kd.N_typed HO701.out) (by decide)) (Kd.N_typed HO710.out) (by decide)) (Kd.R_typed HO714.out) (by decide)) (Kd.N_typed HO720.out) (by decide)) (Kd.R_typed HO728.out) (by decide)) (fun k_ hk => ⟨hk.1.1.1.1.1.2, ⟨hk.1.1.1.1.2, ⟨hk.1.1.1.2, ⟨hk.1.1.2, ⟨hk.1.2, ⟨hk.1.1.1.1.1.1.1.2, hk.2⟩⟩⟩⟩⟩⟩))))) (Reps.one (show Kd.FK (Kd.slice 3 (Kd.int .i64)) _ _ y732 [.slice Ao66 y732.length co66] from (Kd.FK_slice_mk (Kd.R_reads' (Kd.R_mono (ok' := (fun k_ => some k_ ≠ (.slice Ao38 y693.length co38 : Value).ownBlock ∧ some k_ ≠ (v700 : Value).ownBlock ∧ some k_ ≠ (.slice Ao49 y708.length co49 : Value).ownBlock ∧ some k_ ≠ (v713 : Value).ownBlock ∧ some k_ ≠ (.slice Ao58 y718.length co58 : Value).ownBlock ∧ some k_ ≠ (.slice Ao59 y721.length co59 : Value).ownBlock ∧ some k_ ≠ (v727 : Value).ownBlock)) (Kd.R_apart' (Kd.R_apart' (Kd.R_apart' (Kd.R_apart' (Kd.R_apart' (Kd.R_apart' (HO734.out) (Kd.N_typed HO695.out) (by decide)) (Kd.N_typed HO701.out) (by decide)) (Kd.N_typed HO710.out) (by decide)) (Kd.R_typed HO714.out) (by decide)) (Kd.N_typed HO720.out) (by decide)) (Kd.R_typed HO728.out) (by decide)) (fun k_ hk => ⟨hk.1.1.1.1.1.2, ⟨hk.1.1.1.1.2, ⟨hk.1.1.1.2, ⟨hk.1.1.2, ⟨hk.1.2, ⟨hk.1.1.1.1.1.1.1.2, hk.2⟩⟩⟩⟩⟩⟩))).2.1 (Kd.R_F (Kd.R_mono (ok' := (fun k_ => some k_ ≠ (.slice Ao38 y693.length co38 : Value).ownBlock ∧ some k_ ≠ (v700 : Value).ownBlock ∧ some k_ ≠ (.slice Ao49 y708.length co49 : Value).ownBlock ∧ some k_ ≠ (v713 : Value).ownBlock ∧ some k_ ≠ (.slice Ao58 y718.length co58 : Value).ownBlock ∧ some k_ ≠ (.slice Ao59 y721.length co59 : Value).ownBlock ∧ some k_ ≠ (v727 : Value).ownBlock)) (Kd.R_apart' (Kd.R_apart' (Kd.R_apart' (Kd.R_apart' (Kd.R_apart' (Kd.R_apart' (HO734.out) (Kd.N_typed HO695.out) (by decide)) (Kd.N_typed HO701.out) (by decide)) (Kd.N_typed HO710.out) (by decide)) (Kd.R_typed HO714.out) (by decide)) (Kd.N_typed HO720.out) (by decide)) (Kd.R_typed HO728.out) (by decide)) (fun k_ hk => ⟨hk.1.1.1.1.1.2, ⟨hk.1.1.1.1.2, ⟨hk.1.1.1.2, ⟨hk.1.1.2, ⟨hk.1.2, ⟨hk.1.1.1.1.1.1.1.2, hk.2⟩⟩⟩⟩⟩⟩))))) (Reps.none _ _)))); intro v736 w67 ho68 hb hg_ hnew_; clear hg_ hnew_; (first | rw [← Ny735.out] at ho68 | (simp only [Int.reduceToNat] at ho68; rw [← Ny735.out] at ho68)); have n0_ := Aside0.mk (Kd.N_elder' (nx HO695.out) (Kd.N_base ho68) hb); have n1_ := Aside0.mk (Kd.N_elder' (nx HO701.out) (Kd.N_base ho68) hb); have n2_ := Aside0.mk (Kd.N_elder' (nx HO710.out) (Kd.N_base ho68) hb); have n3_ := Aside0.mk (Kd.R_below (rx HO714.out) hb); have n4_ := Aside0.mk (Kd.N_elder' (nx HO720.out) (Kd.N_base ho68) hb); have n5_ := Aside0.mk (Kd.R_below (rx HO723.out) hb); have n6_ := Aside0.mk (Kd.R_below (rx HO728.out) hb); have n7_ := Aside0.mk (Kd.N_lower ho68 (below_size (bl HB.out))); have n8_ := Aside0.mk (below_step (bl HB.out) hb); clear HO695; clear HO701; clear HO710; clear HO714; clear HO720; clear HO723; clear HO728; clear HB; clear HO731; clear HO734; have HO695 := n0_; have HO701 := n1_; have HO710 := n2_; have HO714 := n3_; have HO720 := n4_; have HO723 := n5_; have HO728 := n6_; have HO737 := n7_; have HB := n8_; clear n0_ n1_ n2_ n3_ n4_ n5_ n6_ n7_ n8_; clear hb ho68) | ((with_reducible refine gate_dst (N := 46) rfl ?_); (try (refine gate_guard (by rfl) ?_; dsimp only)); refine Kd.R_lit (Kd.int .i64) _ 3 ?hg (N := 46) ?hd (xs := ([3, 5] : List Int)) (inner := [.int .i64 3, .int .i64 5]) (ok := fun _ => True) (okp := fun _ => True) ?hr ?hp (fun _ hk => hk) trivial (Below.refl _ _) (Nat.le_refl _) (by simp) ?_; (case hd => rfl); (case hg => rfl); (case hr => first | (go_simp; done) | (go_simp; rfl)); (case hp => exact (Reps.one (show Kd.M (Kd.int .i64) _ _ _ 3 [.int .i64 3] from rfl) (Reps.one (show Kd.M (Kd.int .i64) _ _ _ 5 [.int .i64 5] from rfl) (Reps.none _ _)))); intro v739 w69 ho70 hb hg_ hnew_; clear hg_ hnew_; (first | rw [← Ny738.out] at ho70 | (simp only [Int.reduceToNat] at ho70; rw [← Ny738.out] at ho70)); have n0_ := Aside0.mk (Kd.N_elder' (nx HO695.out) (Kd.R_base ho70) hb); have n1_ := Aside0.mk (Kd.N_elder' (nx HO701.out) (Kd.R_base ho70) hb); have n2_ := Aside0.mk (Kd.N_elder' (nx HO710.out) (Kd.R_base ho70) hb); have n3_ := Aside0.mk (Kd.R_below (rx HO714.out) hb); have n4_ := Aside0.mk (Kd.N_elder' (nx HO720.out) (Kd.R_base ho70) hb); have n5_ := Aside0.mk (Kd.R_elder' (rx HO723.out) (Kd.R_base ho70) hb); have n6_ := Aside0.mk (Kd.R_below (rx HO728.out) hb); have n7_ := Aside0.mk (Kd.N_elder' (nx HO737.out) (Kd.R_base ho70) hb); have n8_ := Aside0.mk (Kd.R_lower (Kd.R_new' ho70 (Kd.R_lt (rx HO723.out))) (below_size (bl HB.out))); have n9_ := Aside0.mk (below_step (bl HB.out) hb); clear HO695; clear HO701; clear HO710; clear HO714; clear HO720; clear HO723; clear HO728; clear HO737; clear HB; have HO695 := n0_; have HO701 := n1_; have HO710 := n2_; have HO714 := n3_; have HO720 := n4_; have HO723 := n5_; have HO728 := n6_; have HO737 := n7_; have HO740 := n8_; have HB := n9_; clear n0_ n1_ n2_ n3_ n4_ n5_ n6_ n7_ n8_ n9_; clear hb ho70; obtain ⟨Ao71, co71, eo71⟩ := Kd.N_slice HO737.out; subst eo71; obtain ⟨Ao72, co72, eo72⟩ := Kd.R_slice HO740.out; subst eo72) | ((with_reducible refine gate_callee (f := 38) rfl ?_); refine goesL_ (some 47) rfl rfl Tryz.func38 (by kernel_rfl) rfl #[.slice Ao71 y735.length co71, .slice Ao72 y738.length co72] rfl (by (try simp only [List.map_toArray, List.map_cons, List.map_nil]); first | done | rfl | (simp only [List.length_drop, List.length_take]; rfl)) ?_; (with_reducible refine (table_Solve.calls k _ _ y735 _ _ y738 t741 t742 t743 _ ?side1 ?side2 ?side3 ?side4 ?gG A5.out).mono ?_); (case gG => exact gw HG.out HB.out); (case side1 => exact cx (Kd.N_reads' HO737.out).2.2); (case side2 => exact (Kd.N_reads' HO737.out).2.1); (case side3 => exact cx (Kd.R_reads' HO740.out).2.2); (case side4 => exact (Kd.R_reads' HO740.out).2.1); rintro e w73 ⟨v744, rfl, ho0, hb⟩; refine ⟨_, rfl, ?_⟩; have n0_ := Aside0.mk (Kd.N_elder' (nx HO695.out) (Kd.R_base ho0) hb); have n1_ := Aside0.mk (Kd.N_elder' (nx HO701.out) (Kd.R_base ho0) hb); have n2_ := Aside0.mk (Kd.N_elder' (nx HO710.out) (Kd.R_base ho0) hb); have n3_ := Aside0.mk (Kd.R_below (rx HO714.out) hb); have n4_ := Aside0.mk (Kd.N_elder' (nx HO720.out) (Kd.R_base ho0) hb); have n5_ := Aside0.mk (Kd.R_below (rx HO723.out) hb); have n6_ := Aside0.mk (Kd.R_elder' (rx HO728.out) (Kd.R_base ho0) hb); have n7_ := Aside0.mk (Kd.N_elder' (nx HO737.out) (Kd.R_base ho0) hb); have n8_ := Aside0.mk (Kd.R_below (rx HO740.out) hb); have n9_ := Aside0.mk (Kd.R_lower (Kd.R_new' ho0 (Kd.R_lt (rx HO728.out))) (below_size (bl HB.out))); have n10_ := Aside0.mk (below_step (bl HB.out) hb); clear HO695; clear HO701; clear HO710; clear HO714; clear HO720; clear HO723; clear HO728; clear HO737; clear HO740; clear HB; have HO695 := n0_; have HO701 := n1_; have HO710 := n2_; have HO714 := n3_; have HO720 := n4_; have HO723 := n5_; have HO728 := n6_; have HO737 := n7_; have HO740 := n8_; have HO745 := n9_; have HB := n10_; clear n0_ n1_ n2_ n3_ n4_ n5_ n6_ n7_ n8_ n9_ n10_; (try clear hb); (try clear hb2); (try clear hk); (try clear hi); (try clear ho0)))
 obtain ⟨Ao714, co714, eo714⟩ := Kd.R_slice HO714.out
 subst eo714
 (try (obtain ⟨Ao723, co723, eo723⟩ := Kd.R_slice HO723.out; subst eo723))
 (try (obtain ⟨Ao740, co740, eo740⟩ := Kd.R_slice HO740.out; subst eo740))
 have n0_ := Aside0.mk (Kd.N_drew HO695.out)
 have n1_ := Aside0.mk (Kd.N_drew HO701.out)
 have n2_ := Aside0.mk (Kd.N_drew HO710.out)
 have n3_ := Aside0.mk (Kd.R_drew HO714.out)
 have n4_ := Aside0.mk (Kd.N_drew HO720.out)
 have n5_ := Aside0.mk (Kd.R_drew HO723.out)
 have n6_ := Aside0.mk (Kd.R_drew HO728.out)
 have n7_ := Aside0.mk (Kd.N_drew HO737.out)
 have n8_ := Aside0.mk (Kd.R_drew HO740.out)
 have n9_ := Aside0.mk (Kd.R_drew HO745.out)
 have n10_ := Aside0.mk (below_drew1 HB.out)
 clear HO695
 clear HO701
 clear HO710
 clear HO714
 clear HO720
 clear HO723
 clear HO728
 clear HO737
 clear HO740
 clear HO745
 clear HB
 have HO695 := n0_
 have HO701 := n1_
 have HO710 := n2_
 have HO714 := n3_
 have HO720 := n4_
 have HO723 := n5_
 have HO728 := n6_
 have HO737 := n7_
 have HO740 := n8_
 have HO745 := n9_
 have HB := n10_
 clear n0_ n1_ n2_ n3_ n4_ n5_ n6_ n7_ n8_ n9_ n10_
 obtain ⟨Ao75, co75, eo75⟩ := Kd.N_slice HO701.out
 (first | subst eo75 | (injection eo75 with f1_ f2_ f3_; have f4_ := f1_.symm; have f5_ := f3_.symm; clear f1_ f2_ f3_; subst f4_; subst f5_))
 have p746 : 0 ≤ (1 : Int) := (by omega)
 have q746 : 1 < (t698.length : Int) := of_decide_eq_true (by first | (with_reducible assumption) | assumption)
 obtain ⟨ad746, A746_0, c746_0, e746, hx746_0, hl746_0, hi746_0⟩ := at_L4 (Kd.N_reads' HO701.out).2.2 1 p746 q746
 cases e746
 obtain ⟨ce746, hce746, hMe746, hcc746⟩ := Kd.N_get HO701.out [] 1 p746 (by first | exact q746 | exact of_decide_eq_true (by first | (with_reducible assumption) | assumption) | (have e_ := (Kd.N_reads' HO701.out).1; omega))
 obtain ⟨ua746_0, uc746_0, rfl, ul746_0, ge746_0⟩ := Kd.FK_slice_open hMe746
 have hv746_0 := hcc746 0 _ rfl
 rw [Nat.add_zero, show ((Kd.slice 103 k103)).sz = 1 from rfl, Nat.mul_one] at hv746_0
 replace hv746_0 := Option.some.inj (hv746_0.symm.trans hx746_0)
 injection hv746_0 with hva_ hvn_ hvc_
 rw [hva_] at ge746_0
 rw [hvc_] at ul746_0
 have HL746_0 := Aside0.mk (show Kd.V k103 103 _ w.heap.size _ _ (rd_L4 t698 1) from Kd.V_mk ul746_0 ge746_0)
 clear hva_ hvn_ hvc_ ge746_0 ul746_0
 clear hcc746 hce746
 (try simp only [show (1 : Int).toNat = 1 from rfl, Nat.reduceMul, Nat.reduceEqDiff, Go.Addr.add, ↓reduceIte] at hx746_0)
 have qi746 : (1 < t698.length) = True := eq_true (by omega)
 (try rw [show ((1 : Int)).toNat = 1 from rfl] at hx746_0)
 have HR746_0 := Aside0.mk hi746_0
 have HC746_0 := Aside0.mk hl746_0
 clear hi746_0 hl746_0
 replace p746 := eq_true p746
 replace q746 := eq_true q746
 have p755 : 0 ≤ (0 : Int) := (by omega)
 have q755 : 0 < (t711.length : Int) := of_decide_eq_true (by first | (with_reducible assumption) | assumption)
 obtain ⟨ad755, e755, hx755_0⟩ := Kd.at_string (Kd.R_reads' HO714.out).2.2 0 p755 q755
 cases e755
 have qi755 : (0 < t711.length) = True := eq_true (by omega)
 (try rw [show ((0 : Int)).toNat = 0 from rfl] at hx755_0)
 (try rw [Addr.add_zero'] at hx755_0)
 replace p755 := eq_true p755
 replace q755 := eq_true q755
 have p756 : 0 ≤ (1 : Int) := (by omega)
 have q756 : 1 < (t711.length : Int) := of_decide_eq_true (by first | (with_reducible assumption) | assumption)
 obtain ⟨ad756, e756, hx756_0⟩ := Kd.at_string (Kd.R_reads' HO714.out).2.2 1 p756 q756
 obtain rfl : ad755 = ad756 := (by injection e756)
 (try simp only [show (1 : Int).toNat = 1 from rfl, Nat.reduceMul, Nat.reduceEqDiff, Go.Addr.add, ↓reduceIte] at hx756_0)
 have qi756 : (1 < t711.length) = True := eq_true (by omega)
 (try rw [show ((1 : Int)).toNat = 1 from rfl] at hx756_0)
 replace p756 := eq_true p756
 replace q756 := eq_true q756
 have p757 : 0 ≤ (2 : Int) := (by omega)
 have q757 : 2 < (t711.length : Int) := of_decide_eq_true (by first | (with_reducible assumption) | assumption)
 obtain ⟨ad757, e757, hx757_0⟩ := Kd.at_string (Kd.R_reads' HO714.out).2.2 2 p757 q757
 obtain rfl : ad755 = ad757 := (by injection e757)
 (try simp only [show (2 : Int).toNat = 2 from rfl, Nat.reduceMul, Nat.reduceEqDiff, Go.Addr.add, ↓reduceIte] at hx757_0)
 have qi757 : (2 < t711.length) = True := eq_true (by omega)
 (try rw [show ((2 : Int)).toNat = 2 from rfl] at hx757_0)
 replace p757 := eq_true p757
 replace q757 := eq_true q757
 refine start_ (n := 75) (S := fun w' => w'.cell? ⟨ad746.block, ad746.off + 1, none⟩ = some (.slice A746_0 (rd_L4 t698 1).length c746_0) ∧ w'.cell? ad755 = some (.string (rdOf ByteArray.empty t711 0)) ∧ w'.cell? ⟨ad755.block, ad755.off + 1, none⟩ = some (.string (rdOf ByteArray.empty t711 1)) ∧ w'.cell? ⟨ad755.block, ad755.off + 2, none⟩ = some (.string (rdOf ByteArray.empty t711 2))) (ds := []) #[false, false, false, false, false, false, false, false, false, false, false, false, false, false, false, false, false, false, false, false, false, false, false, false, false, false, false, false, false, false, false, false, false, false, false, false, false, false, false, false, false, false, false, false, false, false, false, false, false, false, false, false, false, false, false, false, false, false, false, false, false, false, false, false, false, false, false, false, false, false, false, false, false, false, false] (by kernel_rfl) rfl rfl ⟨hx746_0, hx755_0, hx756_0, hx757_0⟩ (fun hHeld => ?_); refine with_tabW schismalaw06_known.tab7 schismalaw06_known.bits7 (fun HT_ HW_ => ?_)
 generalize w73.drew = w74 at HO695 HO701 HO710 HO714 HO720 HO723 HO728 HO737 HO740 HO745 HB HL746_0 HR746_0 hx746_0 hx755_0 hx756_0 hx757_0 hHeld ⊢
 refine pure_ (i := 0) (N := some 51) (v := ?_) (a' := ?_) #[true, false, false, false, false, false, false, false, false, false, false, false, false, false, false, false, false, false, false, false, false, false, false, false, false, false, false, false, false, false, false, false, false, false, false, false, false, false, false, false, false, false, false, false, false, false, false, false, false, false, false, false, false, false, false, false, false, false, false, false, false, false, false, false, false, false, false, false, false, false, false, false, false, false, false] rfl rfl (any_of HT_.out (by kernel_rfl)) (fun _ _ _ h => h) (Or.inl ⟨by rfl, ?_⟩) ?_ ?_
 rotate_left
 ·intro w'
  go_simp
  with_reducible rfl
 rotate_left
 ·simp only [Act.put, List.setIfInBounds_toArray, List.set_cons_zero, List.set_cons_succ, i64_w, i32_w]
  rfl
 refine pure_ (i := 1) (N := some 52) (v := ?_) (a' := ?_) #[true, true, false, false, false, false, false, false, false, false, false, false, false, false, false, false, false, false, false, false, false, false, false, false, false, false, false, false, false, false, false, false, false, false, false, false, false, false, false, false, false, false, false, false, false, false, false, false, false, false, false, false, false, false, false, false, false, false, false, false, false, false, false, false, false, false, false, false, false, false, false, false, false, false, false] rfl rfl (any_of HT_.out (by kernel_rfl)) (fun _ _ _ h => h) (Or.inl ⟨by rfl, ?_⟩) ?_ ?_
 rotate_left
 ·intro w'
  go_simp
  with_reducible rfl
 rotate_left
 ·simp only [Act.put, List.setIfInBounds_toArray, List.set_cons_zero, List.set_cons_succ, i64_w, i32_w]
  rfl
 refine pure_ (i := 2) (N := some 53) (v := ?_) (a' := ?_) #[true, true, true, false, false, false, false, false, false, false, false, false, false, false, false, false, false, false, false, false, false, false, false, false, false, false, false, false, false, false, false, false, false, false, false, false, false, false, false, false, false, false, false, false, false, false, false, false, false, false, false, false, false, false, false, false, false, false, false, false, false, false, false, false, false, false, false, false, false, false, false, false, false, false, false] rfl rfl (any_of HT_.out (by kernel_rfl)) (fun _ _ _ h => h) (Or.inl ⟨by rfl, ?_⟩) ?_ ?_
 rotate_left
 ·intro w'
  go_simp
  with_reducible rfl
 rotate_left
 ·simp only [Act.put, List.setIfInBounds_toArray, List.set_cons_zero, List.set_cons_succ, i64_w, i32_w]
  rfl
 refine pure_ (i := 3) (N := some 54) (v := ?_) (a' := ?_) #[true, true, true, true, false, false, false, false, false, false, false, false, false, false, false, false, false, false, false, false, false, false, false, false, false, false, false, false, false, false, false, false, false, false, false, false, false, false, false, false, false, false, false, false, false, false, false, false, false, false, false, false, false, false, false, false, false, false, false, false, false, false, false, false, false, false, false, false, false, false, false, false, false, false, false] rfl rfl (any_of HT_.out (by kernel_rfl)) (fun _ _ _ h => h) (Or.inl ⟨by rfl, ?_⟩) ?_ ?_
 rotate_left
 ·intro w'
  go_simp
  with_reducible rfl
 rotate_left
 ·simp only [Act.put, List.setIfInBounds_toArray, List.set_cons_zero, List.set_cons_succ, i64_w, i32_w]
  rfl
 refine pure_ (i := 4) (N := some 55) (v := ?_) (a' := ?_) #[true, true, true, true, true, false, false, false, false, false, false, false, false, false, false, false, false, false, false, false, false, false, false, false, false, false, false, false, false, false, false, false, false, false, false, false, false, false, false, false, false, false, false, false, false, false, false, false, false, false, false, false, false, false, false, false, false, false, false, false, false, false, false, false, false, false, false, false, false, false, false, false, false, false, false] rfl rfl (any_of HT_.out (by kernel_rfl)) (fun _ _ _ h => h) (Or.inl ⟨by rfl, ?_⟩) ?_ ?_
 rotate_left
 ·intro w'
  go_simp
  with_reducible rfl
 rotate_left
 ·simp only [Act.put, List.setIfInBounds_toArray, List.set_cons_zero, List.set_cons_succ, i64_w, i32_w]
  rfl
 refine pure_ (i := 5) (N := some 56) (v := ?_) (a' := ?_) #[true, true, true, true, true, true, false, false, false, false, false, false, false, false, false, false, false, false, false, false, false, false, false, false, false, false, false, false, false, false, false, false, false, false, false, false, false, false, false, false, false, false, false, false, false, false, false, false, false, false, false, false, false, false, false, false, false, false, false, false, false, false, false, false, false, false, false, false, false, false, false, false, false, false, false] rfl rfl (any_of HT_.out (by kernel_rfl)) (fun _ _ _ h => h) (Or.inl ⟨by rfl, ?_⟩) ?_ ?_
 rotate_left
 ·intro w'
  go_simp
  with_reducible rfl
 rotate_left
 ·simp only [Act.put, List.setIfInBounds_toArray, List.set_cons_zero, List.set_cons_succ, i64_w, i32_w]
  rfl
 refine pure_ (i := 6) (N := some 57) (v := ?_) (a' := ?_) #[true, true, true, true, true, true, true, false, false, false, false, false, false, false, false, false, false, false, false, false, false, false, false, false, false, false, false, false, false, false, false, false, false, false, false, false, false, false, false, false, false, false, false, false, false, false, false, false, false, false, false, false, false, false, false, false, false, false, false, false, false, false, false, false, false, false, false, false, false, false, false, false, false, false, false] rfl rfl (any_of HT_.out (by kernel_rfl)) (fun _ _ _ h => h) (Or.inl ⟨by rfl, ?_⟩) ?_ ?_
 rotate_left
 ·intro w'
  go_simp
  with_reducible rfl
 rotate_left
 ·simp only [Act.put, List.setIfInBounds_toArray, List.set_cons_zero, List.set_cons_succ, i64_w, i32_w]
  rfl
 refine pure_ (i := 7) (N := some 58) (v := ?_) (a' := ?_) #[true, true, true, true, true, true, true, true, false, false, false, false, false, false, false, false, false, false, false, false, false, false, false, false, false, false, false, false, false, false, false, false, false, false, false, false, false, false, false, false, false, false, false, false, false, false, false, false, false, false, false, false, false, false, false, false, false, false, false, false, false, false, false, false, false, false, false, false, false, false, false, false, false, false, false] rfl rfl (any_of HT_.out (by kernel_rfl)) (fun _ _ _ h => h) (Or.inl ⟨by rfl, ?_⟩) ?_ ?_
 rotate_left
 ·intro w'
  go_simp
  with_reducible rfl
 rotate_left
 ·simp only [Act.put, List.setIfInBounds_toArray, List.set_cons_zero, List.set_cons_succ, i64_w, i32_w]
  rfl
 refine pure_ (i := 8) (N := some 59) (v := ?_) (a' := ?_) #[true, true, true, true, true, true, true, true, true, false, false, false, false, false, false, false, false, false, false, false, false, false, false, false, false, false, false, false, false, false, false, false, false, false, false, false, false, false, false, false, false, false, false, false, false, false, false, false, false, false, false, false, false, false, false, false, false, false, false, false, false, false, false, false, false, false, false, false, false, false, false, false, false, false, false] rfl rfl (any_of HT_.out (by kernel_rfl)) (fun _ _ _ h => h) (Or.inl ⟨by rfl, ?_⟩) ?_ ?_
 rotate_left
 ·intro w'
  go_simp
  with_reducible rfl
 rotate_left
 ·simp only [Act.put, List.setIfInBounds_toArray, List.set_cons_zero, List.set_cons_succ, i64_w, i32_w]
  rfl
 refine pure_ (i := 9) (N := some 60) (v := ?_) (a' := ?_) #[true, true, true, true, true, true, true, true, true, true, false, false, false, false, false, false, false, false, false, false, false, false, false, false, false, false, false, false, false, false, false, false, false, false, false, false, false, false, false, false, false, false, false, false, false, false, false, false, false, false, false, false, false, false, false, false, false, false, false, false, false, false, false, false, false, false, false, false, false, false, false, false, false, false, false] rfl rfl (any_of HT_.out (by kernel_rfl)) (fun _ _ _ h => h) (Or.inl ⟨by rfl, ?_⟩) ?_ ?_
 rotate_left
 ·intro w'
  go_simp
  with_reducible rfl
 rotate_left
 ·simp only [Act.put, List.setIfInBounds_toArray, List.set_cons_zero, List.set_cons_succ, i64_w, i32_w]
  rfl
 refine pure_ (i := 10) (N := some 61) (v := ?_) (a' := ?_) #[true, true, true, true, true, true, true, true, true, true, true, false, false, false, false, false, false, false, false, false, false, false, false, false, false, false, false, false, false, false, false, false, false, false, false, false, false, false, false, false, false, false, false, false, false, false, false, false, false, false, false, false, false, false, false, false, false, false, false, false, false, false, false, false, false, false, false, false, false, false, false, false, false, false, false] rfl rfl (any_of HT_.out (by kernel_rfl)) (fun _ _ _ h => h) (Or.inl ⟨by rfl, ?_⟩) ?_ ?_
 rotate_left
 ·intro w'
  go_simp
  with_reducible rfl
 rotate_left
 ·simp only [Act.put, List.setIfInBounds_toArray, List.set_cons_zero, List.set_cons_succ, i64_w, i32_w]
  rfl
 refine pure_ (i := 11) (N := some 62) (v := ?_) (a' := ?_) #[true, true, true, true, true, true, true, true, true, true, true, true, false, false, false, false, false, false, false, false, false, false, false, false, false, false, false, false, false, false, false, false, false, false, false, false, false, false, false, false, false, false, false, false, false, false, false, false, false, false, false, false, false, false, false, false, false, false, false, false, false, false, false, false, false, false, false, false, false, false, false, false, false, false, false] rfl rfl (any_of HT_.out (by kernel_rfl)) (fun _ _ _ h => h) (Or.inl ⟨by rfl, ?_⟩) ?_ ?_
 rotate_left
 ·intro w'
  go_simp
  with_reducible rfl
 rotate_left
 ·simp only [Act.put, List.setIfInBounds_toArray, List.set_cons_zero, List.set_cons_succ, i64_w, i32_w]
  rfl
 refine pure_ (i := 12) (N := some 63) (v := ?_) (a' := ?_) #[true, true, true, true, true, true, true, true, true, true, true, true, true, false, false, false, false, false, false, false, false, false, false, false, false, false, false, false, false, false, false, false, false, false, false, false, false, false, false, false, false, false, false, false, false, false, false, false, false, false, false, false, false, false, false, false, false, false, false, false, false, false, false, false, false, false, false, false, false, false, false, false, false, false, false] rfl rfl (any_of HT_.out (by kernel_rfl)) (fun _ _ _ h => h) (Or.inl ⟨by rfl, ?_⟩) ?_ ?_
 rotate_left
 ·intro w'
  go_simp
  with_reducible rfl
 rotate_left
 ·simp only [Act.put, List.setIfInBounds_toArray, List.set_cons_zero, List.set_cons_succ, i64_w, i32_w]
  rfl
 refine pure_ (i := 13) (N := some 64) (v := ?_) (a' := ?_) #[true, true, true, true, true, true, true, true, true, true, true, true, true, true, false, false, false, false, false, false, false, false, false, false, false, false, false, false, false, false, false, false, false, false, false, false, false, false, false, false, false, false, false, false, false, false, false, false, false, false, false, false, false, false, false, false, false, false, false, false, false, false, false, false, false, false, false, false, false, false, false, false, false, false, false] rfl rfl (any_of HT_.out (by kernel_rfl)) (fun _ _ _ h => h) (Or.inl ⟨by rfl, ?_⟩) ?_ ?_
 rotate_left
 ·intro w'
  go_simp
  with_reducible rfl
 rotate_left
 ·simp only [Act.put, List.setIfInBounds_toArray, List.set_cons_zero, List.set_cons_succ, i64_w, i32_w]
  rfl
 refine pure_ (i := 14) (N := some 65) (v := ?_) (a' := ?_) #[true, true, true, true, true, true, true, true, true, true, true, true, true, true, true, false, false, false, false, false, false, false, false, false, false, false, false, false, false, false, false, false, false, false, false, false, false, false, false, false, false, false, false, false, false, false, false, false, false, false, false, false, false, false, false, false, false, false, false, false, false, false, false, false, false, false, false, false, false, false, false, false, false, false, false] rfl rfl (any_of HT_.out (by kernel_rfl)) (fun _ _ _ h => h) (Or.inl ⟨by rfl, ?_⟩) ?_ ?_
 rotate_left
 ·intro w'
  go_simp
  with_reducible rfl
 rotate_left
 ·simp only [Act.put, List.setIfInBounds_toArray, List.set_cons_zero, List.set_cons_succ, i64_w, i32_w]
  rfl
 refine pure_ (i := 15) (N := some 66) (v := ?_) (a' := ?_) #[true, true, true, true, true, true, true, true, true, true, true, true, true, true, true, true, false, false, false, false, false, false, false, false, false, false, false, false, false, false, false, false, false, false, false, false, false, false, false, false, false, false, false, false, false, false, false, false, false, false, false, false, false, false, false, false, false, false, false, false, false, false, false, false, false, false, false, false, false, false, false, false, false, false, false] rfl rfl (any_of HT_.out (by kernel_rfl)) (fun _ _ _ h => h) (Or.inl ⟨by rfl, ?_⟩) ?_ ?_
 rotate_left
 ·intro w'
  go_simp
  with_reducible rfl
 rotate_left
 ·simp only [Act.put, List.setIfInBounds_toArray, List.set_cons_zero, List.set_cons_succ, i64_w, i32_w]
  rfl
 refine pure_ (i := 16) (N := some 67) (v := ?_) (a' := ?_) #[true, true, true, true, true, true, true, true, true, true, true, true, true, true, true, true, true, false, false, false, false, false, false, false, false, false, false, false, false, false, false, false, false, false, false, false, false, false, false, false, false, false, false, false, false, false, false, false, false, false, false, false, false, false, false, false, false, false, false, false, false, false, false, false, false, false, false, false, false, false, false, false, false, false, false] rfl rfl (any_of HT_.out (by kernel_rfl)) (fun _ _ _ h => h) (Or.inl ⟨by rfl, ?_⟩) ?_ ?_
 rotate_left
 ·intro w'
  go_simp
  with_reducible rfl
 rotate_left
 ·simp only [Act.put, List.setIfInBounds_toArray, List.set_cons_zero, List.set_cons_succ, i64_w, i32_w]
  rfl
 refine pure_ (i := 17) (N := some 68) (v := ?_) (a' := ?_) #[true, true, true, true, true, true, true, true, true, true, true, true, true, true, true, true, true, true, false, false, false, false, false, false, false, false, false, false, false, false, false, false, false, false, false, false, false, false, false, false, false, false, false, false, false, false, false, false, false, false, false, false, false, false, false, false, false, false, false, false, false, false, false, false, false, false, false, false, false, false, false, false, false, false, false] rfl rfl (any_of HT_.out (by kernel_rfl)) (fun _ _ _ h => h) (Or.inl ⟨by rfl, ?_⟩) ?_ ?_
 rotate_left
 ·intro w'
  go_simp
  with_reducible rfl
 rotate_left
 ·simp only [Act.put, List.setIfInBounds_toArray, List.set_cons_zero, List.set_cons_succ, i64_w, i32_w]
  rfl
 refine take_ (i := 18) (N := some 69) (v := ?_) (a' := ?_) #[true, true, true, true, true, true, true, true, true, true, true, true, true, true, true, true, true, true, true, false, false, false, false, false, false, false, false, false, false, false, false, false, false, false, false, false, false, false, false, false, false, false, false, false, false, false, false, false, false, false, false, false, false, false, false, false, false, false, false, false, false, false, false, false, false, false, false, false, false, false, false, false, false, false, false] rfl rfl (take_ofW HT_.out HW_.out (by kernel_rfl)) (fun _ _ _ h => h) (Or.inl ⟨by rfl, ?_⟩) hHeld ?_ ?_
 rotate_left
 ·rintro w' ⟨s0, s1, s2, s3⟩
  go_simp
  with_reducible rfl
 rotate_left
 ·simp only [Act.put, List.setIfInBounds_toArray, List.set_cons_zero, List.set_cons_succ, i64_w, i32_w]
  rfl
 refine one_ (i := 19) (N := some 70) #[true, true, true, true, true, true, true, true, true, true, true, true, true, true, true, true, true, true, true, true, false, false, false, false, false, false, false, false, false, false, false, false, false, false, false, false, false, false, false, false, false, false, false, false, false, false, false, false, false, false, false, false, false, false, false, false, false, false, false, false, false, false, false, false, false, false, false, false, false, false, false, false, false, false, false] rfl rfl (one_of HT_.out (by kernel_rfl)) (by decide) (fun K hK => ?_)
 refine goes_ Tryz.func74 (by kernel_rfl) rfl #[.int .i64 3, .int .i64 2] (by rfl) rfl rfl (by (try simp only [List.map_toArray, List.map_cons, List.map_nil]); first | done | rfl | (simp only [List.length_drop, List.length_take]; rfl)) ?_
 with_reducible refine (schismalaw06_number.calls k 3 2 t747 t748 _ ?gG A11.out).mono ?_
 (case gG => exact gw HG.out HB.out)
 rintro e w76 ⟨rfl, hb⟩
 have HS0_ := (hb.cell (World.block_lt_of_cell? _ _ (hHeld.1))).trans (hHeld.1)
 have HS1_ := (hb.cell (World.block_lt_of_cell? _ _ (hHeld.2.1))).trans (hHeld.2.1)
 have HS2_ := (hb.cell (World.block_lt_of_cell? _ _ (hHeld.2.2.1))).trans (hHeld.2.2.1)
 have HS3_ := (hb.cell (World.block_lt_of_cell? _ _ (hHeld.2.2.2))).trans (hHeld.2.2.2)
 refine ⟨_, rfl, ?_⟩
 have n0_ := Aside0.mk (Kd.N_below (nx HO695.out) hb)
 have n1_ := Aside0.mk (Kd.N_below (nx HO701.out) hb)
 have n2_ := Aside0.mk (Kd.N_below (nx HO710.out) hb)
 have n3_ := Aside0.mk (Kd.R_below (rx HO714.out) hb)
 have n4_ := Aside0.mk (Kd.N_below (nx HO720.out) hb)
 have n5_ := Aside0.mk (Kd.R_below (rx HO723.out) hb)
 have n6_ := Aside0.mk (Kd.R_below (rx HO728.out) hb)
 have n7_ := Aside0.mk (Kd.N_below (nx HO737.out) hb)
 have n8_ := Aside0.mk (Kd.R_below (rx HO740.out) hb)
 have n9_ := Aside0.mk (Kd.R_below (rx HO745.out) hb)
 have n10_ := Aside0.mk (Kd.V_below (by (with_reducible repeat (first | apply Kd.V_alloc | apply Kd.V_drewN | apply Kd.V_drew)); exact HL746_0.out) hb)
 have n11_ := Aside0.mk (Kd.C_below (by repeat (first | (with_reducible exact HR746_0.out) | (with_reducible refine Kd.C_alloc ?_ _) | (with_reducible refine Kd.C_drewN ?_ _) | (with_reducible refine Kd.C_drew ?_) | exact HR746_0.out)) hb)
 have n12_ := Aside0.mk (below_step (bl HB.out) hb)
 clear HO695
 clear HO701
 clear HO710
 clear HO714
 clear HO720
 clear HO723
 clear HO728
 clear HO737
 clear HO740
 clear HO745
 clear HL746_0
 clear HR746_0
 clear HB
 have HO695 := n0_
 have HO701 := n1_
 have HO710 := n2_
 have HO714 := n3_
 have HO720 := n4_
 have HO723 := n5_
 have HO728 := n6_
 have HO737 := n7_
 have HO740 := n8_
 have HO745 := n9_
 have HL746_0 := n10_
 have HR746_0 := n11_
 have HB := n12_
 clear n0_ n1_ n2_ n3_ n4_ n5_ n6_ n7_ n8_ n9_ n10_ n11_ n12_
 (try clear hb)
 (try clear hb2)
 (try clear hk)
 (try clear hi)
 refine hK.out _ _ ⟨HS0_, HS1_, HS2_, HS3_⟩ (fun hHeld => ?_)
 clear hK K
 refine norm_ (a' := ?_) ?_ ?_
 rotate_left
 ·show Act.put _ (some 70) _ = _
  simp only [Act.put, List.setIfInBounds_toArray, List.set_cons_zero, List.set_cons_succ, i64_w, i32_w]
  rfl
 refine one_ (i := 20) (N := some 71) #[true, true, true, true, true, true, true, true, true, true, true, true, true, true, true, true, true, true, true, true, true, false, false, false, false, false, false, false, false, false, false, false, false, false, false, false, false, false, false, false, false, false, false, false, false, false, false, false, false, false, false, false, false, false, false, false, false, false, false, false, false, false, false, false, false, false, false, false, false, false, false, false, false, false, false] rfl rfl (one_of HT_.out (by kernel_rfl)) (by decide) (fun K hK => ?_)
 refine goes_ Tryz.func74 (by kernel_rfl) rfl #[.int .i64 (-1), .int .i64 2] (by rfl) rfl rfl (by (try simp only [List.map_toArray, List.map_cons, List.map_nil]); first | done | rfl | (simp only [List.length_drop, List.length_take]; rfl)) ?_
 with_reducible refine (schismalaw06_number.calls k (-1) 2 t749 t750 _ ?gG A12.out).mono ?_
 (case gG => exact gw HG.out HB.out)
 rintro e w77 ⟨rfl, hb⟩
 have HS0_ := (hb.cell (World.block_lt_of_cell? _ _ (hHeld.1))).trans (hHeld.1)
 have HS1_ := (hb.cell (World.block_lt_of_cell? _ _ (hHeld.2.1))).trans (hHeld.2.1)
 have HS2_ := (hb.cell (World.block_lt_of_cell? _ _ (hHeld.2.2.1))).trans (hHeld.2.2.1)
 have HS3_ := (hb.cell (World.block_lt_of_cell? _ _ (hHeld.2.2.2))).trans (hHeld.2.2.2)
 refine ⟨_, rfl, ?_⟩
 have n0_ := Aside0.mk (Kd.N_below (nx HO695.out) hb)
 have n1_ := Aside0.mk (Kd.N_below (nx HO701.out) hb)
 have n2_ := Aside0.mk (Kd.N_below (nx HO710.out) hb)
 have n3_ := Aside0.mk (Kd.R_below (rx HO714.out) hb)
 have n4_ := Aside0.mk (Kd.N_below (nx HO720.out) hb)
 have n5_ := Aside0.mk (Kd.R_below (rx HO723.out) hb)
 have n6_ := Aside0.mk (Kd.R_below (rx HO728.out) hb)
 have n7_ := Aside0.mk (Kd.N_below (nx HO737.out) hb)
 have n8_ := Aside0.mk (Kd.R_below (rx HO740.out) hb)
 have n9_ := Aside0.mk (Kd.R_below (rx HO745.out) hb)
 have n10_ := Aside0.mk (Kd.V_below (by (with_reducible repeat (first | apply Kd.V_alloc | apply Kd.V_drewN | apply Kd.V_drew)); exact HL746_0.out) hb)
 have n11_ := Aside0.mk (Kd.C_below (by repeat (first | (with_reducible exact HR746_0.out) | (with_reducible refine Kd.C_alloc ?_ _) | (with_reducible refine Kd.C_drewN ?_ _) | (with_reducible refine Kd.C_drew ?_) | exact HR746_0.out)) hb)
 have n12_ := Aside0.mk (below_step (bl HB.out) hb)
 clear HO695
 clear HO701
 clear HO710
 clear HO714
 clear HO720
 clear HO723
 clear HO728
 clear HO737
 clear HO740
 clear HO745
 clear HL746_0
 clear HR746_0
 clear HB
 have HO695 := n0_
 have HO701 := n1_
 have HO710 := n2_
 have HO714 := n3_
 have HO720 := n4_
 have HO723 := n5_
 have HO728 := n6_
 have HO737 := n7_
 have HO740 := n8_
 have HO745 := n9_
 have HL746_0 := n10_
 have HR746_0 := n11_
 have HB := n12_
 clear n0_ n1_ n2_ n3_ n4_ n5_ n6_ n7_ n8_ n9_ n10_ n11_ n12_
 (try clear hb)
 (try clear hb2)
 (try clear hk)
 (try clear hi)
 refine hK.out _ _ ⟨HS0_, HS1_, HS2_, HS3_⟩ (fun hHeld => ?_)
 clear hK K
 refine norm_ (a' := ?_) ?_ ?_
 rotate_left
 ·show Act.put _ (some 71) _ = _
  simp only [Act.put, List.setIfInBounds_toArray, List.set_cons_zero, List.set_cons_succ, i64_w, i32_w]
  rfl
 refine one_ (i := 21) (N := some 72) #[true, true, true, true, true, true, true, true, true, true, true, true, true, true, true, true, true, true, true, true, true, true, false, false, false, false, false, false, false, false, false, false, false, false, false, false, false, false, false, false, false, false, false, false, false, false, false, false, false, false, false, false, false, false, false, false, false, false, false, false, false, false, false, false, false, false, false, false, false, false, false, false, false, false, false] rfl rfl (one_of HT_.out (by kernel_rfl)) (by decide) (fun K hK => ?_)
 refine Kd.R_lit_step k103 _ 103 ?hg (N := 72) ?hd (xs := ([(⟨t747, t748⟩ : S103), (⟨t749, t750⟩ : S103)] : List (S103))) (inner := [.string t747, .string t748, .string t749, .string t750]) (ok := fun _ => True) (okp := fun _ => True) ?hr ?hp (fun _ hk => hk) trivial (Below.refl _ _) (Nat.le_refl _) (by simp) ?_; (case hd => rfl); (case hg => rfl); (case hr => first | (go_simp; done) | (go_simp; rfl)); (case hp => exact (Reps.c2 (show Kd.M k103 _ _ _ (⟨t747, t748⟩ : S103) [.string t747, .string t748] from (k103_mkM _ _ _ (⟨t747, t748⟩ : S103) )) (Reps.c2 (show Kd.M k103 _ _ _ (⟨t749, t750⟩ : S103) [.string t749, .string t750] from (k103_mkM _ _ _ (⟨t749, t750⟩ : S103) )) (Reps.none _ _))))
 intro v752 w78 ho79 hb hg_ hnew_
 have HS0_ := (hb.cell (World.block_lt_of_cell? _ _ (hHeld.1))).trans (hHeld.1)
 have HS1_ := (hb.cell (World.block_lt_of_cell? _ _ (hHeld.2.1))).trans (hHeld.2.1)
 have HS2_ := (hb.cell (World.block_lt_of_cell? _ _ (hHeld.2.2.1))).trans (hHeld.2.2.1)
 have HS3_ := (hb.cell (World.block_lt_of_cell? _ _ (hHeld.2.2.2))).trans (hHeld.2.2.2)
 clear hg_ hnew_
 (first | rw [← Ny751.out] at ho79 | (simp only [Int.reduceToNat] at ho79; rw [← Ny751.out] at ho79))
 have n0_ := Aside0.mk (Kd.N_elder' (nx HO695.out) (Kd.R_base ho79) hb)
 have n1_ := Aside0.mk (Kd.N_elder' (nx HO701.out) (Kd.R_base ho79) hb)
 have n2_ := Aside0.mk (Kd.N_elder' (nx HO710.out) (Kd.R_base ho79) hb)
 have n3_ := Aside0.mk (Kd.R_below (rx HO714.out) hb)
 have n4_ := Aside0.mk (Kd.N_elder' (nx HO720.out) (Kd.R_base ho79) hb)
 have n5_ := Aside0.mk (Kd.R_below (rx HO723.out) hb)
 have n6_ := Aside0.mk (Kd.R_elder' (rx HO728.out) (Kd.R_base ho79) hb)
 have n7_ := Aside0.mk (Kd.N_elder' (nx HO737.out) (Kd.R_base ho79) hb)
 have n8_ := Aside0.mk (Kd.R_below (rx HO740.out) hb)
 have n9_ := Aside0.mk (Kd.R_elder' (rx HO745.out) (Kd.R_base ho79) hb)
 have n10_ := Aside0.mk (Kd.V_elder' (by (with_reducible repeat (first | apply Kd.V_alloc | apply Kd.V_drewN | apply Kd.V_drew)); exact HL746_0.out) (Kd.R_base ho79) hb)
 have n11_ := Aside0.mk (Kd.R_lower (Kd.R_new' (Kd.R_new' ho79 (Kd.R_lt (rx HO728.out))) (Kd.R_lt (rx HO745.out))) (below_size (bl HB.out)))
 have n12_ := Aside0.mk (Kd.C_below (by repeat (first | (with_reducible exact HR746_0.out) | (with_reducible refine Kd.C_alloc ?_ _) | (with_reducible refine Kd.C_drewN ?_ _) | (with_reducible refine Kd.C_drew ?_) | exact HR746_0.out)) hb)
 have n13_ := Aside0.mk (below_step (bl HB.out) hb)
 clear HO695
 clear HO701
 clear HO710
 clear HO714
 clear HO720
 clear HO723
 clear HO728
 clear HO737
 clear HO740
 clear HO745
 clear HL746_0
 clear HR746_0
 clear HB
 have HO695 := n0_
 have HO701 := n1_
 have HO710 := n2_
 have HO714 := n3_
 have HO720 := n4_
 have HO723 := n5_
 have HO728 := n6_
 have HO737 := n7_
 have HO740 := n8_
 have HO745 := n9_
 have HL746_0 := n10_
 have HO753 := n11_
 have HR746_0 := n12_
 have HB := n13_
 clear n0_ n1_ n2_ n3_ n4_ n5_ n6_ n7_ n8_ n9_ n10_ n11_ n12_ n13_
 clear hb ho79
 obtain ⟨Ao80, co80, eo80⟩ := Kd.R_slice HO753.out
 (first | subst eo80 | (injection eo80 with f1_ f2_ f3_; have f4_ := f1_.symm; have f5_ := f3_.symm; clear f1_ f2_ f3_; subst f4_; subst f5_))
 refine hK.out _ _ ⟨HS0_, HS1_, HS2_, HS3_⟩ (fun hHeld => ?_)
 clear hK K
 refine norm_ (a' := ?_) ?_ ?_
 rotate_left
 ·show Act.put _ (some 72) _ = _
  simp only [Act.put, List.setIfInBounds_toArray, List.set_cons_zero, List.set_cons_succ, i64_w, i32_w]
  rfl
 refine one_ (i := 22) (N := some 73) #[true, true, true, true, true, true, true, true, true, true, true, true, true, true, true, true, true, true, true, true, true, true, true, false, false, false, false, false, false, false, false, false, false, false, false, false, false, false, false, false, false, false, false, false, false, false, false, false, false, false, false, false, false, false, false, false, false, false, false, false, false, false, false, false, false, false, false, false, false, false, false, false, false, false, false] rfl rfl (one_of HT_.out (by kernel_rfl)) (by decide) (fun K hK => ?_)
 refine goes_ Tryz.func32 (by kernel_rfl) rfl #[.slice A746_0 (rd_L4 t698 1).length c746_0, .slice Ao80 y751.length co80] (by rfl) rfl rfl (by (try simp only [List.map_toArray, List.map_cons, List.map_nil]); first | done | rfl | (simp only [List.length_drop, List.length_take]; rfl)) ?_
 with_reducible refine (schismalaw06_same.calls k _ _ (rd_L4 t698 1) _ _ y751 true _ ?side1 ?side2 ?side3 ?side4 A13.out).mono ?_
 (case side1 => repeat (first | exact (by repeat (first | (with_reducible exact HR746_0.out) | (with_reducible refine Kd.C_alloc ?_ _) | (with_reducible refine Kd.C_drewN ?_ _) | (with_reducible refine Kd.C_drew ?_) | exact HR746_0.out)) | (with_reducible refine Kd.C_alloc ?_ _) | (with_reducible refine Kd.C_drewN ?_ _) | (with_reducible refine Kd.C_drew ?_)))
 (case side2 => exact HC746_0.out)
 (case side3 => exact cx (Kd.R_reads' HO753.out).2.2)
 (case side4 => exact (Kd.R_reads' HO753.out).2.1)
 rintro e w' ⟨rfl, ⟨nd, rfl⟩⟩
 refine ⟨_, rfl, ?_⟩
 obtain ⟨Ao81, co81, eo81⟩ := Kd.R_slice HO714.out
 (first | subst eo81 | (injection eo81 with f1_ f2_ f3_; have f4_ := f1_.symm; have f5_ := f3_.symm; clear f1_ f2_ f3_; subst f4_; subst f5_))
 refine hK.out _ _ ⟨hHeld.1, hHeld.2.1, hHeld.2.2.1, hHeld.2.2.2⟩ (fun hHeld => ?_)
 clear hK K
 refine norm_ (a' := ?_) ?_ ?_
 rotate_left
 ·show Act.put _ (some 73) _ = _
  simp only [Act.put, List.setIfInBounds_toArray, List.set_cons_zero, List.set_cons_succ, i64_w, i32_w]
  rfl
 refine pure_ (i := 23) (N := some 74) (v := ?_) (a' := ?_) #[true, true, true, true, true, true, true, true, true, true, true, true, true, true, true, true, true, true, true, true, true, true, true, true, false, false, false, false, false, false, false, false, false, false, false, false, false, false, false, false, false, false, false, false, false, false, false, false, false, false, false, false, false, false, false, false, false, false, false, false, false, false, false, false, false, false, false, false, false, false, false, false, false, false, false] rfl rfl (any_of HT_.out (by kernel_rfl)) (fun _ _ _ h => h) (Or.inl ⟨by rfl, ?_⟩) ?_ ?_
 rotate_left
 ·intro w'
  go_simp
  with_reducible rfl
 rotate_left
 ·simp only [Act.put, List.setIfInBounds_toArray, List.set_cons_zero, List.set_cons_succ, i64_w, i32_w]
  rfl
 refine pure_ (i := 24) (N := some 75) (v := ?_) (a' := ?_) #[true, true, true, true, true, true, true, true, true, true, true, true, true, true, true, true, true, true, true, true, true, true, true, true, true, false, false, false, false, false, false, false, false, false, false, false, false, false, false, false, false, false, false, false, false, false, false, false, false, false, false, false, false, false, false, false, false, false, false, false, false, false, false, false, false, false, false, false, false, false, false, false, false, false, false] rfl rfl (any_of HT_.out (by kernel_rfl)) (fun _ _ _ h => h) (Or.inl ⟨by rfl, ?_⟩) ?_ ?_
 rotate_left
 ·intro w'
  go_simp
  with_reducible rfl
 rotate_left
 ·simp only [Act.put, List.setIfInBounds_toArray, List.set_cons_zero, List.set_cons_succ, i64_w, i32_w]
  rfl
 refine pure_ (i := 25) (N := some 76) (v := ?_) (a' := ?_) #[true, true, true, true, true, true, true, true, true, true, true, true, true, true, true, true, true, true, true, true, true, true, true, true, true, true, false, false, false, false, false, false, false, false, false, false, false, false, false, false, false, false, false, false, false, false, false, false, false, false, false, false, false, false, false, false, false, false, false, false, false, false, false, false, false, false, false, false, false, false, false, false, false, false, false] rfl rfl (any_of HT_.out (by kernel_rfl)) (fun _ _ _ h => h) (Or.inl ⟨by rfl, ?_⟩) ?_ ?_
 rotate_left
 ·intro w'
  go_simp
  with_reducible rfl
 rotate_left
 ·simp only [Act.put, List.setIfInBounds_toArray, List.set_cons_zero, List.set_cons_succ, i64_w, i32_w]
  rfl
 refine pure_ (i := 26) (N := some 77) (v := ?_) (a' := ?_) #[true, true, true, true, true, true, true, true, true, true, true, true, true, true, true, true, true, true, true, true, true, true, true, true, true, true, true, false, false, false, false, false, false, false, false, false, false, false, false, false, false, false, false, false, false, false, false, false, false, false, false, false, false, false, false, false, false, false, false, false, false, false, false, false, false, false, false, false, false, false, false, false, false, false, false] rfl rfl (any_of HT_.out (by kernel_rfl)) (fun _ _ _ h => h) (Or.inl ⟨by rfl, ?_⟩) ?_ ?_
 rotate_left
 ·intro w'
  go_simp
  with_reducible rfl
 rotate_left
 ·simp only [Act.put, List.setIfInBounds_toArray, List.set_cons_zero, List.set_cons_succ, i64_w, i32_w]
  rfl
 refine pure_ (i := 27) (N := some 78) (v := ?_) (a' := ?_) #[true, true, true, true, true, true, true, true, true, true, true, true, true, true, true, true, true, true, true, true, true, true, true, true, true, true, true, true, false, false, false, false, false, false, false, false, false, false, false, false, false, false, false, false, false, false, false, false, false, false, false, false, false, false, false, false, false, false, false, false, false, false, false, false, false, false, false, false, false, false, false, false, false, false, false] rfl rfl (any_of HT_.out (by kernel_rfl)) (fun _ _ _ h => h) (Or.inl ⟨by rfl, ?_⟩) ?_ ?_
 rotate_left
 ·intro w'
  go_simp
  with_reducible rfl
 rotate_left
 ·simp only [Act.put, List.setIfInBounds_toArray, List.set_cons_zero, List.set_cons_succ, i64_w, i32_w]
  rfl
 refine pure_ (i := 28) (N := some 79) (v := ?_) (a' := ?_) #[true, true, true, true, true, true, true, true, true, true, true, true, true, true, true, true, true, true, true, true, true, true, true, true, true, true, true, true, true, false, false, false, false, false, false, false, false, false, false, false, false, false, false, false, false, false, false, false, false, false, false, false, false, false, false, false, false, false, false, false, false, false, false, false, false, false, false, false, false, false, false, false, false, false, false] rfl rfl (any_of HT_.out (by kernel_rfl)) (fun _ _ _ h => h) (Or.inl ⟨by rfl, ?_⟩) ?_ ?_
 rotate_left
 ·intro w'
  go_simp
  with_reducible rfl
 rotate_left
 ·simp only [Act.put, List.setIfInBounds_toArray, List.set_cons_zero, List.set_cons_succ, i64_w, i32_w]
  rfl
 refine pure_ (i := 29) (N := some 80) (v := ?_) (a' := ?_) #[true, true, true, true, true, true, true, true, true, true, true, true, true, true, true, true, true, true, true, true, true, true, true, true, true, true, true, true, true, true, false, false, false, false, false, false, false, false, false, false, false, false, false, false, false, false, false, false, false, false, false, false, false, false, false, false, false, false, false, false, false, false, false, false, false, false, false, false, false, false, false, false, false, false, false] rfl rfl (any_of HT_.out (by kernel_rfl)) (fun _ _ _ h => h) (Or.inl ⟨by rfl, ?_⟩) ?_ ?_
 rotate_left
 ·intro w'
  go_simp
  with_reducible rfl
 rotate_left
 ·simp only [Act.put, List.setIfInBounds_toArray, List.set_cons_zero, List.set_cons_succ, i64_w, i32_w]
  rfl
 refine pure_ (i := 30) (N := some 81) (v := ?_) (a' := ?_) #[true, true, true, true, true, true, true, true, true, true, true, true, true, true, true, true, true, true, true, true, true, true, true, true, true, true, true, true, true, true, true, false, false, false, false, false, false, false, false, false, false, false, false, false, false, false, false, false, false, false, false, false, false, false, false, false, false, false, false, false, false, false, false, false, false, false, false, false, false, false, false, false, false, false, false] rfl rfl (any_of HT_.out (by kernel_rfl)) (fun _ _ _ h => h) (Or.inl ⟨by rfl, ?_⟩) ?_ ?_
 rotate_left
 ·intro w'
  go_simp
  with_reducible rfl
 rotate_left
 ·simp only [Act.put, List.setIfInBounds_toArray, List.set_cons_zero, List.set_cons_succ, i64_w, i32_w]
  rfl
 refine pure_ (i := 31) (N := some 82) (v := ?_) (a' := ?_) #[true, true, true, true, true, true, true, true, true, true, true, true, true, true, true, true, true, true, true, true, true, true, true, true, true, true, true, true, true, true, true, true, false, false, false, false, false, false, false, false, false, false, false, false, false, false, false, false, false, false, false, false, false, false, false, false, false, false, false, false, false, false, false, false, false, false, false, false, false, false, false, false, false, false, false] rfl rfl (any_of HT_.out (by kernel_rfl)) (fun _ _ _ h => h) (Or.inl ⟨by rfl, ?_⟩) ?_ ?_
 rotate_left
 ·intro w'
  go_simp
  with_reducible rfl
 rotate_left
 ·simp only [Act.put, List.setIfInBounds_toArray, List.set_cons_zero, List.set_cons_succ, i64_w, i32_w]
  rfl
 refine pure_ (i := 32) (N := some 83) (v := ?_) (a' := ?_) #[true, true, true, true, true, true, true, true, true, true, true, true, true, true, true, true, true, true, true, true, true, true, true, true, true, true, true, true, true, true, true, true, true, false, false, false, false, false, false, false, false, false, false, false, false, false, false, false, false, false, false, false, false, false, false, false, false, false, false, false, false, false, false, false, false, false, false, false, false, false, false, false, false, false, false] rfl rfl (any_of HT_.out (by kernel_rfl)) (fun _ _ _ h => h) (Or.inl ⟨by rfl, ?_⟩) ?_ ?_
 rotate_left
 ·intro w'
  go_simp
  with_reducible rfl
 rotate_left
 ·simp only [Act.put, List.setIfInBounds_toArray, List.set_cons_zero, List.set_cons_succ, i64_w, i32_w]
  rfl
 refine pure_ (i := 33) (N := some 84) (v := ?_) (a' := ?_) #[true, true, true, true, true, true, true, true, true, true, true, true, true, true, true, true, true, true, true, true, true, true, true, true, true, true, true, true, true, true, true, true, true, true, false, false, false, false, false, false, false, false, false, false, false, false, false, false, false, false, false, false, false, false, false, false, false, false, false, false, false, false, false, false, false, false, false, false, false, false, false, false, false, false, false] rfl rfl (any_of HT_.out (by kernel_rfl)) (fun _ _ _ h => h) (Or.inl ⟨by rfl, ?_⟩) ?_ ?_
 rotate_left
 ·intro w'
  go_simp
  with_reducible rfl
 rotate_left
 ·simp only [Act.put, List.setIfInBounds_toArray, List.set_cons_zero, List.set_cons_succ, i64_w, i32_w]
  rfl
 refine pure_ (i := 34) (N := some 85) (v := ?_) (a' := ?_) #[true, true, true, true, true, true, true, true, true, true, true, true, true, true, true, true, true, true, true, true, true, true, true, true, true, true, true, true, true, true, true, true, true, true, true, false, false, false, false, false, false, false, false, false, false, false, false, false, false, false, false, false, false, false, false, false, false, false, false, false, false, false, false, false, false, false, false, false, false, false, false, false, false, false, false] rfl rfl (any_of HT_.out (by kernel_rfl)) (fun _ _ _ h => h) (Or.inl ⟨by rfl, ?_⟩) ?_ ?_
 rotate_left
 ·intro w'
  go_simp
  with_reducible rfl
 rotate_left
 ·simp only [Act.put, List.setIfInBounds_toArray, List.set_cons_zero, List.set_cons_succ, i64_w, i32_w]
  rfl
 refine pure_ (i := 35) (N := some 86) (v := ?_) (a' := ?_) #[true, true, true, true, true, true, true, true, true, true, true, true, true, true, true, true, true, true, true, true, true, true, true, true, true, true, true, true, true, true, true, true, true, true, true, true, false, false, false, false, false, false, false, false, false, false, false, false, false, false, false, false, false, false, false, false, false, false, false, false, false, false, false, false, false, false, false, false, false, false, false, false, false, false, false] rfl rfl (any_of HT_.out (by kernel_rfl)) (fun _ _ _ h => h) (Or.inl ⟨by rfl, ?_⟩) ?_ ?_
 rotate_left
 ·intro w'
  go_simp
  with_reducible rfl
 rotate_left
 ·simp only [Act.put, List.setIfInBounds_toArray, List.set_cons_zero, List.set_cons_succ, i64_w, i32_w]
  rfl
 refine take_ (i := 36) (N := some 87) (v := ?_) (a' := ?_) #[true, true, true, true, true, true, true, true, true, true, true, true, true, true, true, true, true, true, true, true, true, true, true, true, true, true, true, true, true, true, true, true, true, true, true, true, true, false, false, false, false, false, false, false, false, false, false, false, false, false, false, false, false, false, false, false, false, false, false, false, false, false, false, false, false, false, false, false, false, false, false, false, false, false, false] rfl rfl (take_ofW HT_.out HW_.out (by kernel_rfl)) (fun _ _ _ h => h) (Or.inl ⟨by rfl, ?_⟩) hHeld ?_ ?_
 rotate_left
 ·rintro w' ⟨s0, s1, s2, s3⟩
  go_simp
  with_reducible rfl
 rotate_left
 ·simp only [Act.put, List.setIfInBounds_toArray, List.set_cons_zero, List.set_cons_succ, i64_w, i32_w]
  rfl
 refine pure_ (i := 37) (N := some 88) (v := ?_) (a' := ?_) #[true, true, true, true, true, true, true, true, true, true, true, true, true, true, true, true, true, true, true, true, true, true, true, true, true, true, true, true, true, true, true, true, true, true, true, true, true, true, false, false, false, false, false, false, false, false, false, false, false, false, false, false, false, false, false, false, false, false, false, false, false, false, false, false, false, false, false, false, false, false, false, false, false, false, false] rfl rfl (any_of HT_.out (by kernel_rfl)) (fun _ _ _ h => h) (Or.inl ⟨by rfl, ?_⟩) ?_ ?_
 rotate_left
 ·intro w'
  go_simp
  with_reducible rfl
 rotate_left
 ·simp only [Act.put, List.setIfInBounds_toArray, List.set_cons_zero, List.set_cons_succ, i64_w, i32_w]
  rfl
 refine pure_ (i := 38) (N := some 89) (v := ?_) (a' := ?_) #[true, true, true, true, true, true, true, true, true, true, true, true, true, true, true, true, true, true, true, true, true, true, true, true, true, true, true, true, true, true, true, true, true, true, true, true, true, true, true, false, false, false, false, false, false, false, false, false, false, false, false, false, false, false, false, false, false, false, false, false, false, false, false, false, false, false, false, false, false, false, false, false, false, false, false] rfl rfl (any_of HT_.out (by kernel_rfl)) (fun _ _ _ h => h) (Or.inl ⟨by rfl, ?_⟩) ?_ ?_
 rotate_left
 ·intro w'
  go_simp
  with_reducible rfl
 rotate_left
 ·simp only [Act.put, List.setIfInBounds_toArray, List.set_cons_zero, List.set_cons_succ, i64_w, i32_w]
  rfl
 refine pure_ (i := 39) (N := some 90) (v := ?_) (a' := ?_) #[true, true, true, true, true, true, true, true, true, true, true, true, true, true, true, true, true, true, true, true, true, true, true, true, true, true, true, true, true, true, true, true, true, true, true, true, true, true, true, true, false, false, false, false, false, false, false, false, false, false, false, false, false, false, false, false, false, false, false, false, false, false, false, false, false, false, false, false, false, false, false, false, false, false, false] rfl rfl (any_of HT_.out (by kernel_rfl)) (fun _ _ _ h => h) (Or.inl ⟨by rfl, ?_⟩) ?_ ?_
 rotate_left
 ·intro w'
  go_simp
  with_reducible rfl
 rotate_left
 ·simp only [Act.put, List.setIfInBounds_toArray, List.set_cons_zero, List.set_cons_succ, i64_w, i32_w]
  rfl
 refine pure_ (i := 40) (N := some 91) (v := ?_) (a' := ?_) #[true, true, true, true, true, true, true, true, true, true, true, true, true, true, true, true, true, true, true, true, true, true, true, true, true, true, true, true, true, true, true, true, true, true, true, true, true, true, true, true, true, false, false, false, false, false, false, false, false, false, false, false, false, false, false, false, false, false, false, false, false, false, false, false, false, false, false, false, false, false, false, false, false, false, false] rfl rfl (any_of HT_.out (by kernel_rfl)) (fun _ _ _ h => h) (Or.inl ⟨by rfl, ?_⟩) ?_ ?_
 rotate_left
 ·intro w'
  go_simp
  with_reducible rfl
 rotate_left
 ·simp only [Act.put, List.setIfInBounds_toArray, List.set_cons_zero, List.set_cons_succ, i64_w, i32_w]
  rfl
 refine pure_ (i := 41) (N := some 92) (v := ?_) (a' := ?_) #[true, true, true, true, true, true, true, true, true, true, true, true, true, true, true, true, true, true, true, true, true, true, true, true, true, true, true, true, true, true, true, true, true, true, true, true, true, true, true, true, true, true, false, false, false, false, false, false, false, false, false, false, false, false, false, false, false, false, false, false, false, false, false, false, false, false, false, false, false, false, false, false, false, false, false] rfl rfl (any_of HT_.out (by kernel_rfl)) (fun _ _ _ h => h) (Or.inl ⟨by rfl, ?_⟩) ?_ ?_
 rotate_left
 ·intro w'
  go_simp
  with_reducible rfl
 rotate_left
 ·simp only [Act.put, List.setIfInBounds_toArray, List.set_cons_zero, List.set_cons_succ, i64_w, i32_w]
  rfl
 refine take_ (i := 42) (N := some 93) (v := ?_) (a' := ?_) #[true, true, true, true, true, true, true, true, true, true, true, true, true, true, true, true, true, true, true, true, true, true, true, true, true, true, true, true, true, true, true, true, true, true, true, true, true, true, true, true, true, true, true, false, false, false, false, false, false, false, false, false, false, false, false, false, false, false, false, false, false, false, false, false, false, false, false, false, false, false, false, false, false, false, false] rfl rfl (take_ofW HT_.out HW_.out (by kernel_rfl)) (fun _ _ _ h => h) (Or.inl ⟨by rfl, ?_⟩) hHeld ?_ ?_
 rotate_left
 ·rintro w' ⟨s0, s1, s2, s3⟩
  go_simp
  with_reducible rfl
 rotate_left
 ·simp only [Act.put, List.setIfInBounds_toArray, List.set_cons_zero, List.set_cons_succ, i64_w, i32_w]
  rfl
 refine pure_ (i := 43) (N := some 94) (v := ?_) (a' := ?_) #[true, true, true, true, true, true, true, true, true, true, true, true, true, true, true, true, true, true, true, true, true, true, true, true, true, true, true, true, true, true, true, true, true, true, true, true, true, true, true, true, true, true, true, true, false, false, false, false, false, false, false, false, false, false, false, false, false, false, false, false, false, false, false, false, false, false, false, false, false, false, false, false, false, false, false] rfl rfl (any_of HT_.out (by kernel_rfl)) (fun _ _ _ h => h) (Or.inl ⟨by rfl, ?_⟩) ?_ ?_
 rotate_left
 ·intro w'
  go_simp
  with_reducible rfl
 rotate_left
 ·simp only [Act.put, List.setIfInBounds_toArray, List.set_cons_zero, List.set_cons_succ, i64_w, i32_w]
  rfl
 refine pure_ (i := 44) (N := some 95) (v := ?_) (a' := ?_) #[true, true, true, true, true, true, true, true, true, true, true, true, true, true, true, true, true, true, true, true, true, true, true, true, true, true, true, true, true, true, true, true, true, true, true, true, true, true, true, true, true, true, true, true, true, false, false, false, false, false, false, false, false, false, false, false, false, false, false, false, false, false, false, false, false, false, false, false, false, false, false, false, false, false, false] rfl rfl (any_of HT_.out (by kernel_rfl)) (fun _ _ _ h => h) (Or.inl ⟨by rfl, ?_⟩) ?_ ?_
 rotate_left
 ·intro w'
  go_simp
  with_reducible rfl
 rotate_left
 ·simp only [Act.put, List.setIfInBounds_toArray, List.set_cons_zero, List.set_cons_succ, i64_w, i32_w]
  rfl
 refine pure_ (i := 45) (N := some 96) (v := ?_) (a' := ?_) #[true, true, true, true, true, true, true, true, true, true, true, true, true, true, true, true, true, true, true, true, true, true, true, true, true, true, true, true, true, true, true, true, true, true, true, true, true, true, true, true, true, true, true, true, true, true, false, false, false, false, false, false, false, false, false, false, false, false, false, false, false, false, false, false, false, false, false, false, false, false, false, false, false, false, false] rfl rfl (any_of HT_.out (by kernel_rfl)) (fun _ _ _ h => h) (Or.inl ⟨by rfl, ?_⟩) ?_ ?_
 rotate_left
 ·intro w'
  go_simp
  with_reducible rfl
 rotate_left
 ·simp only [Act.put, List.setIfInBounds_toArray, List.set_cons_zero, List.set_cons_succ, i64_w, i32_w]
  rfl
 refine pure_ (i := 46) (N := some 97) (v := ?_) (a' := ?_) #[true, true, true, true, true, true, true, true, true, true, true, true, true, true, true, true, true, true, true, true, true, true, true, true, true, true, true, true, true, true, true, true, true, true, true, true, true, true, true, true, true, true, true, true, true, true, true, false, false, false, false, false, false, false, false, false, false, false, false, false, false, false, false, false, false, false, false, false, false, false, false, false, false, false, false] rfl rfl (any_of HT_.out (by kernel_rfl)) (fun _ _ _ h => h) (Or.inl ⟨by rfl, ?_⟩) ?_ ?_
 rotate_left
 ·intro w'
  go_simp
  with_reducible rfl
 rotate_left
 ·simp only [Act.put, List.setIfInBounds_toArray, List.set_cons_zero, List.set_cons_succ, i64_w, i32_w]
  rfl
 refine pure_ (i := 47) (N := some 98) (v := ?_) (a' := ?_) #[true, true, true, true, true, true, true, true, true, true, true, true, true, true, true, true, true, true, true, true, true, true, true, true, true, true, true, true, true, true, true, true, true, true, true, true, true, true, true, true, true, true, true, true, true, true, true, true, false, false, false, false, false, false, false, false, false, false, false, false, false, false, false, false, false, false, false, false, false, false, false, false, false, false, false] rfl rfl (any_of HT_.out (by kernel_rfl)) (fun _ _ _ h => h) (Or.inl ⟨by rfl, ?_⟩) ?_ ?_
 rotate_left
 ·intro w'
  go_simp
  with_reducible rfl
 rotate_left
 ·simp only [Act.put, List.setIfInBounds_toArray, List.set_cons_zero, List.set_cons_succ, i64_w, i32_w]
  rfl
 refine take_ (i := 48) (N := some 99) (v := ?_) (a' := ?_) #[true, true, true, true, true, true, true, true, true, true, true, true, true, true, true, true, true, true, true, true, true, true, true, true, true, true, true, true, true, true, true, true, true, true, true, true, true, true, true, true, true, true, true, true, true, true, true, true, true, false, false, false, false, false, false, false, false, false, false, false, false, false, false, false, false, false, false, false, false, false, false, false, false, false, false] rfl rfl (take_ofW HT_.out HW_.out (by kernel_rfl)) (fun _ _ _ h => h) (Or.inl ⟨by rfl, ?_⟩) hHeld ?_ ?_
 rotate_left
 ·rintro w' ⟨s0, s1, s2, s3⟩
  go_simp
  with_reducible rfl
 rotate_left
 ·simp only [Act.put, List.setIfInBounds_toArray, List.set_cons_zero, List.set_cons_succ, i64_w, i32_w]
  rfl
 refine pure_ (i := 49) (N := some 100) (v := ?_) (a' := ?_) #[true, true, true, true, true, true, true, true, true, true, true, true, true, true, true, true, true, true, true, true, true, true, true, true, true, true, true, true, true, true, true, true, true, true, true, true, true, true, true, true, true, true, true, true, true, true, true, true, true, true, false, false, false, false, false, false, false, false, false, false, false, false, false, false, false, false, false, false, false, false, false, false, false, false, false] rfl rfl (any_of HT_.out (by kernel_rfl)) (fun _ _ _ h => h) (Or.inl ⟨by rfl, ?_⟩) ?_ ?_
 rotate_left
 ·intro w'
  go_simp
  with_reducible rfl
 rotate_left
 ·simp only [Act.put, List.setIfInBounds_toArray, List.set_cons_zero, List.set_cons_succ, i64_w, i32_w]
  rfl
 refine pure_ (i := 50) (N := some 101) (v := ?_) (a' := ?_) #[true, true, true, true, true, true, true, true, true, true, true, true, true, true, true, true, true, true, true, true, true, true, true, true, true, true, true, true, true, true, true, true, true, true, true, true, true, true, true, true, true, true, true, true, true, true, true, true, true, true, true, false, false, false, false, false, false, false, false, false, false, false, false, false, false, false, false, false, false, false, false, false, false, false, false] rfl rfl (any_of HT_.out (by kernel_rfl)) (fun _ _ _ h => h) (Or.inl ⟨by rfl, ?_⟩) ?_ ?_
 rotate_left
 ·intro w'
  go_simp
  with_reducible rfl
 rotate_left
 ·simp only [Act.put, List.setIfInBounds_toArray, List.set_cons_zero, List.set_cons_succ, i64_w, i32_w]
  rfl
 refine pure_ (i := 51) (N := some 102) (v := ?_) (a' := ?_) #[true, true, true, true, true, true, true, true, true, true, true, true, true, true, true, true, true, true, true, true, true, true, true, true, true, true, true, true, true, true, true, true, true, true, true, true, true, true, true, true, true, true, true, true, true, true, true, true, true, true, true, true, false, false, false, false, false, false, false, false, false, false, false, false, false, false, false, false, false, false, false, false, false, false, false] rfl rfl (any_of HT_.out (by kernel_rfl)) (fun _ _ _ h => h) (Or.inl ⟨by rfl, ?_⟩) ?_ ?_
 rotate_left
 ·intro w'
  go_simp
  with_reducible rfl
 rotate_left
 ·simp only [Act.put, List.setIfInBounds_toArray, List.set_cons_zero, List.set_cons_succ, i64_w, i32_w]
  rfl
 refine pure_ (i := 52) (N := some 103) (v := ?_) (a' := ?_) #[true, true, true, true, true, true, true, true, true, true, true, true, true, true, true, true, true, true, true, true, true, true, true, true, true, true, true, true, true, true, true, true, true, true, true, true, true, true, true, true, true, true, true, true, true, true, true, true, true, true, true, true, true, false, false, false, false, false, false, false, false, false, false, false, false, false, false, false, false, false, false, false, false, false, false] rfl rfl (any_of HT_.out (by kernel_rfl)) (fun _ _ _ h => h) (Or.inl ⟨by rfl, ?_⟩) ?_ ?_
 rotate_left
 ·intro w'
  go_simp
  with_reducible rfl
 rotate_left
 ·simp only [Act.put, List.setIfInBounds_toArray, List.set_cons_zero, List.set_cons_succ, i64_w, i32_w]
  rfl
 refine pure_ (i := 53) (N := some 104) (v := ?_) (a' := ?_) #[true, true, true, true, true, true, true, true, true, true, true, true, true, true, true, true, true, true, true, true, true, true, true, true, true, true, true, true, true, true, true, true, true, true, true, true, true, true, true, true, true, true, true, true, true, true, true, true, true, true, true, true, true, true, false, false, false, false, false, false, false, false, false, false, false, false, false, false, false, false, false, false, false, false, false] rfl rfl (any_of HT_.out (by kernel_rfl)) (fun _ _ _ h => h) (Or.inl ⟨by rfl, ?_⟩) ?_ ?_
 rotate_left
 ·intro w'
  go_simp
  with_reducible rfl
 rotate_left
 ·simp only [Act.put, List.setIfInBounds_toArray, List.set_cons_zero, List.set_cons_succ, i64_w, i32_w]
  rfl
 refine pure_ (i := 54) (N := some 105) (v := ?_) (a' := ?_) #[true, true, true, true, true, true, true, true, true, true, true, true, true, true, true, true, true, true, true, true, true, true, true, true, true, true, true, true, true, true, true, true, true, true, true, true, true, true, true, true, true, true, true, true, true, true, true, true, true, true, true, true, true, true, true, false, false, false, false, false, false, false, false, false, false, false, false, false, false, false, false, false, false, false, false] rfl rfl (any_of HT_.out (by kernel_rfl)) (fun _ _ _ h => h) (Or.inl ⟨by rfl, ?_⟩) ?_ ?_
 rotate_left
 ·intro w'
  go_simp
  with_reducible rfl
 rotate_left
 ·simp only [Act.put, List.setIfInBounds_toArray, List.set_cons_zero, List.set_cons_succ, i64_w, i32_w]
  rfl
 refine pure_ (i := 55) (N := some 106) (v := ?_) (a' := ?_) #[true, true, true, true, true, true, true, true, true, true, true, true, true, true, true, true, true, true, true, true, true, true, true, true, true, true, true, true, true, true, true, true, true, true, true, true, true, true, true, true, true, true, true, true, true, true, true, true, true, true, true, true, true, true, true, true, false, false, false, false, false, false, false, false, false, false, false, false, false, false, false, false, false, false, false] rfl rfl (any_of HT_.out (by kernel_rfl)) (fun _ _ _ h => h) (Or.inl ⟨by rfl, ?_⟩) ?_ ?_
 rotate_left
 ·intro w'
  go_simp
  with_reducible rfl
 rotate_left
 ·simp only [Act.put, List.setIfInBounds_toArray, List.set_cons_zero, List.set_cons_succ, i64_w, i32_w]
  rfl
 refine pure_ (i := 56) (N := some 107) (v := ?_) (a' := ?_) #[true, true, true, true, true, true, true, true, true, true, true, true, true, true, true, true, true, true, true, true, true, true, true, true, true, true, true, true, true, true, true, true, true, true, true, true, true, true, true, true, true, true, true, true, true, true, true, true, true, true, true, true, true, true, true, true, true, false, false, false, false, false, false, false, false, false, false, false, false, false, false, false, false, false, false] rfl rfl (any_of HT_.out (by kernel_rfl)) (fun _ _ _ h => h) (Or.inl ⟨by rfl, ?_⟩) ?_ ?_
 rotate_left
 ·intro w'
  go_simp
  with_reducible rfl
 rotate_left
 ·simp only [Act.put, List.setIfInBounds_toArray, List.set_cons_zero, List.set_cons_succ, i64_w, i32_w]
  rfl
 refine pure_ (i := 57) (N := some 108) (v := ?_) (a' := ?_) #[true, true, true, true, true, true, true, true, true, true, true, true, true, true, true, true, true, true, true, true, true, true, true, true, true, true, true, true, true, true, true, true, true, true, true, true, true, true, true, true, true, true, true, true, true, true, true, true, true, true, true, true, true, true, true, true, true, true, false, false, false, false, false, false, false, false, false, false, false, false, false, false, false, false, false] rfl rfl (any_of HT_.out (by kernel_rfl)) (fun _ _ _ h => h) (Or.inl ⟨by rfl, ?_⟩) ?_ ?_
 rotate_left
 ·intro w'
  go_simp
  with_reducible rfl
 rotate_left
 ·simp only [Act.put, List.setIfInBounds_toArray, List.set_cons_zero, List.set_cons_succ, i64_w, i32_w]
  rfl
 refine pure_ (i := 58) (N := some 109) (v := ?_) (a' := ?_) #[true, true, true, true, true, true, true, true, true, true, true, true, true, true, true, true, true, true, true, true, true, true, true, true, true, true, true, true, true, true, true, true, true, true, true, true, true, true, true, true, true, true, true, true, true, true, true, true, true, true, true, true, true, true, true, true, true, true, true, false, false, false, false, false, false, false, false, false, false, false, false, false, false, false, false] rfl rfl (any_of HT_.out (by kernel_rfl)) (fun _ _ _ h => h) (Or.inl ⟨by rfl, ?_⟩) ?_ ?_
 rotate_left
 ·intro w'
  go_simp
  with_reducible rfl
 rotate_left
 ·simp only [Act.put, List.setIfInBounds_toArray, List.set_cons_zero, List.set_cons_succ, i64_w, i32_w]
  rfl
 refine pure_ (i := 59) (N := some 110) (v := ?_) (a' := ?_) #[true, true, true, true, true, true, true, true, true, true, true, true, true, true, true, true, true, true, true, true, true, true, true, true, true, true, true, true, true, true, true, true, true, true, true, true, true, true, true, true, true, true, true, true, true, true, true, true, true, true, true, true, true, true, true, true, true, true, true, true, false, false, false, false, false, false, false, false, false, false, false, false, false, false, false] rfl rfl (any_of HT_.out (by kernel_rfl)) (fun _ _ _ h => h) (Or.inl ⟨by rfl, ?_⟩) ?_ ?_
 rotate_left
 ·intro w'
  go_simp
  with_reducible rfl
 rotate_left
 ·simp only [Act.put, List.setIfInBounds_toArray, List.set_cons_zero, List.set_cons_succ, i64_w, i32_w]
  rfl
 refine pure_ (i := 60) (N := some 111) (v := ?_) (a' := ?_) #[true, true, true, true, true, true, true, true, true, true, true, true, true, true, true, true, true, true, true, true, true, true, true, true, true, true, true, true, true, true, true, true, true, true, true, true, true, true, true, true, true, true, true, true, true, true, true, true, true, true, true, true, true, true, true, true, true, true, true, true, true, false, false, false, false, false, false, false, false, false, false, false, false, false, false] rfl rfl (any_of HT_.out (by kernel_rfl)) (fun _ _ _ h => h) (Or.inl ⟨by rfl, ?_⟩) ?_ ?_
 rotate_left
 ·intro w'
  go_simp
  with_reducible rfl
 rotate_left
 ·simp only [Act.put, List.setIfInBounds_toArray, List.set_cons_zero, List.set_cons_succ, i64_w, i32_w]
  rfl
 refine one_ (i := 61) (N := some 112) #[true, true, true, true, true, true, true, true, true, true, true, true, true, true, true, true, true, true, true, true, true, true, true, true, true, true, true, true, true, true, true, true, true, true, true, true, true, true, true, true, true, true, true, true, true, true, true, true, true, true, true, true, true, true, true, true, true, true, true, true, true, true, false, false, false, false, false, false, false, false, false, false, false, false, false] rfl rfl (one_of HT_.out (by kernel_rfl)) (by decide) (fun K hK => ?_)
 refine goes_ Tryz.func74 (by kernel_rfl) rfl #[.int .i64 3, .int .i64 1] (by rfl) rfl rfl (by (try simp only [List.map_toArray, List.map_cons, List.map_nil]); first | done | rfl | (simp only [List.length_drop, List.length_take]; rfl)) ?_
 with_reducible refine (schismalaw06_number.calls k 3 1 t758 t759 _ ?gG A25.out).mono ?_
 (case gG => exact gw HG.out HB.out)
 rintro e w82 ⟨rfl, hb⟩
 have HS0_ := (hb.cell (World.block_lt_of_cell? _ _ (hHeld.1))).trans (hHeld.1)
 have HS1_ := (hb.cell (World.block_lt_of_cell? _ _ (hHeld.2.1))).trans (hHeld.2.1)
 have HS2_ := (hb.cell (World.block_lt_of_cell? _ _ (hHeld.2.2.1))).trans (hHeld.2.2.1)
 have HS3_ := (hb.cell (World.block_lt_of_cell? _ _ (hHeld.2.2.2))).trans (hHeld.2.2.2)
 refine ⟨_, rfl, ?_⟩
 have n0_ := Aside0.mk (Kd.N_below (nx HO695.out) hb)
 have n1_ := Aside0.mk (Kd.N_below (nx HO701.out) hb)
 have n2_ := Aside0.mk (Kd.N_below (nx HO710.out) hb)
 have n3_ := Aside0.mk (Kd.R_below (rx HO714.out) hb)
 have n4_ := Aside0.mk (Kd.N_below (nx HO720.out) hb)
 have n5_ := Aside0.mk (Kd.R_below (rx HO723.out) hb)
 have n6_ := Aside0.mk (Kd.R_below (rx HO728.out) hb)
 have n7_ := Aside0.mk (Kd.N_below (nx HO737.out) hb)
 have n8_ := Aside0.mk (Kd.R_below (rx HO740.out) hb)
 have n9_ := Aside0.mk (Kd.R_below (rx HO745.out) hb)
 have n10_ := Aside0.mk (Kd.V_below (by (with_reducible repeat (first | apply Kd.V_alloc | apply Kd.V_drewN | apply Kd.V_drew)); exact HL746_0.out) hb)
 have n11_ := Aside0.mk (Kd.R_below (rx HO753.out) hb)
 have n12_ := Aside0.mk (Kd.C_below (by repeat (first | (with_reducible exact HR746_0.out) | (with_reducible refine Kd.C_alloc ?_ _) | (with_reducible refine Kd.C_drewN ?_ _) | (with_reducible refine Kd.C_drew ?_) | exact HR746_0.out)) hb)
 have n13_ := Aside0.mk (below_step (bl HB.out) hb)
 clear HO695
 clear HO701
 clear HO710
 clear HO714
 clear HO720
 clear HO723
 clear HO728
 clear HO737
 clear HO740
 clear HO745
 clear HL746_0
 clear HO753
 clear HR746_0
 clear HB
 have HO695 := n0_
 have HO701 := n1_
 have HO710 := n2_
 have HO714 := n3_
 have HO720 := n4_
 have HO723 := n5_
 have HO728 := n6_
 have HO737 := n7_
 have HO740 := n8_
 have HO745 := n9_
 have HL746_0 := n10_
 have HO753 := n11_
 have HR746_0 := n12_
 have HB := n13_
 clear n0_ n1_ n2_ n3_ n4_ n5_ n6_ n7_ n8_ n9_ n10_ n11_ n12_ n13_
 (try clear hb)
 (try clear hb2)
 (try clear hk)
 (try clear hi)
 refine hK.out _ _ ⟨HS0_, HS1_, HS2_, HS3_⟩ (fun hHeld => ?_)
 clear hK K
 refine norm_ (a' := ?_) ?_ ?_
 rotate_left
 ·show Act.put _ (some 112) _ = _
  simp only [Act.put, List.setIfInBounds_toArray, List.set_cons_zero, List.set_cons_succ, i64_w, i32_w]
  rfl
 refine one_ (i := 62) (N := some 113) #[true, true, true, true, true, true, true, true, true, true, true, true, true, true, true, true, true, true, true, true, true, true, true, true, true, true, true, true, true, true, true, true, true, true, true, true, true, true, true, true, true, true, true, true, true, true, true, true, true, true, true, true, true, true, true, true, true, true, true, true, true, true, true, false, false, false, false, false, false, false, false, false, false, false, false] rfl rfl (one_of HT_.out (by kernel_rfl)) (by decide) (fun K hK => ?_)
 refine goes_ Tryz.func74 (by kernel_rfl) rfl #[.int .i64 0, .int .i64 1] (by rfl) rfl rfl (by (try simp only [List.map_toArray, List.map_cons, List.map_nil]); first | done | rfl | (simp only [List.length_drop, List.length_take]; rfl)) ?_
 with_reducible refine (schismalaw06_number.calls k 0 1 t760 t761 _ ?gG A26.out).mono ?_
 (case gG => exact gw HG.out HB.out)
 rintro e w83 ⟨rfl, hb⟩
 have HS0_ := (hb.cell (World.block_lt_of_cell? _ _ (hHeld.1))).trans (hHeld.1)
 have HS1_ := (hb.cell (World.block_lt_of_cell? _ _ (hHeld.2.1))).trans (hHeld.2.1)
 have HS2_ := (hb.cell (World.block_lt_of_cell? _ _ (hHeld.2.2.1))).trans (hHeld.2.2.1)
 have HS3_ := (hb.cell (World.block_lt_of_cell? _ _ (hHeld.2.2.2))).trans (hHeld.2.2.2)
 refine ⟨_, rfl, ?_⟩
 have n0_ := Aside0.mk (Kd.N_below (nx HO695.out) hb)
 have n1_ := Aside0.mk (Kd.N_below (nx HO701.out) hb)
 have n2_ := Aside0.mk (Kd.N_below (nx HO710.out) hb)
 have n3_ := Aside0.mk (Kd.R_below (rx HO714.out) hb)
 have n4_ := Aside0.mk (Kd.N_below (nx HO720.out) hb)
 have n5_ := Aside0.mk (Kd.R_below (rx HO723.out) hb)
 have n6_ := Aside0.mk (Kd.R_below (rx HO728.out) hb)
 have n7_ := Aside0.mk (Kd.N_below (nx HO737.out) hb)
 have n8_ := Aside0.mk (Kd.R_below (rx HO740.out) hb)
 have n9_ := Aside0.mk (Kd.R_below (rx HO745.out) hb)
 have n10_ := Aside0.mk (Kd.V_below (by (with_reducible repeat (first | apply Kd.V_alloc | apply Kd.V_drewN | apply Kd.V_drew)); exact HL746_0.out) hb)
 have n11_ := Aside0.mk (Kd.R_below (rx HO753.out) hb)
 have n12_ := Aside0.mk (Kd.C_below (by repeat (first | (with_reducible exact HR746_0.out) | (with_reducible refine Kd.C_alloc ?_ _) | (with_reducible refine Kd.C_drewN ?_ _) | (with_reducible refine Kd.C_drew ?_) | exact HR746_0.out)) hb)
 have n13_ := Aside0.mk (below_step (bl HB.out) hb)
 clear HO695
 clear HO701
 clear HO710
 clear HO714
 clear HO720
 clear HO723
 clear HO728
 clear HO737
 clear HO740
 clear HO745
 clear HL746_0
 clear HO753
 clear HR746_0
 clear HB
 have HO695 := n0_
 have HO701 := n1_
 have HO710 := n2_
 have HO714 := n3_
 have HO720 := n4_
 have HO723 := n5_
 have HO728 := n6_
 have HO737 := n7_
 have HO740 := n8_
 have HO745 := n9_
 have HL746_0 := n10_
 have HO753 := n11_
 have HR746_0 := n12_
 have HB := n13_
 clear n0_ n1_ n2_ n3_ n4_ n5_ n6_ n7_ n8_ n9_ n10_ n11_ n12_ n13_
 (try clear hb)
 (try clear hb2)
 (try clear hk)
 (try clear hi)
 refine hK.out _ _ ⟨HS0_, HS1_, HS2_, HS3_⟩ (fun hHeld => ?_)
 clear hK K
 refine norm_ (a' := ?_) ?_ ?_
 rotate_left
 ·show Act.put _ (some 113) _ = _
  simp only [Act.put, List.setIfInBounds_toArray, List.set_cons_zero, List.set_cons_succ, i64_w, i32_w]
  rfl
 refine one_ (i := 63) (N := some 114) #[true, true, true, true, true, true, true, true, true, true, true, true, true, true, true, true, true, true, true, true, true, true, true, true, true, true, true, true, true, true, true, true, true, true, true, true, true, true, true, true, true, true, true, true, true, true, true, true, true, true, true, true, true, true, true, true, true, true, true, true, true, true, true, true, false, false, false, false, false, false, false, false, false, false, false] rfl rfl (one_of HT_.out (by kernel_rfl)) (by decide) (fun K hK => ?_)
 refine Kd.R_lit_step k103 _ 103 ?hg (N := 114) ?hd (xs := ([(⟨t758, t759⟩ : S103), (⟨t760, t761⟩ : S103)] : List (S103))) (inner := [.string t758, .string t759, .string t760, .string t761]) (ok := fun _ => True) (okp := fun _ => True) ?hr ?hp (fun _ hk => hk) trivial (Below.refl _ _) (Nat.le_refl _) (by simp) ?_; (case hd => rfl); (case hg => rfl); (case hr => first | (go_simp; done) | (go_simp; rfl)); (case hp => exact (Reps.c2 (show Kd.M k103 _ _ _ (⟨t758, t759⟩ : S103) [.string t758, .string t759] from (k103_mkM _ _ _ (⟨t758, t759⟩ : S103) )) (Reps.c2 (show Kd.M k103 _ _ _ (⟨t760, t761⟩ : S103) [.string t760, .string t761] from (k103_mkM _ _ _ (⟨t760, t761⟩ : S103) )) (Reps.none _ _))))
 intro v763 w84 ho85 hb hg_ hnew_
 have HS0_ := (hb.cell (World.block_lt_of_cell? _ _ (hHeld.1))).trans (hHeld.1)
 have HS1_ := (hb.cell (World.block_lt_of_cell? _ _ (hHeld.2.1))).trans (hHeld.2.1)
 have HS2_ := (hb.cell (World.block_lt_of_cell? _ _ (hHeld.2.2.1))).trans (hHeld.2.2.1)
 have HS3_ := (hb.cell (World.block_lt_of_cell? _ _ (hHeld.2.2.2))).trans (hHeld.2.2.2)
 clear hg_ hnew_
 (first | rw [← Ny762.out] at ho85 | (simp only [Int.reduceToNat] at ho85; rw [← Ny762.out] at ho85))
 have n0_ := Aside0.mk (Kd.N_elder' (nx HO695.out) (Kd.R_base ho85) hb)
 have n1_ := Aside0.mk (Kd.N_elder' (nx HO701.out) (Kd.R_base ho85) hb)
 have n2_ := Aside0.mk (Kd.N_elder' (nx HO710.out) (Kd.R_base ho85) hb)
 have n3_ := Aside0.mk (Kd.R_below (rx HO714.out) hb)
 have n4_ := Aside0.mk (Kd.N_elder' (nx HO720.out) (Kd.R_base ho85) hb)
 have n5_ := Aside0.mk (Kd.R_below (rx HO723.out) hb)
 have n6_ := Aside0.mk (Kd.R_elder' (rx HO728.out) (Kd.R_base ho85) hb)
 have n7_ := Aside0.mk (Kd.N_elder' (nx HO737.out) (Kd.R_base ho85) hb)
 have n8_ := Aside0.mk (Kd.R_below (rx HO740.out) hb)
 have n9_ := Aside0.mk (Kd.R_elder' (rx HO745.out) (Kd.R_base ho85) hb)
 have n10_ := Aside0.mk (Kd.V_elder' (by (with_reducible repeat (first | apply Kd.V_alloc | apply Kd.V_drewN | apply Kd.V_drew)); exact HL746_0.out) (Kd.R_base ho85) hb)
 have n11_ := Aside0.mk (Kd.R_elder' (rx HO753.out) (Kd.R_base ho85) hb)
 have n12_ := Aside0.mk (Kd.R_lower (Kd.R_new' (Kd.R_new' (Kd.R_new' ho85 (Kd.R_lt (rx HO728.out))) (Kd.R_lt (rx HO745.out))) (Kd.R_lt (rx HO753.out))) (below_size (bl HB.out)))
 have n13_ := Aside0.mk (Kd.C_below (by repeat (first | (with_reducible exact HR746_0.out) | (with_reducible refine Kd.C_alloc ?_ _) | (with_reducible refine Kd.C_drewN ?_ _) | (with_reducible refine Kd.C_drew ?_) | exact HR746_0.out)) hb)
 have n14_ := Aside0.mk (below_step (bl HB.out) hb)
 clear HO695
 clear HO701
 clear HO710
 clear HO714
 clear HO720
 clear HO723
 clear HO728
 clear HO737
 clear HO740
 clear HO745
 clear HL746_0
 clear HO753
 clear HR746_0
 clear HB
 have HO695 := n0_
 have HO701 := n1_
 have HO710 := n2_
 have HO714 := n3_
 have HO720 := n4_
 have HO723 := n5_
 have HO728 := n6_
 have HO737 := n7_
 have HO740 := n8_
 have HO745 := n9_
 have HL746_0 := n10_
 have HO753 := n11_
 have HO764 := n12_
 have HR746_0 := n13_
 have HB := n14_
 clear n0_ n1_ n2_ n3_ n4_ n5_ n6_ n7_ n8_ n9_ n10_ n11_ n12_ n13_ n14_
 clear hb ho85
 obtain ⟨Ao86, co86, eo86⟩ := Kd.R_slice HO728.out
 (first | subst eo86 | (injection eo86 with f1_ f2_ f3_; have f4_ := f1_.symm; have f5_ := f3_.symm; clear f1_ f2_ f3_; subst f4_; subst f5_))
 obtain ⟨Ao87, co87, eo87⟩ := Kd.R_slice HO764.out
 (first | subst eo87 | (injection eo87 with f1_ f2_ f3_; have f4_ := f1_.symm; have f5_ := f3_.symm; clear f1_ f2_ f3_; subst f4_; subst f5_))
 refine hK.out _ _ ⟨HS0_, HS1_, HS2_, HS3_⟩ (fun hHeld => ?_)
 clear hK K
 refine norm_ (a' := ?_) ?_ ?_
 rotate_left
 ·show Act.put _ (some 114) _ = _
  simp only [Act.put, List.setIfInBounds_toArray, List.set_cons_zero, List.set_cons_succ, i64_w, i32_w]
  rfl
 refine one_ (i := 64) (N := some 115) #[true, true, true, true, true, true, true, true, true, true, true, true, true, true, true, true, true, true, true, true, true, true, true, true, true, true, true, true, true, true, true, true, true, true, true, true, true, true, true, true, true, true, true, true, true, true, true, true, true, true, true, true, true, true, true, true, true, true, true, true, true, true, true, true, true, false, false, false, false, false, false, false, false, false, false] rfl rfl (one_of HT_.out (by kernel_rfl)) (by decide) (fun K hK => ?_)
 refine goes_ Tryz.func32 (by kernel_rfl) rfl #[.slice Ao86 t724.length co86, .slice Ao87 y762.length co87] (by rfl) rfl rfl (by (try simp only [List.map_toArray, List.map_cons, List.map_nil]); first | done | rfl | (simp only [List.length_drop, List.length_take]; rfl)) ?_
 with_reducible refine (schismalaw06_same.calls k _ _ t724 _ _ y762 true _ ?side1 ?side2 ?side3 ?side4 A27.out).mono ?_
 (case side1 => exact cx (Kd.R_reads' HO728.out).2.2)
 (case side2 => exact (Kd.R_reads' HO728.out).2.1)
 (case side3 => exact cx (Kd.R_reads' HO764.out).2.2)
 (case side4 => exact (Kd.R_reads' HO764.out).2.1)
 rintro e w' ⟨rfl, ⟨nd, rfl⟩⟩
 refine ⟨_, rfl, ?_⟩
 refine hK.out _ _ ⟨hHeld.1, hHeld.2.1, hHeld.2.2.1, hHeld.2.2.2⟩ (fun hHeld => ?_)
 clear hK K
 refine norm_ (a' := ?_) ?_ ?_
 rotate_left
 ·show Act.put _ (some 115) _ = _
  simp only [Act.put, List.setIfInBounds_toArray, List.set_cons_zero, List.set_cons_succ, i64_w, i32_w]
  rfl
 refine pure_ (i := 65) (N := some 116) (v := ?_) (a' := ?_) #[true, true, true, true, true, true, true, true, true, true, true, true, true, true, true, true, true, true, true, true, true, true, true, true, true, true, true, true, true, true, true, true, true, true, true, true, true, true, true, true, true, true, true, true, true, true, true, true, true, true, true, true, true, true, true, true, true, true, true, true, true, true, true, true, true, true, false, false, false, false, false, false, false, false, false] rfl rfl (any_of HT_.out (by kernel_rfl)) (fun _ _ _ h => h) (Or.inl ⟨by rfl, ?_⟩) ?_ ?_
 rotate_left
 ·intro w'
  go_simp
  with_reducible rfl
 rotate_left
 ·simp only [Act.put, List.setIfInBounds_toArray, List.set_cons_zero, List.set_cons_succ, i64_w, i32_w]
  rfl
 refine pure_ (i := 66) (N := some 117) (v := ?_) (a' := ?_) #[true, true, true, true, true, true, true, true, true, true, true, true, true, true, true, true, true, true, true, true, true, true, true, true, true, true, true, true, true, true, true, true, true, true, true, true, true, true, true, true, true, true, true, true, true, true, true, true, true, true, true, true, true, true, true, true, true, true, true, true, true, true, true, true, true, true, true, false, false, false, false, false, false, false, false] rfl rfl (any_of HT_.out (by kernel_rfl)) (fun _ _ _ h => h) (Or.inl ⟨by rfl, ?_⟩) ?_ ?_
 rotate_left
 ·intro w'
  go_simp
  with_reducible rfl
 rotate_left
 ·simp only [Act.put, List.setIfInBounds_toArray, List.set_cons_zero, List.set_cons_succ, i64_w, i32_w]
  rfl
 refine pure_ (i := 67) (N := some 118) (v := ?_) (a' := ?_) #[true, true, true, true, true, true, true, true, true, true, true, true, true, true, true, true, true, true, true, true, true, true, true, true, true, true, true, true, true, true, true, true, true, true, true, true, true, true, true, true, true, true, true, true, true, true, true, true, true, true, true, true, true, true, true, true, true, true, true, true, true, true, true, true, true, true, true, true, false, false, false, false, false, false, false] rfl rfl (any_of HT_.out (by kernel_rfl)) (fun _ _ _ h => h) (Or.inl ⟨by rfl, ?_⟩) ?_ ?_
 rotate_left
 ·intro w'
  go_simp
  with_reducible rfl
 rotate_left
 ·simp only [Act.put, List.setIfInBounds_toArray, List.set_cons_zero, List.set_cons_succ, i64_w, i32_w]
  rfl
 refine pure_ (i := 68) (N := some 119) (v := ?_) (a' := ?_) #[true, true, true, true, true, true, true, true, true, true, true, true, true, true, true, true, true, true, true, true, true, true, true, true, true, true, true, true, true, true, true, true, true, true, true, true, true, true, true, true, true, true, true, true, true, true, true, true, true, true, true, true, true, true, true, true, true, true, true, true, true, true, true, true, true, true, true, true, true, false, false, false, false, false, false] rfl rfl (any_of HT_.out (by kernel_rfl)) (fun _ _ _ h => h) (Or.inl ⟨by rfl, ?_⟩) ?_ ?_
 rotate_left
 ·intro w'
  go_simp
  with_reducible rfl
 rotate_left
 ·simp only [Act.put, List.setIfInBounds_toArray, List.set_cons_zero, List.set_cons_succ, i64_w, i32_w]
  rfl
 refine pure_ (i := 69) (N := some 120) (v := ?_) (a' := ?_) #[true, true, true, true, true, true, true, true, true, true, true, true, true, true, true, true, true, true, true, true, true, true, true, true, true, true, true, true, true, true, true, true, true, true, true, true, true, true, true, true, true, true, true, true, true, true, true, true, true, true, true, true, true, true, true, true, true, true, true, true, true, true, true, true, true, true, true, true, true, true, false, false, false, false, false] rfl rfl (any_of HT_.out (by kernel_rfl)) (fun _ _ _ h => h) (Or.inl ⟨by rfl, ?_⟩) ?_ ?_
 rotate_left
 ·intro w'
  go_simp
  with_reducible rfl
 rotate_left
 ·simp only [Act.put, List.setIfInBounds_toArray, List.set_cons_zero, List.set_cons_succ, i64_w, i32_w]
  rfl
 refine pure_ (i := 70) (N := some 121) (v := ?_) (a' := ?_) #[true, true, true, true, true, true, true, true, true, true, true, true, true, true, true, true, true, true, true, true, true, true, true, true, true, true, true, true, true, true, true, true, true, true, true, true, true, true, true, true, true, true, true, true, true, true, true, true, true, true, true, true, true, true, true, true, true, true, true, true, true, true, true, true, true, true, true, true, true, true, true, false, false, false, false] rfl rfl (any_of HT_.out (by kernel_rfl)) (fun _ _ _ h => h) (Or.inl ⟨by rfl, ?_⟩) ?_ ?_
 rotate_left
 ·intro w'
  go_simp
  with_reducible rfl
 rotate_left
 ·simp only [Act.put, List.setIfInBounds_toArray, List.set_cons_zero, List.set_cons_succ, i64_w, i32_w]
  rfl
 refine pure_ (i := 71) (N := some 122) (v := ?_) (a' := ?_) #[true, true, true, true, true, true, true, true, true, true, true, true, true, true, true, true, true, true, true, true, true, true, true, true, true, true, true, true, true, true, true, true, true, true, true, true, true, true, true, true, true, true, true, true, true, true, true, true, true, true, true, true, true, true, true, true, true, true, true, true, true, true, true, true, true, true, true, true, true, true, true, true, false, false, false] rfl rfl (any_of HT_.out (by kernel_rfl)) (fun _ _ _ h => h) (Or.inl ⟨by rfl, ?_⟩) ?_ ?_
 rotate_left
 ·intro w'
  go_simp
  with_reducible rfl
 rotate_left
 ·simp only [Act.put, List.setIfInBounds_toArray, List.set_cons_zero, List.set_cons_succ, i64_w, i32_w]
  rfl
 refine pure_ (i := 72) (N := some 123) (v := ?_) (a' := ?_) #[true, true, true, true, true, true, true, true, true, true, true, true, true, true, true, true, true, true, true, true, true, true, true, true, true, true, true, true, true, true, true, true, true, true, true, true, true, true, true, true, true, true, true, true, true, true, true, true, true, true, true, true, true, true, true, true, true, true, true, true, true, true, true, true, true, true, true, true, true, true, true, true, true, false, false] rfl rfl (any_of HT_.out (by kernel_rfl)) (fun _ _ _ h => h) (Or.inl ⟨by rfl, ?_⟩) ?_ ?_
 rotate_left
 ·intro w'
  go_simp
  with_reducible rfl
 rotate_left
 ·simp only [Act.put, List.setIfInBounds_toArray, List.set_cons_zero, List.set_cons_succ, i64_w, i32_w]
  rfl
 refine pure_ (i := 73) (N := some 124) (v := ?_) (a' := ?_) #[true, true, true, true, true, true, true, true, true, true, true, true, true, true, true, true, true, true, true, true, true, true, true, true, true, true, true, true, true, true, true, true, true, true, true, true, true, true, true, true, true, true, true, true, true, true, true, true, true, true, true, true, true, true, true, true, true, true, true, true, true, true, true, true, true, true, true, true, true, true, true, true, true, true, false] rfl rfl (any_of HT_.out (by kernel_rfl)) (fun _ _ _ h => h) (Or.inl ⟨by rfl, ?_⟩) ?_ ?_
 rotate_left
 ·intro w'
  go_simp
  with_reducible rfl
 rotate_left
 ·simp only [Act.put, List.setIfInBounds_toArray, List.set_cons_zero, List.set_cons_succ, i64_w, i32_w]
  rfl
 refine pure_ (i := 74) (N := some 0) (v := ?_) (a' := ?_) #[true, true, true, true, true, true, true, true, true, true, true, true, true, true, true, true, true, true, true, true, true, true, true, true, true, true, true, true, true, true, true, true, true, true, true, true, true, true, true, true, true, true, true, true, true, true, true, true, true, true, true, true, true, true, true, true, true, true, true, true, true, true, true, true, true, true, true, true, true, true, true, true, true, true, true] rfl rfl (any_of HT_.out (by kernel_rfl)) (fun _ _ _ h => h) (Or.inl ⟨by rfl, ?_⟩) ?_ ?_
 rotate_left
 ·intro w'
  go_simp
  with_reducible rfl
 rotate_left
 ·simp only [Act.put, List.setIfInBounds_toArray, List.set_cons_zero, List.set_cons_succ, i64_w, i32_w]
  rfl
 refine done_ (done_of HT_.out (by kernel_rfl)) ?_
 try go_wp2
 go_ret
 exact ⟨by first | rfl | (simp [errW_none, errW_some] <;> rfl) | (simp [*, errW_none, errW_some] <;> rfl), by repeat (first | (with_reducible first | exact HB.out | apply below_alloc | apply pw_below_drewN | apply below_drew1) | exact HB.out)⟩
end Go.Proofs.YtegffolimjiioaaGreatDoor.PB
