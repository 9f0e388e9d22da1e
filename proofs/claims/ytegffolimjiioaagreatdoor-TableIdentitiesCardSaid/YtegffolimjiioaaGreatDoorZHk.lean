/- table.Check: the first error of a matrix. -/
import Derived.Test.YtegffolimjiioaaGreatDoorZPBx0
import Derived.Test.YtegffolimjiioaaGreatDoorZPBx2
namespace Go.Proofs.YtegffolimjiioaaGreatDoor.PB
open Go.RowKit Go.Proofs.YtegffolimjiioaaGreatDoorW.PrintWords Go.Proofs.YtegffolimjiioaaGreatDoorW.PrintLast Go.Proofs.YtegffolimjiioaaGreatDoorW.PrintMore
attribute [local go_sem] max2_int min2_int max_two min_two
set_option linter.unusedVariables false
set_option linter.unusedSimpArgs false
def greatB (n : Int) : Bool := decide (n > 1000000000) || decide (n < -1000000000)
theorem great_call (n : Int) (w : World) : Calls Tryz.prog 109 #[.int .i64 n] w fun e w' => e = .returned (.bool (greatB n)) ∧ Drawn0 w w' := by
 refine (table_great.calls n (greatB n) w ?_).mono fun _ _ h => h
 unfold table_great.f greatB
 by_cases h : n > 1000000000 <;> simp [h]
def idxOf (p : Int → Bool) (l : List Int) : Int := match l.findIdx? p with | some i => (i : Int) | none => -1
theorem rd_nat (l : List Int) (k : Nat) (h : k < l.length) : rd l (k : Int) = l[k] := by simp [rd, List.getD_eq_getElem?_getD, List.getElem?_eq_getElem h]
theorem idxOf_found {p : Int → Bool} {l : List Int} {k : Nat} (h : k < l.length) (hk : p (rd l k) = true) (hf : ∀ j, j < k → p (rd l j) = false) : idxOf p l = k := by
 unfold idxOf
 have : l.findIdx? p = some k := by
  rw [List.findIdx?_eq_some_iff_getElem]
  refine ⟨h, by rw [← rd_nat l k h]; exact hk, fun j hj => ?_⟩
  have := hf j hj
  rw [rd_nat l j (by omega)] at this
  simp [this]
 rw [this]
theorem idxOf_none {p : Int → Bool} {l : List Int} (hf : ∀ j, j < l.length → p (rd l j) = false) : idxOf p l = -1 := by
 unfold idxOf
 have : l.findIdx? p = none := by
  rw [List.findIdx?_eq_none_iff]
  intro x hx
  obtain ⟨j, hj, rfl⟩ := List.getElem_of_mem hx
  have := hf j hj
  rwa [rd_nat l j hj] at this
 rw [this]
set_option maxRecDepth 100000 in
theorem indexFunc_great (A : Option Addr) (c : Nat) (l : List Int) (w : World) (hr : Kd.C (Kd.int .i64) w A l.length l) (hc : l.length ≤ c) :
  Calls Tryz.prog 172 #[.slice A l.length c, .func (.func 109) #[] #[]] w fun e w' => e = .returned (.int .i64 (idxOf greatB l)) ∧ Drawn0 w w' := by
 have hm : l.length ≤ 9223372036854775807 := hr.2.1
 go_enter Tryz.func172, Tryz.ntmps172
 go_wp2
 have HR0 := Aside0.mk hr
 have HN := Aside0.mk (show l.findIdx? greatB = (l.drop 0).findIdx? greatB from rfl)
 clear hr
 go_loopg [8] (l.length + 1) (fun kq v8 w' => ∃ k : Nat, v8 = .int .i64 k ∧ Aside0 (k ≤ l.length) ∧ Aside0 (l.length - k + 1 ≤ kq) ∧ Aside0 (∀ j, j < k → greatB (rd l j) = false) ∧ Drawn0 w w')
 case atStart => exact ⟨0, rfl, ⟨Nat.zero_le _⟩, ⟨by omega⟩, ⟨fun j hj => absurd hj (by omega)⟩, Drawn0.refl _⟩
 case round =>
  obtain ⟨k, rfl, HK1, HK2, HF, ⟨nd, rfl⟩⟩ := hrel
  by_cases ck : k < l.length
  ·obtain ⟨ad, e, hx⟩ := Kd.at_int HR0.out (k : Int) (by omega) (by omega)
   cases e
   simp only [Int.toNat_natCast] at hx
   have HCK := Aside0.mk ck
   cases hgb : greatB (rd l k) with
   | true =>
    have HG := Aside0.mk hgb
    have HI := Aside0.mk (idxOf_found ck hgb HF.out)
    clear hgb
    go_wp2_with (first | (go_at_call 109; (refine (great_call _ _).mono ?_); rw [HG.out]; rintro e w' ⟨rfl, ⟨n2, rfl⟩⟩))
    go_ret
    exact ⟨by rw [HI.out]; rfl, ⟨⟨_, rfl⟩⟩⟩
   | false =>
    have HG := Aside0.mk hgb
    clear hgb
    obtain ⟨k1, rfl⟩ : ∃ k1, gk = k1 + 1 := ⟨gk - 1, by have := HK2.out; omega⟩
    go_wp2_with (first | (go_at_call 109; (refine (great_call _ _).mono ?_); rw [HG.out]; rintro e w' ⟨rfl, ⟨n2, rfl⟩⟩))
    go_roundg k1
    case measure => omega
    case rel =>
     refine ⟨k + 1, by go_num, ⟨by have := HCK.out; omega⟩, ⟨by have := HK2.out; omega⟩, ⟨fun j hj => ?_⟩, ⟨⟨_, rfl⟩⟩⟩
     by_cases h : j = k
     ·subst h; exact HG.out
     ·exact HF.out j (by omega)
  ·obtain rfl : k = l.length := by have := HK1.out; omega
   have HI := Aside0.mk (idxOf_none HF.out)
   go_wp2
   go_ret
   exact ⟨by rw [HI.out]; rfl, ⟨⟨_, rfl⟩⟩⟩
theorem idxOf_any (p : Int → Bool) (l : List Int) : decide (idxOf p l ≥ 0) = l.any p := by
 unfold idxOf
 cases h : l.findIdx? p with
 | none =>
  rw [List.findIdx?_eq_none_iff] at h
  have : l.any p = false := by simp; exact fun x hx => by simpa using h x hx
  simp [this]
 | some i =>
  have := List.findIdx?_eq_some_iff_getElem.1 h
  obtain ⟨hi, hp, _⟩ := this
  have : l.any p = true := List.any_eq_true.2 ⟨_, List.getElem_mem hi, hp⟩
  simp [this]
theorem containsFunc_great (A : Option Addr) (c : Nat) (l : List Int) (w : World) (hr : Kd.C (Kd.int .i64) w A l.length l) (hc : l.length ≤ c) :
  Calls Tryz.prog 108 #[.slice A l.length c, .func (.func 109) #[] #[]] w fun e w' => e = .returned (.bool (l.any greatB)) ∧ Drawn0 w w' := by
 have H := Aside0.mk hr
 have HI := Aside0.mk (idxOf_any greatB l)
 clear hr
 go_enter Tryz.func108, Tryz.ntmps108
 go_wp2_with (first | (go_at_call 172; (refine (indexFunc_great _ _ l _ H.out hc).mono ?_); rintro e w' ⟨rfl, ⟨n2, rfl⟩⟩))
 go_ret
 exact ⟨by rw [← HI.out]; try rfl, ⟨⟨_, rfl⟩⟩⟩
def checkRows (c0 : Nat) : List (List Int) → Int
 | [] => 0
 | r :: rest => if 12 < r.length then 4 else if r.length ≠ c0 then 5 else if r.any greatB then 4 else checkRows c0 rest
def checkM (m : List (List Int)) : Int := if 12 < m.length then 4 else checkRows (m.headD []).length m
def table_Check.f (l0 : List (List Int)) : Option Int := some (checkM l0)
theorem drop_rd (l : List (List Int)) (k : Nat) (h : k < l.length) : l.drop k = rd_L1 l k :: l.drop (k + 1) := by
 rw [List.drop_eq_getElem_cons h]
 simp [rd_L1, List.getD_eq_getElem?_getD, List.getElem?_eq_getElem h]
set_option maxRecDepth 100000 in
set_option maxHeartbeats 1000000 in
theorem table_Check.calls (A0 : Option Addr) (c0 : Nat) (l0 : List (List Int)) (r : Int) (w : World) (hr0 : Kd.C (Kd.slice 3 (Kd.int .i64)) w A0 l0.length l0) (hc0 : l0.length ≤ c0) (h : table_Check.f l0 = some r) :
  Calls Tryz.prog 70 #[.slice A0 l0.length c0] w fun e w' => e = .returned (.int .i64 r) ∧ Below w.heap.size w w' := by
 obtain rfl : checkM l0 = r := Option.some.inj h
 clear h
 have HR0 := Aside0.mk hr0
 have hm : l0.length ≤ 9223372036854775807 := hr0.2.1
 clear hr0
 by_cases c12 : 12 < l0.length
 ·have HC := Aside0.mk (show checkM l0 = 4 by unfold checkM; rw [if_pos c12])
  have c12b : decide (12 < l0.length) = true := decide_eq_true c12
  go_enter Tryz.func70, Tryz.ntmps70
  go_wp2
  go_ret
  exact ⟨by rw [HC.out]; rfl, Below.refl _ _⟩
 ·have HC := Aside0.mk (show checkM l0 = checkRows (l0.headD []).length (l0.drop 0) by unfold checkM; rw [if_neg c12]; rfl)
  have c12b : decide (12 < l0.length) = false := decide_eq_false c12
  clear c12
  have hm2 : l0.length ≤ 12 := by simpa using c12b
  obtain ⟨R, hR⟩ : ∃ R, checkM l0 = R := ⟨_, rfl⟩
  rw [hR] at HC ⊢
  clear hR
  go_enter Tryz.func70, Tryz.ntmps70
  go_wp2
  go_loopg [10] (l0.length + 1) (fun kq v10 w' => ∃ k : Nat, v10 = .int .i64 k ∧ Aside0 (k ≤ l0.length) ∧ Aside0 (l0.length - k + 1 ≤ kq) ∧ Aside0 (R = checkRows (l0.headD []).length (l0.drop k)) ∧ Drawn0 w w')
  case atStart => exact ⟨0, rfl, ⟨Nat.zero_le _⟩, ⟨by omega⟩, HC, Drawn0.refl _⟩
  case round =>
   clear HC
   obtain ⟨k, rfl, HK1, HK2, HF, ⟨nd, rfl⟩⟩ := hrel
   by_cases ck : k < l0.length
   ·obtain ⟨ad, A1, c1, e, hx, hl1, hC1⟩ := at_L1 HR0.out (k : Int) (by omega) (by omega)
    obtain ⟨ad2, A2, c2, e2, hx2, hl2, hC2⟩ := at_L1 HR0.out 0 (by omega) (by omega)
    cases e
    cases e2
    have HH := Aside0.mk (show (l0.headD []).length = (rd_L1 l0 0).length by cases l0 <;> rfl)
    simp only [Int.toNat_natCast] at hx
    obtain ⟨n2, hn2⟩ : ∃ n2, (rd_L1 l0 0).length = n2 := ⟨_, rfl⟩
    rw [hn2] at hx2 HH
    rw [show (0 : Int).toNat = 0 from rfl, Addr.add_zero'] at hx2
    clear hl2 hC2
    have HF2 := Aside0.mk (show R = checkRows n2 (rd_L1 l0 k :: l0.drop (k + 1)) by rw [← drop_rd l0 k ck, ← HH.out]; exact HF.out)
    obtain ⟨row, hrow⟩ : ∃ row, rd_L1 l0 k = row := ⟨_, rfl⟩
    rw [hrow] at hx hl1 hC1 HF2
    clear hrow hn2
    have HC1 := Aside0.mk hC1
    have HL1 := Aside0.mk hl1
    have HCK := Aside0.mk ck
    clear hC1 hl1
    by_cases d1 : 12 < row.length
    ·have d1b : decide (12 < row.length) = true := decide_eq_true d1
     have HV := Aside0.mk (show R = 4 by rw [HF2.out, checkRows, if_pos d1])
     clear HF2 HF
     go_wp2
     go_ret
     exact ⟨by rw [HV.out]; rfl, pw_below_drewN (Below.refl _ _) _⟩
    ·have d1b : decide (12 < row.length) = false := decide_eq_false d1
     by_cases d2 : row.length = n2
     ·have d2a : ((row.length : Int) == (n2 : Int)) = true := beq_iff_eq.2 (by omega)
      have d2b : ((row.length : Int) != (n2 : Int)) = false := bne_eq_false_iff_eq.2 (by omega)
      have d2c : (row.length == n2) = true := beq_iff_eq.2 d2
      have D2 := Aside0.mk d2
      clear d2
      cases hgb : row.any greatB with
      | true =>
       have HV := Aside0.mk (show R = 4 by rw [HF2.out, checkRows, if_neg d1, if_neg (by have := D2.out; omega), if_pos hgb])
       have HG := Aside0.mk hgb
       clear HF2 HF hgb
       go_wp2_with (first | (go_at_call 108; (refine (containsFunc_great _ _ row _ (Kd.C_drewN HC1.out _) HL1.out).mono ?_); rw [HG.out]; rintro e w' ⟨rfl, ⟨n3, rfl⟩⟩))
       go_ret
       exact ⟨by rw [HV.out]; rfl, pw_below_drewN (Below.refl _ _) _⟩
      | false =>
       have HV := Aside0.mk (show R = checkRows (l0.headD []).length (l0.drop (k + 1)) by rw [HF2.out, checkRows, if_neg d1, if_neg (by have := D2.out; omega), if_neg (by simp [hgb]), HH.out])
       have HG := Aside0.mk hgb
       clear HF2 HF hgb
       obtain ⟨k1, rfl⟩ : ∃ k1, gk = k1 + 1 := ⟨gk - 1, by have := HK2.out; omega⟩
       go_wp2_with (first | (go_at_call 108; (refine (containsFunc_great _ _ row _ (Kd.C_drewN HC1.out _) HL1.out).mono ?_); rw [HG.out]; rintro e w' ⟨rfl, ⟨n3, rfl⟩⟩))
       go_roundg k1
       case measure => omega
       case rel => exact ⟨k + 1, by go_num, ⟨by have := HCK.out; omega⟩, ⟨by have := HK2.out; omega⟩, HV, ⟨⟨_, rfl⟩⟩⟩
     ·have d2a : ((row.length : Int) == (n2 : Int)) = false := beq_eq_false_iff_ne.2 (by omega)
      have d2b : ((row.length : Int) != (n2 : Int)) = true := bne_iff_ne.2 (by omega)
      have d2c : (row.length == n2) = false := beq_eq_false_iff_ne.2 d2
      have HV := Aside0.mk (show R = 5 by rw [HF2.out, checkRows, if_neg d1, if_pos d2])
      clear HF2 HF d2
      go_wp2
      go_ret
      exact ⟨by rw [HV.out]; rfl, pw_below_drewN (Below.refl _ _) _⟩
   ·obtain rfl : k = l0.length := by have := HK1.out; omega
    have HV := Aside0.mk (show R = 0 by rw [HF.out, List.drop_length]; rfl)
    clear HF
    go_wp2
    go_ret
    exact ⟨by rw [HV.out]; rfl, pw_below_drewN (Below.refl _ _) _⟩
end Go.Proofs.YtegffolimjiioaaGreatDoor.PB
