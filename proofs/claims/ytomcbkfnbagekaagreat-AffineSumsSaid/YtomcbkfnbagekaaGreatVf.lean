/- A part of the proof that the law of the statement is true of all inputs: VC1, VC2, VC3, VL1, VD_1, VD_2. -/
import Derived.Test.YtomcbkfnbagekaaGreatVe
/- Contracts, printed by a program of this session (VP.lean). -/
set_option linter.unusedVariables false
set_option maxRecDepth 100000
namespace Go.Proofs.YtomcbkfnbagekaaGreat
open Go Go.Vm
def F11 (x0 : Int) (x1 : Int) (x2 : Int) (x3 : Int) : Bool := (if (decide (x3 < x0) : Bool) = true then (false) else (if (decide (x3 > x1) : Bool) = true then (false) else (if (x2 == Int.ofNat 0 : Bool) = true then (true) else ((wr IntKind.i64 (x3 - x0)).tmod x2 == Int.ofNat 0))))
def P11 (x0 : Int) (x1 : Int) (x2 : Int) (x3 : Int) : Bool := (if (decide (x3 < x0) : Bool) = true then allB [] else (if (decide (x3 > x1) : Bool) = true then allB [] else (if (x2 == Int.ofNat 0 : Bool) = true then allB [] else allB [!x2 == Int.ofNat 0])))
theorem con11 (x0 : Int) (x1 : Int) (x2 : Int) (x3 : Int) (h : P11 x0 x1 x2 x3 = true) : Con0 E0 11 [V.agg [V.int IntKind.i64 x0, V.int IntKind.i64 x1, V.int IntKind.i64 x2], V.int IntKind.i64 x3] [] (V.bool (F11 x0 x1 x2 x3)) [] := by
  by_cases c0 : (decide (x3 < x0) : Bool) = true
  · skip
    have hF : F11 x0 x1 x2 x3 = (false) := by unfold F11; rw [if_pos c0]
    rw [hF]
    unfold P11 at h
    rw [if_pos c0] at h
    exact leaf0 good0 (F := Tryz.f11) (n := 400) (ds := [Dec.test true, Dec.test true, Dec.test true, Dec.test true, Dec.test true, Dec.lit]) (u := V.bool false) (ps := [(decide (x3 < x0)) = true, (decide (x3 < x0)) = true, (decide (x3 < x0)) = true, (decide (x3 < x0)) = true, (decide (x3 < x0)) = true]) (by kernel_rfl) (by kernel_rfl) (by kernel_rfl) ⟨c0, c0, c0, c0, c0, trivial⟩
  · have n0 := c0
    replace c0 := eq_false_of_ne_true c0
    by_cases c1 : (decide (x3 > x1) : Bool) = true
    · skip
      have hF : F11 x0 x1 x2 x3 = (false) := by unfold F11; rw [if_neg n0, if_pos c1]
      rw [hF]
      unfold P11 at h
      rw [if_neg n0, if_pos c1] at h
      exact leaf0 good0 (F := Tryz.f11) (n := 400) (ds := [Dec.test false, Dec.test false, Dec.test false, Dec.test false, Dec.test false, Dec.test true]) (u := V.bool false) (ps := [(decide (x3 < x0)) = false, (decide (x3 < x0)) = false, (decide (x3 < x0)) = false, (decide (x3 < x0)) = false, (decide (x3 < x0)) = false, (decide (x3 > x1)) = true]) (by kernel_rfl) (by kernel_rfl) (by kernel_rfl) ⟨c0, c0, c0, c0, c0, c1, trivial⟩
    · have n1 := c1
      replace c1 := eq_false_of_ne_true c1
      by_cases c2 : (x2 == Int.ofNat 0 : Bool) = true
      · skip
        have hF : F11 x0 x1 x2 x3 = (true) := by unfold F11; rw [if_neg n0, if_neg n1, if_pos c2]
        rw [hF]
        unfold P11 at h
        rw [if_neg n0, if_neg n1, if_pos c2] at h
        exact leaf0 good0 (F := Tryz.f11) (n := 400) (ds := [Dec.test false, Dec.test false, Dec.test false, Dec.test false, Dec.test false, Dec.test false, Dec.test true, Dec.test true, Dec.test true, Dec.test true, Dec.test true, Dec.test true, Dec.test true, Dec.test true, Dec.test true]) (u := V.bool true) (ps := [(decide (x3 < x0)) = false, (decide (x3 < x0)) = false, (decide (x3 < x0)) = false, (decide (x3 < x0)) = false, (decide (x3 < x0)) = false, (decide (x3 > x1)) = false, (x2 == Int.ofNat 0) = true, (x2 == Int.ofNat 0) = true, (x2 == Int.ofNat 0) = true, (x2 == Int.ofNat 0) = true, (x2 == Int.ofNat 0) = true, (x2 == Int.ofNat 0) = true, (x2 == Int.ofNat 0) = true, (x2 == Int.ofNat 0) = true, (x2 == Int.ofNat 0) = true]) (by kernel_rfl) (by kernel_rfl) (by kernel_rfl) ⟨c0, c0, c0, c0, c0, c1, c2, c2, c2, c2, c2, c2, c2, c2, c2, trivial⟩
      · have n2 := c2
        replace c2 := eq_false_of_ne_true c2
        have hF : F11 x0 x1 x2 x3 = ((wr IntKind.i64 (x3 - x0)).tmod x2 == Int.ofNat 0) := by unfold F11; rw [if_neg n0, if_neg n1, if_neg n2]
        rw [hF]
        unfold P11 at h
        rw [if_neg n0, if_neg n1, if_neg n2] at h
        obtain ⟨q0, _⟩ := bs_of h
        exact leaf0 good0 (F := Tryz.f11) (n := 400) (ds := [Dec.test false, Dec.test false, Dec.test false, Dec.test false, Dec.test false, Dec.test false, Dec.test false, Dec.test false, Dec.test false, Dec.test false, Dec.test false, Dec.test false, Dec.test false, Dec.test false, Dec.test false]) (u := V.bool ((wr IntKind.i64 (x3 - x0)).tmod x2 == Int.ofNat 0)) (ps := [(decide (x3 < x0)) = false, (decide (x3 < x0)) = false, (decide (x3 < x0)) = false, (decide (x3 < x0)) = false, (decide (x3 < x0)) = false, (decide (x3 > x1)) = false, (x2 == Int.ofNat 0) = false, (x2 == Int.ofNat 0) = false, (x2 == Int.ofNat 0) = false, (x2 == Int.ofNat 0) = false, (x2 == Int.ofNat 0) = false, (x2 == Int.ofNat 0) = false, (x2 == Int.ofNat 0) = false, (!x2 == Int.ofNat 0) = true, (x2 == Int.ofNat 0) = false, (x2 == Int.ofNat 0) = false]) (by kernel_rfl) (by kernel_rfl) (by kernel_rfl) ⟨c0, c0, c0, c0, c0, c1, c2, c2, c2, c2, c2, c2, c2, q0, c2, c2, trivial⟩
def F14 (x0 : Int) : Int × Int × Int := (Int.ofNat 1, Int.ofNat 0, x0)
def P14 (x0 : Int) : Bool := allB []
theorem con14 (x0 : Int) (h : P14 x0 = true) : Con0 E0 14 [V.int IntKind.i32 x0] [] (V.agg [V.int IntKind.i64 (F14 x0).1, V.int IntKind.i64 (F14 x0).2.1, V.int IntKind.i32 (F14 x0).2.2]) [] := by
  have hF : F14 x0 = (Int.ofNat 1, Int.ofNat 0, x0) := by unfold F14; rfl
  rw [hF]
  unfold P14 at h
  exact leaf0 good0 (F := Tryz.f14) (n := 400) (ds := []) (u := V.agg [V.int IntKind.i64 (Int.ofNat 1), V.int IntKind.i64 (Int.ofNat 0), V.int IntKind.i32 x0]) (ps := []) (by kernel_rfl) (by kernel_rfl) (by kernel_rfl) trivial
def F15 (x0 : Int) : Int × Int × Int := (Int.ofNat 2, x0, Int.ofNat 0)
def P15 (x0 : Int) : Bool := allB []
theorem con15 (x0 : Int) (h : P15 x0 = true) : Con0 E0 15 [V.int IntKind.i64 x0] [] (V.agg [V.int IntKind.i64 (F15 x0).1, V.int IntKind.i64 (F15 x0).2.1, V.int IntKind.i32 (F15 x0).2.2]) [] := by
  have hF : F15 x0 = (Int.ofNat 2, x0, Int.ofNat 0) := by unfold F15; rfl
  rw [hF]
  unfold P15 at h
  exact leaf0 good0 (F := Tryz.f15) (n := 400) (ds := []) (u := V.agg [V.int IntKind.i64 (Int.ofNat 2), V.int IntKind.i64 x0, V.int IntKind.i32 (Int.ofNat 0)]) (ps := []) (by kernel_rfl) (by kernel_rfl) (by kernel_rfl) trivial
def F24 (x0 : Int) (x1 : Int) (x2 : Int) : Int × Int × Int := (if (x0 == x1 : Bool) = true then (x0, x0, Int.ofNat 0) else (x0, x1, x2))
def P24 (x0 : Int) (x1 : Int) (x2 : Int) : Bool := (if (x0 == x1 : Bool) = true then allB [] else allB [])
theorem con24 (x0 : Int) (x1 : Int) (x2 : Int) (h : P24 x0 x1 x2 = true) : Con0 E0 24 [V.int IntKind.i64 x0, V.int IntKind.i64 x1, V.int IntKind.i64 x2] [] (V.agg [V.int IntKind.i64 (F24 x0 x1 x2).1, V.int IntKind.i64 (F24 x0 x1 x2).2.1, V.int IntKind.i64 (F24 x0 x1 x2).2.2]) [] := by
  by_cases c0 : (x0 == x1 : Bool) = true
  · skip
    have hF : F24 x0 x1 x2 = (x0, x0, Int.ofNat 0) := by unfold F24; rw [if_pos c0]
    rw [hF]
    unfold P24 at h
    rw [if_pos c0] at h
    exact leaf0 good0 (F := Tryz.f24) (n := 400) (ds := [Dec.test true]) (u := V.agg [V.int IntKind.i64 x0, V.int IntKind.i64 x0, V.int IntKind.i64 (Int.ofNat 0)]) (ps := [(x0 == x1) = true]) (by kernel_rfl) (by kernel_rfl) (by kernel_rfl) ⟨c0, trivial⟩
  · have n0 := c0
    replace c0 := eq_false_of_ne_true c0
    have hF : F24 x0 x1 x2 = (x0, x1, x2) := by unfold F24; rw [if_neg n0]
    rw [hF]
    unfold P24 at h
    rw [if_neg n0] at h
    exact leaf0 good0 (F := Tryz.f24) (n := 400) (ds := [Dec.test false]) (u := V.agg [V.int IntKind.i64 x0, V.int IntKind.i64 x1, V.int IntKind.i64 x2]) (ps := [(x0 == x1) = false]) (by kernel_rfl) (by kernel_rfl) (by kernel_rfl) ⟨c0, trivial⟩
def F25  : Bool × Int × Int × Int × Int × Int × Int := (true, Int.ofNat 0, Int.ofNat 0, Int.ofNat 0, Int.ofNat 0, Int.ofNat 0, Int.ofNat 0)
def P25  : Bool := allB []
theorem con25  (h : P25  = true) : Con0 E0 25 [] [] (V.agg [V.bool (F25 ).1, V.int IntKind.i64 (F25 ).2.1, V.int IntKind.i64 (F25 ).2.2.1, V.int IntKind.i64 (F25 ).2.2.2.1, V.int IntKind.i64 (F25 ).2.2.2.2.1, V.int IntKind.i64 (F25 ).2.2.2.2.2.1, V.int IntKind.i64 (F25 ).2.2.2.2.2.2]) [] := by
  have hF : F25  = (true, Int.ofNat 0, Int.ofNat 0, Int.ofNat 0, Int.ofNat 0, Int.ofNat 0, Int.ofNat 0) := by unfold F25; rfl
  rw [hF]
  unfold P25 at h
  exact leaf0 good0 (F := Tryz.f25) (n := 400) (ds := []) (u := V.agg [V.bool true, V.int IntKind.i64 (Int.ofNat 0), V.int IntKind.i64 (Int.ofNat 0), V.int IntKind.i64 (Int.ofNat 0), V.int IntKind.i64 (Int.ofNat 0), V.int IntKind.i64 (Int.ofNat 0), V.int IntKind.i64 (Int.ofNat 0)]) (ps := []) (by kernel_rfl) (by kernel_rfl) (by kernel_rfl) trivial
def F27 (x0 : Int) : Bool := (if (decide (x0 ≥ Int.negSucc 2147483647) : Bool) = true then (decide (x0 ≤ Int.ofNat 2147483648)) else (false))
def P27 (x0 : Int) : Bool := (if (decide (x0 ≥ Int.negSucc 2147483647) : Bool) = true then allB [] else allB [])
theorem con27 (x0 : Int) (h : P27 x0 = true) : Con0 E0 27 [V.int IntKind.i64 x0] [] (V.bool (F27 x0)) [] := by
  by_cases c0 : (decide (x0 ≥ Int.negSucc 2147483647) : Bool) = true
  · skip
    have hF : F27 x0 = (decide (x0 ≤ Int.ofNat 2147483648)) := by unfold F27; rw [if_pos c0]
    rw [hF]
    unfold P27 at h
    rw [if_pos c0] at h
    exact leaf0 good0 (F := Tryz.f27) (n := 400) (ds := [Dec.test true, Dec.test true, Dec.test true]) (u := V.bool (decide (x0 ≤ Int.ofNat 2147483648))) (ps := [(decide (x0 ≥ Int.negSucc 2147483647)) = true, (decide (x0 ≥ Int.negSucc 2147483647)) = true, (decide (x0 ≥ Int.negSucc 2147483647)) = true]) (by kernel_rfl) (by kernel_rfl) (by kernel_rfl) ⟨c0, c0, c0, trivial⟩
  · have n0 := c0
    replace c0 := eq_false_of_ne_true c0
    have hF : F27 x0 = (false) := by unfold F27; rw [if_neg n0]
    rw [hF]
    unfold P27 at h
    rw [if_neg n0] at h
    exact leaf0 good0 (F := Tryz.f27) (n := 400) (ds := [Dec.test false, Dec.test false, Dec.test false]) (u := V.bool false) (ps := [(decide (x0 ≥ Int.negSucc 2147483647)) = false, (decide (x0 ≥ Int.negSucc 2147483647)) = false, (decide (x0 ≥ Int.negSucc 2147483647)) = false]) (by kernel_rfl) (by kernel_rfl) (by kernel_rfl) ⟨c0, c0, c0, trivial⟩
def F29 (x0 : Int) (x1 : Int) (x2 : Int) (x3 : Bool) : Bool := (if (x3 : Bool) = true then (if (decide (x0 ≥ Int.negSucc 2147483647) : Bool) = true then (decide (x1 < Int.ofNat 2147483648)) else (false)) else (false))
def P29 (x0 : Int) (x1 : Int) (x2 : Int) (x3 : Bool) : Bool := (if (x3 : Bool) = true then (if (decide (x0 ≥ Int.negSucc 2147483647) : Bool) = true then allB [] else allB []) else allB [])
theorem con29 (x0 : Int) (x1 : Int) (x2 : Int) (x3 : Bool) (h : P29 x0 x1 x2 x3 = true) : Con0 E0 29 [V.agg [V.int IntKind.i64 x0, V.int IntKind.i64 x1, V.int IntKind.i64 x2, V.bool x3]] [] (V.bool (F29 x0 x1 x2 x3)) [] := by
  by_cases c0 : (x3 : Bool) = true
  · skip
    by_cases c1 : (decide (x0 ≥ Int.negSucc 2147483647) : Bool) = true
    · skip
      have hF : F29 x0 x1 x2 x3 = (decide (x1 < Int.ofNat 2147483648)) := by unfold F29; rw [if_pos c0, if_pos c1]
      rw [hF]
      unfold P29 at h
      rw [if_pos c0, if_pos c1] at h
      exact leaf0 good0 (F := Tryz.f29) (n := 400) (ds := [Dec.test true, Dec.test true, Dec.test true, Dec.test true, Dec.test true, Dec.test true, Dec.test true, Dec.test true, Dec.test true, Dec.test true]) (u := V.bool (decide (x1 < Int.ofNat 2147483648))) (ps := [(x3) = true, (x3) = true, (x3) = true, (x3) = true, (x3) = true, (decide (x0 ≥ Int.negSucc 2147483647)) = true, (decide (x0 ≥ Int.negSucc 2147483647)) = true, (decide (x0 ≥ Int.negSucc 2147483647)) = true, (decide (x0 ≥ Int.negSucc 2147483647)) = true, (decide (x0 ≥ Int.negSucc 2147483647)) = true]) (by kernel_rfl) (by kernel_rfl) (by kernel_rfl) ⟨c0, c0, c0, c0, c0, c1, c1, c1, c1, c1, trivial⟩
    · have n1 := c1
      replace c1 := eq_false_of_ne_true c1
      have hF : F29 x0 x1 x2 x3 = (false) := by unfold F29; rw [if_pos c0, if_neg n1]
      rw [hF]
      unfold P29 at h
      rw [if_pos c0, if_neg n1] at h
      exact leaf0 good0 (F := Tryz.f29) (n := 400) (ds := [Dec.test true, Dec.test true, Dec.test true, Dec.test true, Dec.test true, Dec.test false, Dec.test false, Dec.test false, Dec.test false, Dec.test false]) (u := V.bool false) (ps := [(x3) = true, (x3) = true, (x3) = true, (x3) = true, (x3) = true, (decide (x0 ≥ Int.negSucc 2147483647)) = false, (decide (x0 ≥ Int.negSucc 2147483647)) = false, (decide (x0 ≥ Int.negSucc 2147483647)) = false, (decide (x0 ≥ Int.negSucc 2147483647)) = false, (decide (x0 ≥ Int.negSucc 2147483647)) = false]) (by kernel_rfl) (by kernel_rfl) (by kernel_rfl) ⟨c0, c0, c0, c0, c0, c1, c1, c1, c1, c1, trivial⟩
  · have n0 := c0
    replace c0 := eq_false_of_ne_true c0
    have hF : F29 x0 x1 x2 x3 = (false) := by unfold F29; rw [if_neg n0]
    rw [hF]
    unfold P29 at h
    rw [if_neg n0] at h
    exact leaf0 good0 (F := Tryz.f29) (n := 400) (ds := [Dec.test false, Dec.test false, Dec.test false, Dec.test false, Dec.test false, Dec.lit, Dec.lit, Dec.lit, Dec.lit, Dec.lit]) (u := V.bool false) (ps := [(x3) = false, (x3) = false, (x3) = false, (x3) = false, (x3) = false]) (by kernel_rfl) (by kernel_rfl) (by kernel_rfl) ⟨c0, c0, c0, c0, c0, trivial⟩
def F32 (x0 : Int) (x1 : Int) (x2 : Int) (x3 : Int) : Bool := (if (decide (x0 ≤ x3) : Bool) = true then (if (decide (x3 ≤ x1) : Bool) = true then (if (x3 == x0 : Bool) = true then (true) else ((wr IntKind.i64 (x3 - x0)).tmod x2 == Int.ofNat 0)) else (false)) else (false))
def P32 (x0 : Int) (x1 : Int) (x2 : Int) (x3 : Int) : Bool := (if (decide (x0 ≤ x3) : Bool) = true then (if (decide (x3 ≤ x1) : Bool) = true then (if (x3 == x0 : Bool) = true then allB [] else allB [!x2 == Int.ofNat 0]) else allB []) else allB [])
theorem con32 (x0 : Int) (x1 : Int) (x2 : Int) (x3 : Int) (h : P32 x0 x1 x2 x3 = true) : Con0 E0 32 [V.agg [V.int IntKind.i64 x0, V.int IntKind.i64 x1, V.int IntKind.i64 x2], V.int IntKind.i64 x3] [] (V.bool (F32 x0 x1 x2 x3)) [] := by
  by_cases c0 : (decide (x0 ≤ x3) : Bool) = true
  · skip
    by_cases c1 : (decide (x3 ≤ x1) : Bool) = true
    · skip
      by_cases c2 : (x3 == x0 : Bool) = true
      · skip
        have hF : F32 x0 x1 x2 x3 = (true) := by unfold F32; rw [if_pos c0, if_pos c1, if_pos c2]
        rw [hF]
        unfold P32 at h
        rw [if_pos c0, if_pos c1, if_pos c2] at h
        exact leaf0 good0 (F := Tryz.f32) (n := 400) (ds := [Dec.test true, Dec.test true, Dec.test true, Dec.test true, Dec.test true, Dec.test true, Dec.test true, Dec.test true, Dec.test true, Dec.test true, Dec.test true, Dec.test true, Dec.test true, Dec.test true, Dec.test true, Dec.test true, Dec.test true, Dec.test true, Dec.test true, Dec.test true, Dec.test true]) (u := V.bool true) (ps := [(decide (x0 ≤ x3)) = true, (decide (x0 ≤ x3)) = true, (decide (x0 ≤ x3)) = true, (decide (x0 ≤ x3)) = true, (decide (x0 ≤ x3)) = true, (decide (x3 ≤ x1)) = true, (decide (x3 ≤ x1)) = true, (decide (x3 ≤ x1)) = true, (decide (x3 ≤ x1)) = true, (decide (x3 ≤ x1)) = true, (x3 == x0) = true, (x3 == x0) = true, (x3 == x0) = true, (x3 == x0) = true, (x3 == x0) = true, (x3 == x0) = true, (x3 == x0) = true, (x3 == x0) = true, (decide (x3 ≤ x1)) = true, (x3 == x0) = true, (decide (x3 ≤ x1)) = true]) (by kernel_rfl) (by kernel_rfl) (by kernel_rfl) ⟨c0, c0, c0, c0, c0, c1, c1, c1, c1, c1, c2, c2, c2, c2, c2, c2, c2, c2, c1, c2, c1, trivial⟩
      · have n2 := c2
        replace c2 := eq_false_of_ne_true c2
        have hF : F32 x0 x1 x2 x3 = ((wr IntKind.i64 (x3 - x0)).tmod x2 == Int.ofNat 0) := by unfold F32; rw [if_pos c0, if_pos c1, if_neg n2]
        rw [hF]
        unfold P32 at h
        rw [if_pos c0, if_pos c1, if_neg n2] at h
        obtain ⟨q0, _⟩ := bs_of h
        exact leaf0 good0 (F := Tryz.f32) (n := 400) (ds := [Dec.test true, Dec.test true, Dec.test true, Dec.test true, Dec.test true, Dec.test true, Dec.test true, Dec.test true, Dec.test true, Dec.test true, Dec.test false, Dec.test false, Dec.test false, Dec.test false, Dec.test false, Dec.test false, Dec.test false, Dec.test false, Dec.test true, Dec.test false, Dec.test true]) (u := V.bool ((wr IntKind.i64 (x3 - x0)).tmod x2 == Int.ofNat 0)) (ps := [(decide (x0 ≤ x3)) = true, (decide (x0 ≤ x3)) = true, (decide (x0 ≤ x3)) = true, (decide (x0 ≤ x3)) = true, (decide (x0 ≤ x3)) = true, (decide (x3 ≤ x1)) = true, (decide (x3 ≤ x1)) = true, (decide (x3 ≤ x1)) = true, (decide (x3 ≤ x1)) = true, (decide (x3 ≤ x1)) = true, (x3 == x0) = false, (x3 == x0) = false, (x3 == x0) = false, (x3 == x0) = false, (x3 == x0) = false, (x3 == x0) = false, (x3 == x0) = false, (!x2 == Int.ofNat 0) = true, (x3 == x0) = false, (decide (x3 ≤ x1)) = true, (x3 == x0) = false, (decide (x3 ≤ x1)) = true]) (by kernel_rfl) (by kernel_rfl) (by kernel_rfl) ⟨c0, c0, c0, c0, c0, c1, c1, c1, c1, c1, c2, c2, c2, c2, c2, c2, c2, q0, c2, c1, c2, c1, trivial⟩
    · have n1 := c1
      replace c1 := eq_false_of_ne_true c1
      have hF : F32 x0 x1 x2 x3 = (false) := by unfold F32; rw [if_pos c0, if_neg n1]
      rw [hF]
      unfold P32 at h
      rw [if_pos c0, if_neg n1] at h
      exact leaf0 good0 (F := Tryz.f32) (n := 400) (ds := [Dec.test true, Dec.test true, Dec.test true, Dec.test true, Dec.test true, Dec.test false, Dec.test false, Dec.test false, Dec.test false, Dec.test false, Dec.test false, Dec.test false]) (u := V.bool false) (ps := [(decide (x0 ≤ x3)) = true, (decide (x0 ≤ x3)) = true, (decide (x0 ≤ x3)) = true, (decide (x0 ≤ x3)) = true, (decide (x0 ≤ x3)) = true, (decide (x3 ≤ x1)) = false, (decide (x3 ≤ x1)) = false, (decide (x3 ≤ x1)) = false, (decide (x3 ≤ x1)) = false, (decide (x3 ≤ x1)) = false, (decide (x3 ≤ x1)) = false, (decide (x3 ≤ x1)) = false]) (by kernel_rfl) (by kernel_rfl) (by kernel_rfl) ⟨c0, c0, c0, c0, c0, c1, c1, c1, c1, c1, c1, c1, trivial⟩
  · have n0 := c0
    replace c0 := eq_false_of_ne_true c0
    have hF : F32 x0 x1 x2 x3 = (false) := by unfold F32; rw [if_neg n0]
    rw [hF]
    unfold P32 at h
    rw [if_neg n0] at h
    exact leaf0 good0 (F := Tryz.f32) (n := 400) (ds := [Dec.test false, Dec.test false, Dec.test false, Dec.test false, Dec.test false, Dec.lit, Dec.lit, Dec.lit, Dec.lit, Dec.lit, Dec.lit, Dec.lit]) (u := V.bool false) (ps := [(decide (x0 ≤ x3)) = false, (decide (x0 ≤ x3)) = false, (decide (x0 ≤ x3)) = false, (decide (x0 ≤ x3)) = false, (decide (x0 ≤ x3)) = false]) (by kernel_rfl) (by kernel_rfl) (by kernel_rfl) ⟨c0, c0, c0, c0, c0, trivial⟩
def F43 (x0 : Int) : Bool × Int × Int × Int × Int × Int × Int := (false, Int.ofNat 0, Int.ofNat 0, Int.ofNat 0, x0, x0, Int.ofNat 0)
def P43 (x0 : Int) : Bool := allB []
theorem con43 (x0 : Int) (h : P43 x0 = true) : Con0 E0 43 [V.int IntKind.i64 x0] [] (V.agg [V.bool (F43 x0).1, V.int IntKind.i64 (F43 x0).2.1, V.int IntKind.i64 (F43 x0).2.2.1, V.int IntKind.i64 (F43 x0).2.2.2.1, V.int IntKind.i64 (F43 x0).2.2.2.2.1, V.int IntKind.i64 (F43 x0).2.2.2.2.2.1, V.int IntKind.i64 (F43 x0).2.2.2.2.2.2]) [] := by
  have hF : F43 x0 = (false, Int.ofNat 0, Int.ofNat 0, Int.ofNat 0, x0, x0, Int.ofNat 0) := by unfold F43; rfl
  rw [hF]
  unfold P43 at h
  exact leaf0 good0 (F := Tryz.f43) (n := 400) (ds := []) (u := V.agg [V.bool false, V.int IntKind.i64 (Int.ofNat 0), V.int IntKind.i64 (Int.ofNat 0), V.int IntKind.i64 (Int.ofNat 0), V.int IntKind.i64 x0, V.int IntKind.i64 x0, V.int IntKind.i64 (Int.ofNat 0)]) (ps := []) (by kernel_rfl) (by kernel_rfl) (by kernel_rfl) trivial
def F44  : Bool × Int × Int × Int × Int × Int × Int := (true, Int.ofNat 0, Int.ofNat 0, Int.ofNat 0, Int.ofNat 0, Int.ofNat 0, Int.ofNat 0)
def P44  : Bool := allB []
theorem con44  (h : P44  = true) : Con0 E0 44 [] [] (V.agg [V.bool (F44 ).1, V.int IntKind.i64 (F44 ).2.1, V.int IntKind.i64 (F44 ).2.2.1, V.int IntKind.i64 (F44 ).2.2.2.1, V.int IntKind.i64 (F44 ).2.2.2.2.1, V.int IntKind.i64 (F44 ).2.2.2.2.2.1, V.int IntKind.i64 (F44 ).2.2.2.2.2.2]) [] := by
  have hF : F44  = (true, Int.ofNat 0, Int.ofNat 0, Int.ofNat 0, Int.ofNat 0, Int.ofNat 0, Int.ofNat 0) := by unfold F44; rfl
  rw [hF]
  unfold P44 at h
  exact leaf0 good0 (F := Tryz.f44) (n := 400) (ds := []) (u := V.agg [V.bool true, V.int IntKind.i64 (Int.ofNat 0), V.int IntKind.i64 (Int.ofNat 0), V.int IntKind.i64 (Int.ofNat 0), V.int IntKind.i64 (Int.ofNat 0), V.int IntKind.i64 (Int.ofNat 0), V.int IntKind.i64 (Int.ofNat 0)]) (ps := []) (by kernel_rfl) (by kernel_rfl) (by kernel_rfl) trivial
def F54 (x0 : Int) : Int × Int × Int := (x0, x0, Int.ofNat 0)
def P54 (x0 : Int) : Bool := allB []
theorem con54 (x0 : Int) (h : P54 x0 = true) : Con0 E0 54 [V.int IntKind.i64 x0] [] (V.agg [V.int IntKind.i64 (F54 x0).1, V.int IntKind.i64 (F54 x0).2.1, V.int IntKind.i64 (F54 x0).2.2]) [] := by
  have hF : F54 x0 = (x0, x0, Int.ofNat 0) := by unfold F54; rfl
  rw [hF]
  unfold P54 at h
  exact leaf0 good0 (F := Tryz.f54) (n := 400) (ds := []) (u := V.agg [V.int IntKind.i64 x0, V.int IntKind.i64 x0, V.int IntKind.i64 (Int.ofNat 0)]) (ps := []) (by kernel_rfl) (by kernel_rfl) (by kernel_rfl) trivial
def F74 (x0 : Bool) (x1 : Int) (x2 : Int) (x3 : Int) (x4 : Int) (x5 : Int) (x6 : Int) : Bool := (if (decide ((if x3 < if x2 < x1 then x2 else x1 then x3 else if x2 < x1 then x2 else x1) ≥ Int.negSucc 2147483647) : Bool) = true then (decide ((if x3 > if x2 > x1 then x2 else x1 then x3 else if x2 > x1 then x2 else x1) ≤ Int.ofNat 2147483648)) else (false))
def P74 (x0 : Bool) (x1 : Int) (x2 : Int) (x3 : Int) (x4 : Int) (x5 : Int) (x6 : Int) : Bool := (if (decide ((if x3 < if x2 < x1 then x2 else x1 then x3 else if x2 < x1 then x2 else x1) ≥ Int.negSucc 2147483647) : Bool) = true then allB [] else allB [])
theorem con74 (x0 : Bool) (x1 : Int) (x2 : Int) (x3 : Int) (x4 : Int) (x5 : Int) (x6 : Int) (h : P74 x0 x1 x2 x3 x4 x5 x6 = true) : Con0 E0 74 [V.agg [V.bool x0, V.int IntKind.i64 x1, V.int IntKind.i64 x2, V.int IntKind.i64 x3, V.int IntKind.i64 x4, V.int IntKind.i64 x5, V.int IntKind.i64 x6]] [] (V.bool (F74 x0 x1 x2 x3 x4 x5 x6)) [] := by
  by_cases c0 : (decide ((if x3 < if x2 < x1 then x2 else x1 then x3 else if x2 < x1 then x2 else x1) ≥ Int.negSucc 2147483647) : Bool) = true
  · skip
    have hF : F74 x0 x1 x2 x3 x4 x5 x6 = (decide ((if x3 > if x2 > x1 then x2 else x1 then x3 else if x2 > x1 then x2 else x1) ≤ Int.ofNat 2147483648)) := by unfold F74; rw [if_pos c0]
    rw [hF]
    unfold P74 at h
    rw [if_pos c0] at h
    exact leaf0 good0 (F := Tryz.f74) (n := 400) (ds := [Dec.test true, Dec.test true, Dec.test true, Dec.test true, Dec.test true, Dec.test true, Dec.test true, Dec.test true, Dec.test true]) (u := V.bool (decide ((if x3 > if x2 > x1 then x2 else x1 then x3 else if x2 > x1 then x2 else x1) ≤ Int.ofNat 2147483648))) (ps := [(decide ((if x3 < if x2 < x1 then x2 else x1 then x3 else if x2 < x1 then x2 else x1) ≥ Int.negSucc 2147483647)) = true, (decide ((if x3 < if x2 < x1 then x2 else x1 then x3 else if x2 < x1 then x2 else x1) ≥ Int.negSucc 2147483647)) = true, (decide ((if x3 < if x2 < x1 then x2 else x1 then x3 else if x2 < x1 then x2 else x1) ≥ Int.negSucc 2147483647)) = true, (decide ((if x3 < if x2 < x1 then x2 else x1 then x3 else if x2 < x1 then x2 else x1) ≥ Int.negSucc 2147483647)) = true, (decide ((if x3 < if x2 < x1 then x2 else x1 then x3 else if x2 < x1 then x2 else x1) ≥ Int.negSucc 2147483647)) = true, (decide ((if x3 < if x2 < x1 then x2 else x1 then x3 else if x2 < x1 then x2 else x1) ≥ Int.negSucc 2147483647)) = true, (decide ((if x3 < if x2 < x1 then x2 else x1 then x3 else if x2 < x1 then x2 else x1) ≥ Int.negSucc 2147483647)) = true, (decide ((if x3 < if x2 < x1 then x2 else x1 then x3 else if x2 < x1 then x2 else x1) ≥ Int.negSucc 2147483647)) = true, (decide ((if x3 < if x2 < x1 then x2 else x1 then x3 else if x2 < x1 then x2 else x1) ≥ Int.negSucc 2147483647)) = true]) (by kernel_rfl) (by kernel_rfl) (by kernel_rfl) ⟨c0, c0, c0, c0, c0, c0, c0, c0, c0, trivial⟩
  · have n0 := c0
    replace c0 := eq_false_of_ne_true c0
    have hF : F74 x0 x1 x2 x3 x4 x5 x6 = (false) := by unfold F74; rw [if_neg n0]
    rw [hF]
    unfold P74 at h
    rw [if_neg n0] at h
    exact leaf0 good0 (F := Tryz.f74) (n := 400) (ds := [Dec.test false, Dec.test false, Dec.test false, Dec.test false, Dec.test false, Dec.test false, Dec.test false, Dec.test false, Dec.test false]) (u := V.bool false) (ps := [(decide ((if x3 < if x2 < x1 then x2 else x1 then x3 else if x2 < x1 then x2 else x1) ≥ Int.negSucc 2147483647)) = false, (decide ((if x3 < if x2 < x1 then x2 else x1 then x3 else if x2 < x1 then x2 else x1) ≥ Int.negSucc 2147483647)) = false, (decide ((if x3 < if x2 < x1 then x2 else x1 then x3 else if x2 < x1 then x2 else x1) ≥ Int.negSucc 2147483647)) = false, (decide ((if x3 < if x2 < x1 then x2 else x1 then x3 else if x2 < x1 then x2 else x1) ≥ Int.negSucc 2147483647)) = false, (decide ((if x3 < if x2 < x1 then x2 else x1 then x3 else if x2 < x1 then x2 else x1) ≥ Int.negSucc 2147483647)) = false, (decide ((if x3 < if x2 < x1 then x2 else x1 then x3 else if x2 < x1 then x2 else x1) ≥ Int.negSucc 2147483647)) = false, (decide ((if x3 < if x2 < x1 then x2 else x1 then x3 else if x2 < x1 then x2 else x1) ≥ Int.negSucc 2147483647)) = false, (decide ((if x3 < if x2 < x1 then x2 else x1 then x3 else if x2 < x1 then x2 else x1) ≥ Int.negSucc 2147483647)) = false, (decide ((if x3 < if x2 < x1 then x2 else x1 then x3 else if x2 < x1 then x2 else x1) ≥ Int.negSucc 2147483647)) = false]) (by kernel_rfl) (by kernel_rfl) (by kernel_rfl) ⟨c0, c0, c0, c0, c0, c0, c0, c0, c0, trivial⟩
def F79  : Int := (Int.ofNat 1099511627776)
def P79  : Bool := allB []
theorem con79  (h : P79  = true) : Con0 E0 79 [] [] (V.int IntKind.i64 (F79 )) [] := by
  have hF : F79  = (Int.ofNat 1099511627776) := by unfold F79; rfl
  rw [hF]
  unfold P79 at h
  exact leaf0 good0 (F := Tryz.f79) (n := 400) (ds := []) (u := V.int IntKind.i64 (Int.ofNat 1099511627776)) (ps := []) (by kernel_rfl) (by kernel_rfl) (by kernel_rfl) trivial
def F81 (x0 : Int) : Bool := (if (decide (Int.negSucc 1099511627775 ≤ x0) : Bool) = true then (decide (x0 ≤ Int.ofNat 1099511627776)) else (false))
def P81 (x0 : Int) : Bool := (if (decide (Int.negSucc 1099511627775 ≤ x0) : Bool) = true then allB [] else allB [])
theorem con81 (x0 : Int) (h : P81 x0 = true) : Con0 E0 81 [V.int IntKind.i64 x0] [] (V.bool (F81 x0)) [] := by
  by_cases c0 : (decide (Int.negSucc 1099511627775 ≤ x0) : Bool) = true
  · skip
    have hF : F81 x0 = (decide (x0 ≤ Int.ofNat 1099511627776)) := by unfold F81; rw [if_pos c0]
    rw [hF]
    unfold P81 at h
    rw [if_pos c0] at h
    exact leaf0 good0 (F := Tryz.f81) (n := 400) (ds := [Dec.test true, Dec.test true, Dec.test true]) (u := V.bool (decide (x0 ≤ Int.ofNat 1099511627776))) (ps := [(decide (Int.negSucc 1099511627775 ≤ x0)) = true, (decide (Int.negSucc 1099511627775 ≤ x0)) = true, (decide (Int.negSucc 1099511627775 ≤ x0)) = true]) (by kernel_rfl) (by kernel_rfl) (by kernel_rfl) ⟨c0, c0, c0, trivial⟩
  · have n0 := c0
    replace c0 := eq_false_of_ne_true c0
    have hF : F81 x0 = (false) := by unfold F81; rw [if_neg n0]
    rw [hF]
    unfold P81 at h
    rw [if_neg n0] at h
    exact leaf0 good0 (F := Tryz.f81) (n := 400) (ds := [Dec.test false, Dec.test false, Dec.test false]) (u := V.bool false) (ps := [(decide (Int.negSucc 1099511627775 ≤ x0)) = false, (decide (Int.negSucc 1099511627775 ≤ x0)) = false, (decide (Int.negSucc 1099511627775 ≤ x0)) = false]) (by kernel_rfl) (by kernel_rfl) (by kernel_rfl) ⟨c0, c0, c0, trivial⟩
def F88 (x0 : Int) (x1 : Int) (x2 : Int) : Int := (if (x0 != Int.ofNat 2 : Bool) = true then (Int.negSucc 0) else (x1))
def P88 (x0 : Int) (x1 : Int) (x2 : Int) : Bool := (if (x0 != Int.ofNat 2 : Bool) = true then allB [] else allB [])
theorem con88 (x0 : Int) (x1 : Int) (x2 : Int) (h : P88 x0 x1 x2 = true) : Con0 E0 88 [V.agg [V.int IntKind.i64 x0, V.int IntKind.i64 x1, V.int IntKind.i32 x2]] [] (V.int IntKind.i64 (F88 x0 x1 x2)) [] := by
  by_cases c0 : (x0 != Int.ofNat 2 : Bool) = true
  · skip
    have hF : F88 x0 x1 x2 = (Int.negSucc 0) := by unfold F88; rw [if_pos c0]
    rw [hF]
    unfold P88 at h
    rw [if_pos c0] at h
    exact leaf0 good0 (F := Tryz.f88) (n := 400) (ds := [Dec.test true]) (u := V.int IntKind.i64 (Int.negSucc 0)) (ps := [(x0 != Int.ofNat 2) = true]) (by kernel_rfl) (by kernel_rfl) (by kernel_rfl) ⟨c0, trivial⟩
  · have n0 := c0
    replace c0 := eq_false_of_ne_true c0
    have hF : F88 x0 x1 x2 = (x1) := by unfold F88; rw [if_neg n0]
    rw [hF]
    unfold P88 at h
    rw [if_neg n0] at h
    exact leaf0 good0 (F := Tryz.f88) (n := 400) (ds := [Dec.test false]) (u := V.int IntKind.i64 x1) (ps := [(x0 != Int.ofNat 2) = false]) (by kernel_rfl) (by kernel_rfl) (by kernel_rfl) ⟨c0, trivial⟩
def F93 (x0 : Int) (x1 : Int) (x2 : Int) : Int × Int × Int := (if (x0 == x1 : Bool) = true then (x0, x1, Int.ofNat 0) else (x0, x1, x2))
def P93 (x0 : Int) (x1 : Int) (x2 : Int) : Bool := (if (x0 == x1 : Bool) = true then allB [] else allB [])
theorem con93 (x0 : Int) (x1 : Int) (x2 : Int) (h : P93 x0 x1 x2 = true) : Con0 E0 93 [V.int IntKind.i64 x0, V.int IntKind.i64 x1, V.int IntKind.i64 x2] [] (V.agg [V.int IntKind.i64 (F93 x0 x1 x2).1, V.int IntKind.i64 (F93 x0 x1 x2).2.1, V.int IntKind.i64 (F93 x0 x1 x2).2.2]) [] := by
  by_cases c0 : (x0 == x1 : Bool) = true
  · skip
    have hF : F93 x0 x1 x2 = (x0, x1, Int.ofNat 0) := by unfold F93; rw [if_pos c0]
    rw [hF]
    unfold P93 at h
    rw [if_pos c0] at h
    exact leaf0 good0 (F := Tryz.f93) (n := 400) (ds := [Dec.test true]) (u := V.agg [V.int IntKind.i64 x0, V.int IntKind.i64 x1, V.int IntKind.i64 (Int.ofNat 0)]) (ps := [(x0 == x1) = true]) (by kernel_rfl) (by kernel_rfl) (by kernel_rfl) ⟨c0, trivial⟩
  · have n0 := c0
    replace c0 := eq_false_of_ne_true c0
    have hF : F93 x0 x1 x2 = (x0, x1, x2) := by unfold F93; rw [if_neg n0]
    rw [hF]
    unfold P93 at h
    rw [if_neg n0] at h
    exact leaf0 good0 (F := Tryz.f93) (n := 400) (ds := [Dec.test false]) (u := V.agg [V.int IntKind.i64 x0, V.int IntKind.i64 x1, V.int IntKind.i64 x2]) (ps := [(x0 == x1) = false]) (by kernel_rfl) (by kernel_rfl) (by kernel_rfl) ⟨c0, trivial⟩
def F96 (x0 : Int) (x1 : Int) : Int := (if (decide (x0.tmod x1 < Int.ofNat 0) : Bool) = true then (wr IntKind.i64 (wr IntKind.i64 (x0.tdiv x1) - Int.ofNat 1)) else (wr IntKind.i64 (x0.tdiv x1)))
def P96 (x0 : Int) (x1 : Int) : Bool := (if (decide (x0.tmod x1 < Int.ofNat 0) : Bool) = true then allB [!x1 == Int.ofNat 0] else allB [!x1 == Int.ofNat 0])
theorem con96 (x0 : Int) (x1 : Int) (h : P96 x0 x1 = true) : Con0 E0 96 [V.int IntKind.i64 x0, V.int IntKind.i64 x1] [] (V.int IntKind.i64 (F96 x0 x1)) [] := by
  by_cases c0 : (decide (x0.tmod x1 < Int.ofNat 0) : Bool) = true
  · skip
    have hF : F96 x0 x1 = (wr IntKind.i64 (wr IntKind.i64 (x0.tdiv x1) - Int.ofNat 1)) := by unfold F96; rw [if_pos c0]
    rw [hF]
    unfold P96 at h
    rw [if_pos c0] at h
    obtain ⟨q0, _⟩ := bs_of h
    exact leaf0 good0 (F := Tryz.f96) (n := 400) (ds := [Dec.test true]) (u := V.int IntKind.i64 (wr IntKind.i64 (wr IntKind.i64 (x0.tdiv x1) - Int.ofNat 1))) (ps := [(!x1 == Int.ofNat 0) = true, (!x1 == Int.ofNat 0) = true, (decide (x0.tmod x1 < Int.ofNat 0)) = true]) (by kernel_rfl) (by kernel_rfl) (by kernel_rfl) ⟨q0, q0, c0, trivial⟩
  · have n0 := c0
    replace c0 := eq_false_of_ne_true c0
    have hF : F96 x0 x1 = (wr IntKind.i64 (x0.tdiv x1)) := by unfold F96; rw [if_neg n0]
    rw [hF]
    unfold P96 at h
    rw [if_neg n0] at h
    obtain ⟨q0, _⟩ := bs_of h
    exact leaf0 good0 (F := Tryz.f96) (n := 400) (ds := [Dec.test false]) (u := V.int IntKind.i64 (wr IntKind.i64 (x0.tdiv x1))) (ps := [(!x1 == Int.ofNat 0) = true, (!x1 == Int.ofNat 0) = true, (decide (x0.tmod x1 < Int.ofNat 0)) = false]) (by kernel_rfl) (by kernel_rfl) (by kernel_rfl) ⟨q0, q0, c0, trivial⟩
def F103 (x0 : Int) (x1 : Int) : Int := (x0.fdiv (pow2 IntKind.i64 x1))
def P103 (x0 : Int) (x1 : Int) : Bool := allB [decide (Int.ofNat 0 ≤ x1)]
theorem con103 (x0 : Int) (x1 : Int) (h : P103 x0 x1 = true) : Con0 E0 103 [V.int IntKind.i64 x0, V.int IntKind.u64 x1] [] (V.int IntKind.i64 (F103 x0 x1)) [] := by
  have hF : F103 x0 x1 = (x0.fdiv (pow2 IntKind.i64 x1)) := by unfold F103; rfl
  rw [hF]
  unfold P103 at h
  obtain ⟨q0, _⟩ := bs_of h
  exact leaf0 good0 (F := Tryz.f103) (n := 400) (ds := []) (u := V.int IntKind.i64 (x0.fdiv (pow2 IntKind.i64 x1))) (ps := [(decide (Int.ofNat 0 ≤ x1)) = true]) (by kernel_rfl) (by kernel_rfl) (by kernel_rfl) ⟨q0, trivial⟩
def F128 (x0 : Int) : Int := (if (decide (x0 < Int.ofNat 0) : Bool) = true then (wr IntKind.u64 (Int.ofNat 0 - wr IntKind.u64 x0)) else (wr IntKind.u64 x0))
def P128 (x0 : Int) : Bool := (if (decide (x0 < Int.ofNat 0) : Bool) = true then allB [] else allB [])
theorem con128 (x0 : Int) (h : P128 x0 = true) : Con0 E0 128 [V.int IntKind.i64 x0] [] (V.int IntKind.u64 (F128 x0)) [] := by
  by_cases c0 : (decide (x0 < Int.ofNat 0) : Bool) = true
  · skip
    have hF : F128 x0 = (wr IntKind.u64 (Int.ofNat 0 - wr IntKind.u64 x0)) := by unfold F128; rw [if_pos c0]
    rw [hF]
    unfold P128 at h
    rw [if_pos c0] at h
    exact leaf0 good0 (F := Tryz.f128) (n := 400) (ds := [Dec.test true]) (u := V.int IntKind.u64 (wr IntKind.u64 (Int.ofNat 0 - wr IntKind.u64 x0))) (ps := [(decide (x0 < Int.ofNat 0)) = true]) (by kernel_rfl) (by kernel_rfl) (by kernel_rfl) ⟨c0, trivial⟩
  · have n0 := c0
    replace c0 := eq_false_of_ne_true c0
    have hF : F128 x0 = (wr IntKind.u64 x0) := by unfold F128; rw [if_neg n0]
    rw [hF]
    unfold P128 at h
    rw [if_neg n0] at h
    exact leaf0 good0 (F := Tryz.f128) (n := 400) (ds := [Dec.test false]) (u := V.int IntKind.u64 (wr IntKind.u64 x0)) (ps := [(decide (x0 < Int.ofNat 0)) = false]) (by kernel_rfl) (by kernel_rfl) (by kernel_rfl) ⟨c0, trivial⟩
end Go.Proofs.YtomcbkfnbagekaaGreat
/- Contracts, printed by a program of this session (VP.lean). -/
set_option linter.unusedVariables false
set_option maxRecDepth 100000
namespace Go.Proofs.YtomcbkfnbagekaaGreat
open Go Go.Vm
def F7 (x0 : Int) (x1 : Int) (x2 : Int) : Int × Int × Int := ((F24 (x0.tmod (Int.ofNat 41)) (wr IntKind.i64 (x0.tmod (Int.ofNat 41) + wr IntKind.i64 (wr IntKind.i64 (wr IntKind.i64 (x1.tmod (Int.ofNat 9)) + Int.ofNat 1) * wr IntKind.i64 (x2.tmod (Int.ofNat 15))))) (wr IntKind.i64 (wr IntKind.i64 (x1.tmod (Int.ofNat 9)) + Int.ofNat 1))).fst, (F24 (x0.tmod (Int.ofNat 41)) (wr IntKind.i64 (x0.tmod (Int.ofNat 41) + wr IntKind.i64 (wr IntKind.i64 (wr IntKind.i64 (x1.tmod (Int.ofNat 9)) + Int.ofNat 1) * wr IntKind.i64 (x2.tmod (Int.ofNat 15))))) (wr IntKind.i64 (wr IntKind.i64 (x1.tmod (Int.ofNat 9)) + Int.ofNat 1))).snd.fst, (F24 (x0.tmod (Int.ofNat 41)) (wr IntKind.i64 (x0.tmod (Int.ofNat 41) + wr IntKind.i64 (wr IntKind.i64 (wr IntKind.i64 (x1.tmod (Int.ofNat 9)) + Int.ofNat 1) * wr IntKind.i64 (x2.tmod (Int.ofNat 15))))) (wr IntKind.i64 (wr IntKind.i64 (x1.tmod (Int.ofNat 9)) + Int.ofNat 1))).snd.snd)
def P7 (x0 : Int) (x1 : Int) (x2 : Int) : Bool := allB [P24 (x0.tmod (Int.ofNat 41)) (wr IntKind.i64 (x0.tmod (Int.ofNat 41) + wr IntKind.i64 (wr IntKind.i64 (wr IntKind.i64 (x1.tmod (Int.ofNat 9)) + Int.ofNat 1) * wr IntKind.i64 (x2.tmod (Int.ofNat 15))))) (wr IntKind.i64 (wr IntKind.i64 (x1.tmod (Int.ofNat 9)) + Int.ofNat 1))]
theorem con7 (x0 : Int) (x1 : Int) (x2 : Int) (h : P7 x0 x1 x2 = true) : Con0 E0 7 [V.agg [V.int IntKind.i64 x0, V.int IntKind.u32 x1, V.int IntKind.u16 x2]] [] (V.agg [V.int IntKind.i64 (F7 x0 x1 x2).1, V.int IntKind.i64 (F7 x0 x1 x2).2.1, V.int IntKind.i64 (F7 x0 x1 x2).2.2]) [] := by
  have hF : F7 x0 x1 x2 = ((F24 (x0.tmod (Int.ofNat 41)) (wr IntKind.i64 (x0.tmod (Int.ofNat 41) + wr IntKind.i64 (wr IntKind.i64 (wr IntKind.i64 (x1.tmod (Int.ofNat 9)) + Int.ofNat 1) * wr IntKind.i64 (x2.tmod (Int.ofNat 15))))) (wr IntKind.i64 (wr IntKind.i64 (x1.tmod (Int.ofNat 9)) + Int.ofNat 1))).fst, (F24 (x0.tmod (Int.ofNat 41)) (wr IntKind.i64 (x0.tmod (Int.ofNat 41) + wr IntKind.i64 (wr IntKind.i64 (wr IntKind.i64 (x1.tmod (Int.ofNat 9)) + Int.ofNat 1) * wr IntKind.i64 (x2.tmod (Int.ofNat 15))))) (wr IntKind.i64 (wr IntKind.i64 (x1.tmod (Int.ofNat 9)) + Int.ofNat 1))).snd.fst, (F24 (x0.tmod (Int.ofNat 41)) (wr IntKind.i64 (x0.tmod (Int.ofNat 41) + wr IntKind.i64 (wr IntKind.i64 (wr IntKind.i64 (x1.tmod (Int.ofNat 9)) + Int.ofNat 1) * wr IntKind.i64 (x2.tmod (Int.ofNat 15))))) (wr IntKind.i64 (wr IntKind.i64 (x1.tmod (Int.ofNat 9)) + Int.ofNat 1))).snd.snd) := by unfold F7; rfl
  rw [hF]
  unfold P7 at h
  obtain ⟨q0, _⟩ := bs_of h
  exact leaf0 good0 (F := Tryz.f7) (n := 400) (ds := [Dec.call (V.agg [V.int IntKind.i64 (F24 (x0.tmod (Int.ofNat 41)) (wr IntKind.i64 (x0.tmod (Int.ofNat 41) + wr IntKind.i64 (wr IntKind.i64 (wr IntKind.i64 (x1.tmod (Int.ofNat 9)) + Int.ofNat 1) * wr IntKind.i64 (x2.tmod (Int.ofNat 15))))) (wr IntKind.i64 (wr IntKind.i64 (x1.tmod (Int.ofNat 9)) + Int.ofNat 1))).fst, V.int IntKind.i64 (F24 (x0.tmod (Int.ofNat 41)) (wr IntKind.i64 (x0.tmod (Int.ofNat 41) + wr IntKind.i64 (wr IntKind.i64 (wr IntKind.i64 (x1.tmod (Int.ofNat 9)) + Int.ofNat 1) * wr IntKind.i64 (x2.tmod (Int.ofNat 15))))) (wr IntKind.i64 (wr IntKind.i64 (x1.tmod (Int.ofNat 9)) + Int.ofNat 1))).snd.fst, V.int IntKind.i64 (F24 (x0.tmod (Int.ofNat 41)) (wr IntKind.i64 (x0.tmod (Int.ofNat 41) + wr IntKind.i64 (wr IntKind.i64 (wr IntKind.i64 (x1.tmod (Int.ofNat 9)) + Int.ofNat 1) * wr IntKind.i64 (x2.tmod (Int.ofNat 15))))) (wr IntKind.i64 (wr IntKind.i64 (x1.tmod (Int.ofNat 9)) + Int.ofNat 1))).snd.snd]) []]) (u := V.agg [V.int IntKind.i64 (F24 (x0.tmod (Int.ofNat 41)) (wr IntKind.i64 (x0.tmod (Int.ofNat 41) + wr IntKind.i64 (wr IntKind.i64 (wr IntKind.i64 (x1.tmod (Int.ofNat 9)) + Int.ofNat 1) * wr IntKind.i64 (x2.tmod (Int.ofNat 15))))) (wr IntKind.i64 (wr IntKind.i64 (x1.tmod (Int.ofNat 9)) + Int.ofNat 1))).fst, V.int IntKind.i64 (F24 (x0.tmod (Int.ofNat 41)) (wr IntKind.i64 (x0.tmod (Int.ofNat 41) + wr IntKind.i64 (wr IntKind.i64 (wr IntKind.i64 (x1.tmod (Int.ofNat 9)) + Int.ofNat 1) * wr IntKind.i64 (x2.tmod (Int.ofNat 15))))) (wr IntKind.i64 (wr IntKind.i64 (x1.tmod (Int.ofNat 9)) + Int.ofNat 1))).snd.fst, V.int IntKind.i64 (F24 (x0.tmod (Int.ofNat 41)) (wr IntKind.i64 (x0.tmod (Int.ofNat 41) + wr IntKind.i64 (wr IntKind.i64 (wr IntKind.i64 (x1.tmod (Int.ofNat 9)) + Int.ofNat 1) * wr IntKind.i64 (x2.tmod (Int.ofNat 15))))) (wr IntKind.i64 (wr IntKind.i64 (x1.tmod (Int.ofNat 9)) + Int.ofNat 1))).snd.snd]) (ps := [(true) = true, (true) = true, (true) = true, Con0 E0 24 [V.int IntKind.i64 (x0.tmod (Int.ofNat 41)), V.int IntKind.i64 (wr IntKind.i64 (x0.tmod (Int.ofNat 41) + wr IntKind.i64 (wr IntKind.i64 (wr IntKind.i64 (x1.tmod (Int.ofNat 9)) + Int.ofNat 1) * wr IntKind.i64 (x2.tmod 15)))), V.int IntKind.i64 (wr IntKind.i64 (wr IntKind.i64 (x1.tmod (Int.ofNat 9)) + Int.ofNat 1))] [] (V.agg [V.int IntKind.i64 (F24 (x0.tmod (Int.ofNat 41)) (wr IntKind.i64 (x0.tmod (Int.ofNat 41) + wr IntKind.i64 (wr IntKind.i64 (wr IntKind.i64 (x1.tmod (Int.ofNat 9)) + Int.ofNat 1) * wr IntKind.i64 (x2.tmod 15)))) (wr IntKind.i64 (wr IntKind.i64 (x1.tmod (Int.ofNat 9)) + Int.ofNat 1))).fst, V.int IntKind.i64 (F24 (x0.tmod (Int.ofNat 41)) (wr IntKind.i64 (x0.tmod (Int.ofNat 41) + wr IntKind.i64 (wr IntKind.i64 (wr IntKind.i64 (x1.tmod (Int.ofNat 9)) + Int.ofNat 1) * wr IntKind.i64 (x2.tmod 15)))) (wr IntKind.i64 (wr IntKind.i64 (x1.tmod (Int.ofNat 9)) + Int.ofNat 1))).snd.fst, V.int IntKind.i64 (F24 (x0.tmod (Int.ofNat 41)) (wr IntKind.i64 (x0.tmod (Int.ofNat 41) + wr IntKind.i64 (wr IntKind.i64 (wr IntKind.i64 (x1.tmod (Int.ofNat 9)) + Int.ofNat 1) * wr IntKind.i64 (x2.tmod 15)))) (wr IntKind.i64 (wr IntKind.i64 (x1.tmod (Int.ofNat 9)) + Int.ofNat 1))).snd.snd]) []]) (by kernel_rfl) (by kernel_rfl) (by kernel_rfl) ⟨rfl, rfl, rfl, con24 (x0.tmod (Int.ofNat 41)) (wr IntKind.i64 (x0.tmod (Int.ofNat 41) + wr IntKind.i64 (wr IntKind.i64 (wr IntKind.i64 (x1.tmod (Int.ofNat 9)) + Int.ofNat 1) * wr IntKind.i64 (x2.tmod 15)))) (wr IntKind.i64 (wr IntKind.i64 (x1.tmod (Int.ofNat 9)) + Int.ofNat 1)) q0, trivial⟩
def F10 (x0 : Bool) (x1 : Int) (x2 : Int) (x3 : Int) (x4 : Int) (x5 : Int) (x6 : Int) (x7 : Int) (x8 : Int) (x9 : Int) (x10 : Int) : Bool := (if (x0 : Bool) = true then (true) else (F32 x4 x5 x6 (wr IntKind.i64 (wr IntKind.i64 (wr IntKind.i64 (wr IntKind.i64 x10 - wr IntKind.i64 (x1 * x7)) - wr IntKind.i64 (x2 * x8)) - wr IntKind.i64 (x3 * x9)))))
def P10 (x0 : Bool) (x1 : Int) (x2 : Int) (x3 : Int) (x4 : Int) (x5 : Int) (x6 : Int) (x7 : Int) (x8 : Int) (x9 : Int) (x10 : Int) : Bool := (if (x0 : Bool) = true then allB [] else allB [P32 x4 x5 x6 (wr IntKind.i64 (wr IntKind.i64 (wr IntKind.i64 (wr IntKind.i64 x10 - wr IntKind.i64 (x1 * x7)) - wr IntKind.i64 (x2 * x8)) - wr IntKind.i64 (x3 * x9)))])
theorem con10 (x0 : Bool) (x1 : Int) (x2 : Int) (x3 : Int) (x4 : Int) (x5 : Int) (x6 : Int) (x7 : Int) (x8 : Int) (x9 : Int) (x10 : Int) (h : P10 x0 x1 x2 x3 x4 x5 x6 x7 x8 x9 x10 = true) : Con0 E0 10 [V.agg [V.bool x0, V.int IntKind.i64 x1, V.int IntKind.i64 x2, V.int IntKind.i64 x3, V.int IntKind.i64 x4, V.int IntKind.i64 x5, V.int IntKind.i64 x6], V.int IntKind.i64 x7, V.int IntKind.i64 x8, V.int IntKind.i64 x9, V.int IntKind.i32 x10] [] (V.bool (F10 x0 x1 x2 x3 x4 x5 x6 x7 x8 x9 x10)) [] := by
  by_cases c0 : (x0 : Bool) = true
  · skip
    have hF : F10 x0 x1 x2 x3 x4 x5 x6 x7 x8 x9 x10 = (true) := by unfold F10; rw [if_pos c0]
    rw [hF]
    unfold P10 at h
    rw [if_pos c0] at h
    exact leaf0 good0 (F := Tryz.f10) (n := 400) (ds := [Dec.test true, Dec.test true, Dec.test true, Dec.test true, Dec.test true, Dec.test true, Dec.test true, Dec.test true, Dec.test true, Dec.test true, Dec.test true, Dec.test true, Dec.test true, Dec.test true, Dec.test true, Dec.test true, Dec.test true, Dec.test true, Dec.test true, Dec.test true, Dec.test true]) (u := V.bool true) (ps := [(x0) = true, (x0) = true, (x0) = true, (x0) = true, (x0) = true, (x0) = true, (x0) = true, (x0) = true, (x0) = true, (x0) = true, (x0) = true, (x0) = true, (x0) = true, (x0) = true, (x0) = true, (x0) = true, (x0) = true, (x0) = true, (x0) = true, (x0) = true, (x0) = true]) (by kernel_rfl) (by kernel_rfl) (by kernel_rfl) ⟨c0, c0, c0, c0, c0, c0, c0, c0, c0, c0, c0, c0, c0, c0, c0, c0, c0, c0, c0, c0, c0, trivial⟩
  · have n0 := c0
    replace c0 := eq_false_of_ne_true c0
    have hF : F10 x0 x1 x2 x3 x4 x5 x6 x7 x8 x9 x10 = (F32 x4 x5 x6 (wr IntKind.i64 (wr IntKind.i64 (wr IntKind.i64 (wr IntKind.i64 x10 - wr IntKind.i64 (x1 * x7)) - wr IntKind.i64 (x2 * x8)) - wr IntKind.i64 (x3 * x9)))) := by unfold F10; rw [if_neg n0]
    rw [hF]
    unfold P10 at h
    rw [if_neg n0] at h
    obtain ⟨q0, _⟩ := bs_of h
    exact leaf0 good0 (F := Tryz.f10) (n := 400) (ds := [Dec.test false, Dec.test false, Dec.test false, Dec.test false, Dec.test false, Dec.test false, Dec.test false, Dec.test false, Dec.test false, Dec.test false, Dec.test false, Dec.test false, Dec.test false, Dec.test false, Dec.test false, Dec.test false, Dec.test false, Dec.test false, Dec.test false, Dec.test false, Dec.call (V.bool (F32 x4 x5 x6 (wr IntKind.i64 (wr IntKind.i64 (wr IntKind.i64 (wr IntKind.i64 x10 - wr IntKind.i64 (x1 * x7)) - wr IntKind.i64 (x2 * x8)) - wr IntKind.i64 (x3 * x9))))) [], Dec.test false]) (u := V.bool (F32 x4 x5 x6 (wr IntKind.i64 (wr IntKind.i64 (wr IntKind.i64 (wr IntKind.i64 x10 - wr IntKind.i64 (x1 * x7)) - wr IntKind.i64 (x2 * x8)) - wr IntKind.i64 (x3 * x9))))) (ps := [(x0) = false, (x0) = false, (x0) = false, (x0) = false, (x0) = false, (x0) = false, (x0) = false, (x0) = false, (x0) = false, (x0) = false, (x0) = false, (x0) = false, (x0) = false, (x0) = false, (x0) = false, (x0) = false, (x0) = false, (x0) = false, (x0) = false, (x0) = false, Con0 E0 32 [V.agg [V.int IntKind.i64 x4, V.int IntKind.i64 x5, V.int IntKind.i64 x6], V.int IntKind.i64 (wr IntKind.i64 (wr IntKind.i64 (wr IntKind.i64 (wr IntKind.i64 x10 - wr IntKind.i64 (x1 * x7)) - wr IntKind.i64 (x2 * x8)) - wr IntKind.i64 (x3 * x9)))] [] (V.bool (F32 x4 x5 x6 (wr IntKind.i64 (wr IntKind.i64 (wr IntKind.i64 (wr IntKind.i64 x10 - wr IntKind.i64 (x1 * x7)) - wr IntKind.i64 (x2 * x8)) - wr IntKind.i64 (x3 * x9))))) [], (x0) = false]) (by kernel_rfl) (by kernel_rfl) (by kernel_rfl) ⟨c0, c0, c0, c0, c0, c0, c0, c0, c0, c0, c0, c0, c0, c0, c0, c0, c0, c0, c0, c0, con32 (x4) (x5) (x6) (wr IntKind.i64 (wr IntKind.i64 (wr IntKind.i64 (wr IntKind.i64 x10 - wr IntKind.i64 (x1 * x7)) - wr IntKind.i64 (x2 * x8)) - wr IntKind.i64 (x3 * x9))) q0, c0, trivial⟩
def F12 (x0 : Int) (x1 : Int) : Int × Int × Int × Int × Int × Int × Int × Int × Int × Int × Int × Int × Int × Int × Int := (Int.ofNat 5, x1, Int.ofNat 0, (F15 x0).fst, (F15 x0).snd.fst, (F15 x0).snd.snd, Int.ofNat 0, Int.ofNat 0, Int.ofNat 0, Int.ofNat 0, Int.ofNat 0, Int.ofNat 0, Int.ofNat 0, Int.ofNat 0, Int.ofNat 0)
def P12 (x0 : Int) (x1 : Int) : Bool := allB [P15 x0]
theorem con12 (x0 : Int) (x1 : Int) (h : P12 x0 x1 = true) : Con0 E0 12 [V.int IntKind.i64 x0, V.int IntKind.i64 x1] [] (V.agg [V.int IntKind.i64 (F12 x0 x1).1, V.int IntKind.i64 (F12 x0 x1).2.1, V.int IntKind.i64 (F12 x0 x1).2.2.1, V.int IntKind.i64 (F12 x0 x1).2.2.2.1, V.int IntKind.i64 (F12 x0 x1).2.2.2.2.1, V.int IntKind.i32 (F12 x0 x1).2.2.2.2.2.1, V.int IntKind.i64 (F12 x0 x1).2.2.2.2.2.2.1, V.int IntKind.i64 (F12 x0 x1).2.2.2.2.2.2.2.1, V.int IntKind.i32 (F12 x0 x1).2.2.2.2.2.2.2.2.1, V.int IntKind.i64 (F12 x0 x1).2.2.2.2.2.2.2.2.2.1, V.int IntKind.i64 (F12 x0 x1).2.2.2.2.2.2.2.2.2.2.1, V.int IntKind.i32 (F12 x0 x1).2.2.2.2.2.2.2.2.2.2.2.1, V.int IntKind.i64 (F12 x0 x1).2.2.2.2.2.2.2.2.2.2.2.2.1, V.int IntKind.i64 (F12 x0 x1).2.2.2.2.2.2.2.2.2.2.2.2.2.1, V.int IntKind.i32 (F12 x0 x1).2.2.2.2.2.2.2.2.2.2.2.2.2.2]) [] := by
  have hF : F12 x0 x1 = (Int.ofNat 5, x1, Int.ofNat 0, (F15 x0).fst, (F15 x0).snd.fst, (F15 x0).snd.snd, Int.ofNat 0, Int.ofNat 0, Int.ofNat 0, Int.ofNat 0, Int.ofNat 0, Int.ofNat 0, Int.ofNat 0, Int.ofNat 0, Int.ofNat 0) := by unfold F12; rfl
  rw [hF]
  unfold P12 at h
  obtain ⟨q0, _⟩ := bs_of h
  exact leaf0 good0 (F := Tryz.f12) (n := 400) (ds := [Dec.call (V.agg [V.int IntKind.i64 (F15 x0).fst, V.int IntKind.i64 (F15 x0).snd.fst, V.int IntKind.i32 (F15 x0).snd.snd]) []]) (u := V.agg [V.int IntKind.i64 (Int.ofNat 5), V.int IntKind.i64 x1, V.int IntKind.i64 (Int.ofNat 0), V.int IntKind.i64 (F15 x0).fst, V.int IntKind.i64 (F15 x0).snd.fst, V.int IntKind.i32 (F15 x0).snd.snd, V.int IntKind.i64 (Int.ofNat 0), V.int IntKind.i64 (Int.ofNat 0), V.int IntKind.i32 (Int.ofNat 0), V.int IntKind.i64 (Int.ofNat 0), V.int IntKind.i64 (Int.ofNat 0), V.int IntKind.i32 (Int.ofNat 0), V.int IntKind.i64 (Int.ofNat 0), V.int IntKind.i64 (Int.ofNat 0), V.int IntKind.i32 (Int.ofNat 0)]) (ps := [Con0 E0 15 [V.int IntKind.i64 x0] [] (V.agg [V.int IntKind.i64 (F15 x0).fst, V.int IntKind.i64 (F15 x0).snd.fst, V.int IntKind.i32 (F15 x0).snd.snd]) []]) (by kernel_rfl) (by kernel_rfl) (by kernel_rfl) ⟨con15 (x0) q0, trivial⟩
def F13 (x0 : Int) (x1 : Int) (x2 : Int) (x3 : Int) (x4 : Int) (x5 : Int) (x6 : Int) (x7 : Int) : Int × Int × Int × Int × Int × Int × Int × Int × Int × Int × Int × Int × Int × Int × Int := (Int.ofNat 3, x0, Int.ofNat 0, (F15 x1).fst, (F15 x1).snd.fst, (F15 x1).snd.snd, x2, x3, x4, x5, x6, x7, Int.ofNat 0, Int.ofNat 0, Int.ofNat 0)
def P13 (x0 : Int) (x1 : Int) (x2 : Int) (x3 : Int) (x4 : Int) (x5 : Int) (x6 : Int) (x7 : Int) : Bool := allB [P15 x1]
theorem con13 (x0 : Int) (x1 : Int) (x2 : Int) (x3 : Int) (x4 : Int) (x5 : Int) (x6 : Int) (x7 : Int) (h : P13 x0 x1 x2 x3 x4 x5 x6 x7 = true) : Con0 E0 13 [V.int IntKind.i64 x0, V.int IntKind.i64 x1, V.agg [V.int IntKind.i64 x2, V.int IntKind.i64 x3, V.int IntKind.i32 x4], V.agg [V.int IntKind.i64 x5, V.int IntKind.i64 x6, V.int IntKind.i32 x7]] [] (V.agg [V.int IntKind.i64 (F13 x0 x1 x2 x3 x4 x5 x6 x7).1, V.int IntKind.i64 (F13 x0 x1 x2 x3 x4 x5 x6 x7).2.1, V.int IntKind.i64 (F13 x0 x1 x2 x3 x4 x5 x6 x7).2.2.1, V.int IntKind.i64 (F13 x0 x1 x2 x3 x4 x5 x6 x7).2.2.2.1, V.int IntKind.i64 (F13 x0 x1 x2 x3 x4 x5 x6 x7).2.2.2.2.1, V.int IntKind.i32 (F13 x0 x1 x2 x3 x4 x5 x6 x7).2.2.2.2.2.1, V.int IntKind.i64 (F13 x0 x1 x2 x3 x4 x5 x6 x7).2.2.2.2.2.2.1, V.int IntKind.i64 (F13 x0 x1 x2 x3 x4 x5 x6 x7).2.2.2.2.2.2.2.1, V.int IntKind.i32 (F13 x0 x1 x2 x3 x4 x5 x6 x7).2.2.2.2.2.2.2.2.1, V.int IntKind.i64 (F13 x0 x1 x2 x3 x4 x5 x6 x7).2.2.2.2.2.2.2.2.2.1, V.int IntKind.i64 (F13 x0 x1 x2 x3 x4 x5 x6 x7).2.2.2.2.2.2.2.2.2.2.1, V.int IntKind.i32 (F13 x0 x1 x2 x3 x4 x5 x6 x7).2.2.2.2.2.2.2.2.2.2.2.1, V.int IntKind.i64 (F13 x0 x1 x2 x3 x4 x5 x6 x7).2.2.2.2.2.2.2.2.2.2.2.2.1, V.int IntKind.i64 (F13 x0 x1 x2 x3 x4 x5 x6 x7).2.2.2.2.2.2.2.2.2.2.2.2.2.1, V.int IntKind.i32 (F13 x0 x1 x2 x3 x4 x5 x6 x7).2.2.2.2.2.2.2.2.2.2.2.2.2.2]) [] := by
  have hF : F13 x0 x1 x2 x3 x4 x5 x6 x7 = (Int.ofNat 3, x0, Int.ofNat 0, (F15 x1).fst, (F15 x1).snd.fst, (F15 x1).snd.snd, x2, x3, x4, x5, x6, x7, Int.ofNat 0, Int.ofNat 0, Int.ofNat 0) := by unfold F13; rfl
  rw [hF]
  unfold P13 at h
  obtain ⟨q0, _⟩ := bs_of h
  exact leaf0 good0 (F := Tryz.f13) (n := 400) (ds := [Dec.call (V.agg [V.int IntKind.i64 (F15 x1).fst, V.int IntKind.i64 (F15 x1).snd.fst, V.int IntKind.i32 (F15 x1).snd.snd]) []]) (u := V.agg [V.int IntKind.i64 (Int.ofNat 3), V.int IntKind.i64 x0, V.int IntKind.i64 (Int.ofNat 0), V.int IntKind.i64 (F15 x1).fst, V.int IntKind.i64 (F15 x1).snd.fst, V.int IntKind.i32 (F15 x1).snd.snd, V.int IntKind.i64 x2, V.int IntKind.i64 x3, V.int IntKind.i32 x4, V.int IntKind.i64 x5, V.int IntKind.i64 x6, V.int IntKind.i32 x7, V.int IntKind.i64 (Int.ofNat 0), V.int IntKind.i64 (Int.ofNat 0), V.int IntKind.i32 (Int.ofNat 0)]) (ps := [Con0 E0 15 [V.int IntKind.i64 x1] [] (V.agg [V.int IntKind.i64 (F15 x1).fst, V.int IntKind.i64 (F15 x1).snd.fst, V.int IntKind.i32 (F15 x1).snd.snd]) []]) (by kernel_rfl) (by kernel_rfl) (by kernel_rfl) ⟨con15 (x1) q0, trivial⟩
def F21 (x0 : Int) : Bool × Int × Int × Int × Int × Int × Int := (false, Int.ofNat 0, Int.ofNat 0, Int.ofNat 0, (F54 x0).fst, (F54 x0).snd.fst, (F54 x0).snd.snd)
def P21 (x0 : Int) : Bool := allB [P54 x0]
theorem con21 (x0 : Int) (h : P21 x0 = true) : Con0 E0 21 [V.int IntKind.i64 x0] [] (V.agg [V.bool (F21 x0).1, V.int IntKind.i64 (F21 x0).2.1, V.int IntKind.i64 (F21 x0).2.2.1, V.int IntKind.i64 (F21 x0).2.2.2.1, V.int IntKind.i64 (F21 x0).2.2.2.2.1, V.int IntKind.i64 (F21 x0).2.2.2.2.2.1, V.int IntKind.i64 (F21 x0).2.2.2.2.2.2]) [] := by
  have hF : F21 x0 = (false, Int.ofNat 0, Int.ofNat 0, Int.ofNat 0, (F54 x0).fst, (F54 x0).snd.fst, (F54 x0).snd.snd) := by unfold F21; rfl
  rw [hF]
  unfold P21 at h
  obtain ⟨q0, _⟩ := bs_of h
  exact leaf0 good0 (F := Tryz.f21) (n := 400) (ds := [Dec.call (V.agg [V.int IntKind.i64 (F54 x0).fst, V.int IntKind.i64 (F54 x0).snd.fst, V.int IntKind.i64 (F54 x0).snd.snd]) []]) (u := V.agg [V.bool false, V.int IntKind.i64 (Int.ofNat 0), V.int IntKind.i64 (Int.ofNat 0), V.int IntKind.i64 (Int.ofNat 0), V.int IntKind.i64 (F54 x0).fst, V.int IntKind.i64 (F54 x0).snd.fst, V.int IntKind.i64 (F54 x0).snd.snd]) (ps := [Con0 E0 54 [V.int IntKind.i64 x0] [] (V.agg [V.int IntKind.i64 (F54 x0).fst, V.int IntKind.i64 (F54 x0).snd.fst, V.int IntKind.i64 (F54 x0).snd.snd]) []]) (by kernel_rfl) (by kernel_rfl) (by kernel_rfl) ⟨con54 (x0) q0, trivial⟩
def F23 (x0 : Int) (x1 : Int) : Bool × Int × Int × Int × Int × Int × Int := (false, Int.ofNat 0, Int.ofNat 0, Int.ofNat 0, (F24 x0 x1 (Int.ofNat 1)).fst, (F24 x0 x1 (Int.ofNat 1)).snd.fst, (F24 x0 x1 (Int.ofNat 1)).snd.snd)
def P23 (x0 : Int) (x1 : Int) : Bool := allB [P24 x0 x1 (Int.ofNat 1)]
theorem con23 (x0 : Int) (x1 : Int) (h : P23 x0 x1 = true) : Con0 E0 23 [V.int IntKind.i64 x0, V.int IntKind.i64 x1] [] (V.agg [V.bool (F23 x0 x1).1, V.int IntKind.i64 (F23 x0 x1).2.1, V.int IntKind.i64 (F23 x0 x1).2.2.1, V.int IntKind.i64 (F23 x0 x1).2.2.2.1, V.int IntKind.i64 (F23 x0 x1).2.2.2.2.1, V.int IntKind.i64 (F23 x0 x1).2.2.2.2.2.1, V.int IntKind.i64 (F23 x0 x1).2.2.2.2.2.2]) [] := by
  have hF : F23 x0 x1 = (false, Int.ofNat 0, Int.ofNat 0, Int.ofNat 0, (F24 x0 x1 (Int.ofNat 1)).fst, (F24 x0 x1 (Int.ofNat 1)).snd.fst, (F24 x0 x1 (Int.ofNat 1)).snd.snd) := by unfold F23; rfl
  rw [hF]
  unfold P23 at h
  obtain ⟨q0, _⟩ := bs_of h
  exact leaf0 good0 (F := Tryz.f23) (n := 400) (ds := [Dec.call (V.agg [V.int IntKind.i64 (F24 x0 x1 (Int.ofNat 1)).fst, V.int IntKind.i64 (F24 x0 x1 (Int.ofNat 1)).snd.fst, V.int IntKind.i64 (F24 x0 x1 (Int.ofNat 1)).snd.snd]) []]) (u := V.agg [V.bool false, V.int IntKind.i64 (Int.ofNat 0), V.int IntKind.i64 (Int.ofNat 0), V.int IntKind.i64 (Int.ofNat 0), V.int IntKind.i64 (F24 x0 x1 (Int.ofNat 1)).fst, V.int IntKind.i64 (F24 x0 x1 (Int.ofNat 1)).snd.fst, V.int IntKind.i64 (F24 x0 x1 (Int.ofNat 1)).snd.snd]) (ps := [Con0 E0 24 [V.int IntKind.i64 x0, V.int IntKind.i64 x1, V.int IntKind.i64 1] [] (V.agg [V.int IntKind.i64 (F24 x0 x1 1).fst, V.int IntKind.i64 (F24 x0 x1 1).snd.fst, V.int IntKind.i64 (F24 x0 x1 1).snd.snd]) []]) (by kernel_rfl) (by kernel_rfl) (by kernel_rfl) ⟨con24 (x0) (x1) (1) q0, trivial⟩
def F55 (x0 : Int) : Bool := (if (decide (x0 ≥ Int.negSucc 1099511627775) : Bool) = true then (decide (x0 ≤ F79)) else (false))
def P55 (x0 : Int) : Bool := (if (decide (x0 ≥ Int.negSucc 1099511627775) : Bool) = true then allB [true] else allB [true])
theorem con55 (x0 : Int) (h : P55 x0 = true) : Con0 E0 55 [V.int IntKind.i64 x0] [] (V.bool (F55 x0)) [] := by
  by_cases c0 : (decide (x0 ≥ Int.negSucc 1099511627775) : Bool) = true
  · skip
    have hF : F55 x0 = (decide (x0 ≤ F79)) := by unfold F55; rw [if_pos c0]
    rw [hF]
    unfold P55 at h
    rw [if_pos c0] at h
    obtain ⟨q0, _⟩ := bs_of h
    exact leaf0 good0 (F := Tryz.f55) (n := 400) (ds := [Dec.call (V.int IntKind.i64 F79) [], Dec.test true, Dec.test true, Dec.call (V.int IntKind.i64 F79) [], Dec.test true, Dec.test true]) (u := V.bool (decide (x0 ≤ F79))) (ps := [Con0 E0 79 [] [] (V.int IntKind.i64 F79) [], (decide (x0 ≥ Int.negSucc 1099511627775)) = true, (decide (x0 ≥ Int.negSucc 1099511627775)) = true, Con0 E0 79 [] [] (V.int IntKind.i64 F79) [], (decide (x0 ≥ Int.negSucc 1099511627775)) = true, (decide (x0 ≥ Int.negSucc 1099511627775)) = true]) (by kernel_rfl) (by kernel_rfl) (by kernel_rfl) ⟨con79  q0, c0, c0, con79  q0, c0, c0, trivial⟩
  · have n0 := c0
    replace c0 := eq_false_of_ne_true c0
    have hF : F55 x0 = (false) := by unfold F55; rw [if_neg n0]
    rw [hF]
    unfold P55 at h
    rw [if_neg n0] at h
    obtain ⟨q0, _⟩ := bs_of h
    exact leaf0 good0 (F := Tryz.f55) (n := 400) (ds := [Dec.call (V.int IntKind.i64 F79) [], Dec.test false, Dec.test false, Dec.test false, Dec.test false]) (u := V.bool false) (ps := [Con0 E0 79 [] [] (V.int IntKind.i64 F79) [], (decide (x0 ≥ Int.negSucc 1099511627775)) = false, (decide (x0 ≥ Int.negSucc 1099511627775)) = false, (decide (x0 ≥ Int.negSucc 1099511627775)) = false, (decide (x0 ≥ Int.negSucc 1099511627775)) = false]) (by kernel_rfl) (by kernel_rfl) (by kernel_rfl) ⟨con79  q0, c0, c0, c0, c0, trivial⟩
def F57 (x0 : Int) (x1 : Int) : Int × Int × Int := (if (x0 == Int.ofNat 0 : Bool) = true then (Int.ofNat 0, Int.ofNat 0, (F54 (Int.ofNat 0)).snd.snd) else (if (decide (x1 < Int.ofNat 2) : Bool) = true then (Int.ofNat 0, Int.ofNat 0, (F54 (Int.ofNat 0)).snd.snd) else (if (decide (x0 < Int.ofNat 0) : Bool) = true then (wr IntKind.i64 (x0 * wr IntKind.i64 (x1 - Int.ofNat 1)), Int.ofNat 0, wr IntKind.i64 (Int.ofNat 0 - x0)) else (Int.ofNat 0, wr IntKind.i64 (x0 * wr IntKind.i64 (x1 - Int.ofNat 1)), x0))))
def P57 (x0 : Int) (x1 : Int) : Bool := (if (x0 == Int.ofNat 0 : Bool) = true then allB [true] else (if (decide (x1 < Int.ofNat 2) : Bool) = true then allB [true] else (if (decide (x0 < Int.ofNat 0) : Bool) = true then allB [] else allB [])))
theorem con57 (x0 : Int) (x1 : Int) (h : P57 x0 x1 = true) : Con0 E0 57 [V.int IntKind.i64 x0, V.int IntKind.i64 x1] [] (V.agg [V.int IntKind.i64 (F57 x0 x1).1, V.int IntKind.i64 (F57 x0 x1).2.1, V.int IntKind.i64 (F57 x0 x1).2.2]) [] := by
  by_cases c0 : (x0 == Int.ofNat 0 : Bool) = true
  · skip
    have hF : F57 x0 x1 = (Int.ofNat 0, Int.ofNat 0, (F54 (Int.ofNat 0)).snd.snd) := by unfold F57; rw [if_pos c0]
    rw [hF]
    unfold P57 at h
    rw [if_pos c0] at h
    obtain ⟨q0, _⟩ := bs_of h
    exact leaf0 good0 (F := Tryz.f57) (n := 400) (ds := [Dec.test true, Dec.test true, Dec.test true, Dec.lit, Dec.call (V.agg [V.int IntKind.i64 (F54 (Int.ofNat 0)).fst, V.int IntKind.i64 (F54 (Int.ofNat 0)).snd.fst, V.int IntKind.i64 (F54 (Int.ofNat 0)).snd.snd]) []]) (u := V.agg [V.int IntKind.i64 (Int.ofNat 0), V.int IntKind.i64 (Int.ofNat 0), V.int IntKind.i64 (F54 (Int.ofNat 0)).snd.snd]) (ps := [(x0 == Int.ofNat 0) = true, (x0 == Int.ofNat 0) = true, (x0 == Int.ofNat 0) = true, Con0 E0 54 [V.int IntKind.i64 0] [] (V.agg [V.int IntKind.i64 (F54 0).fst, V.int IntKind.i64 (F54 0).snd.fst, V.int IntKind.i64 (F54 0).snd.snd]) []]) (by kernel_rfl) (by kernel_rfl) (by kernel_rfl) ⟨c0, c0, c0, con54 (0) q0, trivial⟩
  · have n0 := c0
    replace c0 := eq_false_of_ne_true c0
    by_cases c1 : (decide (x1 < Int.ofNat 2) : Bool) = true
    · skip
      have hF : F57 x0 x1 = (Int.ofNat 0, Int.ofNat 0, (F54 (Int.ofNat 0)).snd.snd) := by unfold F57; rw [if_neg n0, if_pos c1]
      rw [hF]
      unfold P57 at h
      rw [if_neg n0, if_pos c1] at h
      obtain ⟨q0, _⟩ := bs_of h
      exact leaf0 good0 (F := Tryz.f57) (n := 400) (ds := [Dec.test false, Dec.test false, Dec.test false, Dec.test true, Dec.call (V.agg [V.int IntKind.i64 (F54 (Int.ofNat 0)).fst, V.int IntKind.i64 (F54 (Int.ofNat 0)).snd.fst, V.int IntKind.i64 (F54 (Int.ofNat 0)).snd.snd]) []]) (u := V.agg [V.int IntKind.i64 (Int.ofNat 0), V.int IntKind.i64 (Int.ofNat 0), V.int IntKind.i64 (F54 (Int.ofNat 0)).snd.snd]) (ps := [(x0 == Int.ofNat 0) = false, (x0 == Int.ofNat 0) = false, (x0 == Int.ofNat 0) = false, (decide (x1 < Int.ofNat 2)) = true, Con0 E0 54 [V.int IntKind.i64 0] [] (V.agg [V.int IntKind.i64 (F54 0).fst, V.int IntKind.i64 (F54 0).snd.fst, V.int IntKind.i64 (F54 0).snd.snd]) []]) (by kernel_rfl) (by kernel_rfl) (by kernel_rfl) ⟨c0, c0, c0, c1, con54 (0) q0, trivial⟩
    · have n1 := c1
      replace c1 := eq_false_of_ne_true c1
      by_cases c2 : (decide (x0 < Int.ofNat 0) : Bool) = true
      · skip
        have hF : F57 x0 x1 = (wr IntKind.i64 (x0 * wr IntKind.i64 (x1 - Int.ofNat 1)), Int.ofNat 0, wr IntKind.i64 (Int.ofNat 0 - x0)) := by unfold F57; rw [if_neg n0, if_neg n1, if_pos c2]
        rw [hF]
        unfold P57 at h
        rw [if_neg n0, if_neg n1, if_pos c2] at h
        exact leaf0 good0 (F := Tryz.f57) (n := 400) (ds := [Dec.test false, Dec.test false, Dec.test false, Dec.test false, Dec.test true]) (u := V.agg [V.int IntKind.i64 (wr IntKind.i64 (x0 * wr IntKind.i64 (x1 - Int.ofNat 1))), V.int IntKind.i64 (Int.ofNat 0), V.int IntKind.i64 (wr IntKind.i64 (Int.ofNat 0 - x0))]) (ps := [(x0 == Int.ofNat 0) = false, (x0 == Int.ofNat 0) = false, (x0 == Int.ofNat 0) = false, (decide (x1 < Int.ofNat 2)) = false, (decide (x0 < Int.ofNat 0)) = true]) (by kernel_rfl) (by kernel_rfl) (by kernel_rfl) ⟨c0, c0, c0, c1, c2, trivial⟩
      · have n2 := c2
        replace c2 := eq_false_of_ne_true c2
        have hF : F57 x0 x1 = (Int.ofNat 0, wr IntKind.i64 (x0 * wr IntKind.i64 (x1 - Int.ofNat 1)), x0) := by unfold F57; rw [if_neg n0, if_neg n1, if_neg n2]
        rw [hF]
        unfold P57 at h
        rw [if_neg n0, if_neg n1, if_neg n2] at h
        exact leaf0 good0 (F := Tryz.f57) (n := 400) (ds := [Dec.test false, Dec.test false, Dec.test false, Dec.test false, Dec.test false]) (u := V.agg [V.int IntKind.i64 (Int.ofNat 0), V.int IntKind.i64 (wr IntKind.i64 (x0 * wr IntKind.i64 (x1 - Int.ofNat 1))), V.int IntKind.i64 x0]) (ps := [(x0 == Int.ofNat 0) = false, (x0 == Int.ofNat 0) = false, (x0 == Int.ofNat 0) = false, (decide (x1 < Int.ofNat 2)) = false, (decide (x0 < Int.ofNat 0)) = false]) (by kernel_rfl) (by kernel_rfl) (by kernel_rfl) ⟨c0, c0, c0, c1, c2, trivial⟩
def F58 (x0 : Int) (x1 : Int) (x2 : Int) : Bool := (if (!F81 x0 : Bool) = true then (false) else (if (!F81 x1 : Bool) = true then (false) else (if (decide (x0 > x1) : Bool) = true then (false) else (if (x0 == x1 : Bool) = true then (x2 == Int.ofNat 0) else (if (decide (x2 > Int.ofNat 0) : Bool) = true then ((wr IntKind.i64 (x1 - x0)).tmod x2 == Int.ofNat 0) else (false))))))
def P58 (x0 : Int) (x1 : Int) (x2 : Int) : Bool := (if (!F81 x0 : Bool) = true then allB [P81 x0] else (if (!F81 x1 : Bool) = true then allB [P81 x0, P81 x1] else (if (decide (x0 > x1) : Bool) = true then allB [P81 x0, P81 x1] else (if (x0 == x1 : Bool) = true then allB [P81 x0, P81 x1] else (if (decide (x2 > Int.ofNat 0) : Bool) = true then allB [P81 x0, P81 x1, !x2 == Int.ofNat 0] else allB [P81 x0, P81 x1])))))
theorem con58 (x0 : Int) (x1 : Int) (x2 : Int) (h : P58 x0 x1 x2 = true) : Con0 E0 58 [V.agg [V.int IntKind.i64 x0, V.int IntKind.i64 x1, V.int IntKind.i64 x2]] [] (V.bool (F58 x0 x1 x2)) [] := by
  by_cases c0 : (!F81 x0 : Bool) = true
  · skip
    have hF : F58 x0 x1 x2 = (false) := by unfold F58; rw [if_pos c0]
    rw [hF]
    unfold P58 at h
    rw [if_pos c0] at h
    obtain ⟨q0, _⟩ := bs_of h
    exact leaf0 good0 (F := Tryz.f58) (n := 400) (ds := [Dec.call (V.bool (F81 x0)) [], Dec.test true, Dec.test true, Dec.test true, Dec.test true, Dec.test true, Dec.lit, Dec.lit, Dec.lit, Dec.lit, Dec.lit, Dec.lit, Dec.lit]) (u := V.bool false) (ps := [Con0 E0 81 [V.int IntKind.i64 x0] [] (V.bool (F81 x0)) [], (!F81 x0) = true, (!F81 x0) = true, (!F81 x0) = true, (!F81 x0) = true, (!F81 x0) = true]) (by kernel_rfl) (by kernel_rfl) (by kernel_rfl) ⟨con81 (x0) q0, c0, c0, c0, c0, c0, trivial⟩
  · have n0 := c0
    replace c0 := eq_false_of_ne_true c0
    by_cases c1 : (!F81 x1 : Bool) = true
    · skip
      have hF : F58 x0 x1 x2 = (false) := by unfold F58; rw [if_neg n0, if_pos c1]
      rw [hF]
      unfold P58 at h
      rw [if_neg n0, if_pos c1] at h
      obtain ⟨q0, q1, _⟩ := bs_of h
      exact leaf0 good0 (F := Tryz.f58) (n := 400) (ds := [Dec.call (V.bool (F81 x0)) [], Dec.test false, Dec.test false, Dec.test false, Dec.call (V.bool (F81 x1)) [], Dec.test false, Dec.test false, Dec.test true, Dec.test true, Dec.test true, Dec.test true, Dec.test true, Dec.test true, Dec.lit]) (u := V.bool false) (ps := [Con0 E0 81 [V.int IntKind.i64 x0] [] (V.bool (F81 x0)) [], (!F81 x0) = false, (!F81 x0) = false, (!F81 x0) = false, Con0 E0 81 [V.int IntKind.i64 x1] [] (V.bool (F81 x1)) [], (!F81 x0) = false, (!F81 x0) = false, (!F81 x1) = true, (!F81 x1) = true, (!F81 x1) = true, (!F81 x1) = true, (!F81 x1) = true, (!F81 x1) = true]) (by kernel_rfl) (by kernel_rfl) (by kernel_rfl) ⟨con81 (x0) q0, c0, c0, c0, con81 (x1) q1, c0, c0, c1, c1, c1, c1, c1, c1, trivial⟩
    · have n1 := c1
      replace c1 := eq_false_of_ne_true c1
      by_cases c2 : (decide (x0 > x1) : Bool) = true
      · skip
        have hF : F58 x0 x1 x2 = (false) := by unfold F58; rw [if_neg n0, if_neg n1, if_pos c2]
        rw [hF]
        unfold P58 at h
        rw [if_neg n0, if_neg n1, if_pos c2] at h
        obtain ⟨q0, q1, _⟩ := bs_of h
        exact leaf0 good0 (F := Tryz.f58) (n := 400) (ds := [Dec.call (V.bool (F81 x0)) [], Dec.test false, Dec.test false, Dec.test false, Dec.call (V.bool (F81 x1)) [], Dec.test false, Dec.test false, Dec.test false, Dec.test false, Dec.test false, Dec.test false, Dec.test false, Dec.test false, Dec.test true]) (u := V.bool false) (ps := [Con0 E0 81 [V.int IntKind.i64 x0] [] (V.bool (F81 x0)) [], (!F81 x0) = false, (!F81 x0) = false, (!F81 x0) = false, Con0 E0 81 [V.int IntKind.i64 x1] [] (V.bool (F81 x1)) [], (!F81 x0) = false, (!F81 x0) = false, (!F81 x1) = false, (!F81 x1) = false, (!F81 x1) = false, (!F81 x1) = false, (!F81 x1) = false, (!F81 x1) = false, (decide (x0 > x1)) = true]) (by kernel_rfl) (by kernel_rfl) (by kernel_rfl) ⟨con81 (x0) q0, c0, c0, c0, con81 (x1) q1, c0, c0, c1, c1, c1, c1, c1, c1, c2, trivial⟩
      · have n2 := c2
        replace c2 := eq_false_of_ne_true c2
        by_cases c3 : (x0 == x1 : Bool) = true
        · skip
          have hF : F58 x0 x1 x2 = (x2 == Int.ofNat 0) := by unfold F58; rw [if_neg n0, if_neg n1, if_neg n2, if_pos c3]
          rw [hF]
          unfold P58 at h
          rw [if_neg n0, if_neg n1, if_neg n2, if_pos c3] at h
          obtain ⟨q0, q1, _⟩ := bs_of h
          exact leaf0 good0 (F := Tryz.f58) (n := 400) (ds := [Dec.call (V.bool (F81 x0)) [], Dec.test false, Dec.test false, Dec.test false, Dec.call (V.bool (F81 x1)) [], Dec.test false, Dec.test false, Dec.test false, Dec.test false, Dec.test false, Dec.test false, Dec.test false, Dec.test false, Dec.test false, Dec.test true]) (u := V.bool (x2 == Int.ofNat 0)) (ps := [Con0 E0 81 [V.int IntKind.i64 x0] [] (V.bool (F81 x0)) [], (!F81 x0) = false, (!F81 x0) = false, (!F81 x0) = false, Con0 E0 81 [V.int IntKind.i64 x1] [] (V.bool (F81 x1)) [], (!F81 x0) = false, (!F81 x0) = false, (!F81 x1) = false, (!F81 x1) = false, (!F81 x1) = false, (!F81 x1) = false, (!F81 x1) = false, (!F81 x1) = false, (decide (x0 > x1)) = false, (x0 == x1) = true]) (by kernel_rfl) (by kernel_rfl) (by kernel_rfl) ⟨con81 (x0) q0, c0, c0, c0, con81 (x1) q1, c0, c0, c1, c1, c1, c1, c1, c1, c2, c3, trivial⟩
        · have n3 := c3
          replace c3 := eq_false_of_ne_true c3
          by_cases c4 : (decide (x2 > Int.ofNat 0) : Bool) = true
          · skip
            have hF : F58 x0 x1 x2 = ((wr IntKind.i64 (x1 - x0)).tmod x2 == Int.ofNat 0) := by unfold F58; rw [if_neg n0, if_neg n1, if_neg n2, if_neg n3, if_pos c4]
            rw [hF]
            unfold P58 at h
            rw [if_neg n0, if_neg n1, if_neg n2, if_neg n3, if_pos c4] at h
            obtain ⟨q0, q1, q2, _⟩ := bs_of h
            exact leaf0 good0 (F := Tryz.f58) (n := 400) (ds := [Dec.call (V.bool (F81 x0)) [], Dec.test false, Dec.test false, Dec.test false, Dec.call (V.bool (F81 x1)) [], Dec.test false, Dec.test false, Dec.test false, Dec.test false, Dec.test false, Dec.test false, Dec.test false, Dec.test false, Dec.test false, Dec.test false, Dec.test true, Dec.test true, Dec.test true, Dec.test true, Dec.test true, Dec.test true, Dec.test true, Dec.test true, Dec.test true, Dec.test true]) (u := V.bool ((wr IntKind.i64 (x1 - x0)).tmod x2 == Int.ofNat 0)) (ps := [Con0 E0 81 [V.int IntKind.i64 x0] [] (V.bool (F81 x0)) [], (!F81 x0) = false, (!F81 x0) = false, (!F81 x0) = false, Con0 E0 81 [V.int IntKind.i64 x1] [] (V.bool (F81 x1)) [], (!F81 x0) = false, (!F81 x0) = false, (!F81 x1) = false, (!F81 x1) = false, (!F81 x1) = false, (!F81 x1) = false, (!F81 x1) = false, (!F81 x1) = false, (decide (x0 > x1)) = false, (x0 == x1) = false, (decide (x2 > Int.ofNat 0)) = true, (decide (x2 > Int.ofNat 0)) = true, (decide (x2 > Int.ofNat 0)) = true, (decide (x2 > Int.ofNat 0)) = true, (decide (x2 > Int.ofNat 0)) = true, (decide (x2 > Int.ofNat 0)) = true, (decide (x2 > Int.ofNat 0)) = true, (decide (x2 > Int.ofNat 0)) = true, (!x2 == Int.ofNat 0) = true, (decide (x2 > Int.ofNat 0)) = true, (decide (x2 > Int.ofNat 0)) = true]) (by kernel_rfl) (by kernel_rfl) (by kernel_rfl) ⟨con81 (x0) q0, c0, c0, c0, con81 (x1) q1, c0, c0, c1, c1, c1, c1, c1, c1, c2, c3, c4, c4, c4, c4, c4, c4, c4, c4, q2, c4, c4, trivial⟩
          · have n4 := c4
            replace c4 := eq_false_of_ne_true c4
            have hF : F58 x0 x1 x2 = (false) := by unfold F58; rw [if_neg n0, if_neg n1, if_neg n2, if_neg n3, if_neg n4]
            rw [hF]
            unfold P58 at h
            rw [if_neg n0, if_neg n1, if_neg n2, if_neg n3, if_neg n4] at h
            obtain ⟨q0, q1, _⟩ := bs_of h
            exact leaf0 good0 (F := Tryz.f58) (n := 400) (ds := [Dec.call (V.bool (F81 x0)) [], Dec.test false, Dec.test false, Dec.test false, Dec.call (V.bool (F81 x1)) [], Dec.test false, Dec.test false, Dec.test false, Dec.test false, Dec.test false, Dec.test false, Dec.test false, Dec.test false, Dec.test false, Dec.test false, Dec.test false, Dec.test false, Dec.test false, Dec.test false, Dec.test false, Dec.test false, Dec.test false, Dec.test false, Dec.test false, Dec.test false]) (u := V.bool false) (ps := [Con0 E0 81 [V.int IntKind.i64 x0] [] (V.bool (F81 x0)) [], (!F81 x0) = false, (!F81 x0) = false, (!F81 x0) = false, Con0 E0 81 [V.int IntKind.i64 x1] [] (V.bool (F81 x1)) [], (!F81 x0) = false, (!F81 x0) = false, (!F81 x1) = false, (!F81 x1) = false, (!F81 x1) = false, (!F81 x1) = false, (!F81 x1) = false, (!F81 x1) = false, (decide (x0 > x1)) = false, (x0 == x1) = false, (decide (x2 > Int.ofNat 0)) = false, (decide (x2 > Int.ofNat 0)) = false, (decide (x2 > Int.ofNat 0)) = false, (decide (x2 > Int.ofNat 0)) = false, (decide (x2 > Int.ofNat 0)) = false, (decide (x2 > Int.ofNat 0)) = false, (decide (x2 > Int.ofNat 0)) = false, (decide (x2 > Int.ofNat 0)) = false, (decide (x2 > Int.ofNat 0)) = false, (decide (x2 > Int.ofNat 0)) = false]) (by kernel_rfl) (by kernel_rfl) (by kernel_rfl) ⟨con81 (x0) q0, c0, c0, c0, con81 (x1) q1, c0, c0, c1, c1, c1, c1, c1, c1, c2, c3, c4, c4, c4, c4, c4, c4, c4, c4, c4, c4, trivial⟩
def F64 (x0 : Int) (x1 : Int) (x2 : Int) (x3 : Int) (x4 : Int) (x5 : Int) (x6 : Int) (x7 : Int) (x8 : Int) (x9 : Int) (x10 : Int) (x11 : Int) (x12 : Int) (x13 : Int) (x14 : Int) : Int := (F88 x3 x4 x5)
def P64 (x0 : Int) (x1 : Int) (x2 : Int) (x3 : Int) (x4 : Int) (x5 : Int) (x6 : Int) (x7 : Int) (x8 : Int) (x9 : Int) (x10 : Int) (x11 : Int) (x12 : Int) (x13 : Int) (x14 : Int) : Bool := allB [P88 x3 x4 x5]
theorem con64 (x0 : Int) (x1 : Int) (x2 : Int) (x3 : Int) (x4 : Int) (x5 : Int) (x6 : Int) (x7 : Int) (x8 : Int) (x9 : Int) (x10 : Int) (x11 : Int) (x12 : Int) (x13 : Int) (x14 : Int) (h : P64 x0 x1 x2 x3 x4 x5 x6 x7 x8 x9 x10 x11 x12 x13 x14 = true) : Con0 E0 64 [V.agg [V.int IntKind.i64 x0, V.int IntKind.i64 x1, V.int IntKind.i64 x2, V.int IntKind.i64 x3, V.int IntKind.i64 x4, V.int IntKind.i32 x5, V.int IntKind.i64 x6, V.int IntKind.i64 x7, V.int IntKind.i32 x8, V.int IntKind.i64 x9, V.int IntKind.i64 x10, V.int IntKind.i32 x11, V.int IntKind.i64 x12, V.int IntKind.i64 x13, V.int IntKind.i32 x14]] [] (V.int IntKind.i64 (F64 x0 x1 x2 x3 x4 x5 x6 x7 x8 x9 x10 x11 x12 x13 x14)) [] := by
  have hF : F64 x0 x1 x2 x3 x4 x5 x6 x7 x8 x9 x10 x11 x12 x13 x14 = (F88 x3 x4 x5) := by unfold F64; rfl
  rw [hF]
  unfold P64 at h
  obtain ⟨q0, _⟩ := bs_of h
  exact leaf0 good0 (F := Tryz.f64) (n := 400) (ds := [Dec.call (V.int IntKind.i64 (F88 x3 x4 x5)) []]) (u := V.int IntKind.i64 (F88 x3 x4 x5)) (ps := [Con0 E0 88 [V.agg [V.int IntKind.i64 x3, V.int IntKind.i64 x4, V.int IntKind.i32 x5]] [] (V.int IntKind.i64 (F88 x3 x4 x5)) []]) (by kernel_rfl) (by kernel_rfl) (by kernel_rfl) ⟨con88 (x3) (x4) (x5) q0, trivial⟩
def F70 (x0 : Int) (x1 : Int) (x2 : Int) : Int × Int × Int × Int := (if (!F81 x0 : Bool) = true then (Int.ofNat 0, Int.ofNat 0, Int.ofNat 0, Int.ofNat 1) else (if (!F81 x1 : Bool) = true then (Int.ofNat 0, Int.ofNat 0, Int.ofNat 0, Int.ofNat 1) else (if (decide (x0 > x1) : Bool) = true then (Int.ofNat 0, Int.ofNat 0, Int.ofNat 0, Int.ofNat 1) else (if (decide (x2 < Int.ofNat 1) : Bool) = true then (Int.ofNat 0, Int.ofNat 0, Int.ofNat 0, Int.ofNat 1) else ((F93 x0 (wr IntKind.i64 (x1 - (wr IntKind.i64 (x1 - x0)).tmod x2)) x2).fst, (F93 x0 (wr IntKind.i64 (x1 - (wr IntKind.i64 (x1 - x0)).tmod x2)) x2).snd.fst, (F93 x0 (wr IntKind.i64 (x1 - (wr IntKind.i64 (x1 - x0)).tmod x2)) x2).snd.snd, Int.ofNat 0)))))
def P70 (x0 : Int) (x1 : Int) (x2 : Int) : Bool := (if (!F81 x0 : Bool) = true then allB [P81 x0] else (if (!F81 x1 : Bool) = true then allB [P81 x0, P81 x1] else (if (decide (x0 > x1) : Bool) = true then allB [P81 x0, P81 x1] else (if (decide (x2 < Int.ofNat 1) : Bool) = true then allB [P81 x0, P81 x1] else allB [P81 x0, P81 x1, !x2 == Int.ofNat 0, P93 x0 (wr IntKind.i64 (x1 - (wr IntKind.i64 (x1 - x0)).tmod x2)) x2]))))
theorem con70 (x0 : Int) (x1 : Int) (x2 : Int) (h : P70 x0 x1 x2 = true) : Con0 E0 70 [V.int IntKind.i64 x0, V.int IntKind.i64 x1, V.int IntKind.i64 x2] [] (V.tuple [V.agg [V.int IntKind.i64 (F70 x0 x1 x2).1, V.int IntKind.i64 (F70 x0 x1 x2).2.1, V.int IntKind.i64 (F70 x0 x1 x2).2.2.1], V.int IntKind.i64 (F70 x0 x1 x2).2.2.2]) [] := by
  by_cases c0 : (!F81 x0 : Bool) = true
  · skip
    have hF : F70 x0 x1 x2 = (Int.ofNat 0, Int.ofNat 0, Int.ofNat 0, Int.ofNat 1) := by unfold F70; rw [if_pos c0]
    rw [hF]
    unfold P70 at h
    rw [if_pos c0] at h
    obtain ⟨q0, _⟩ := bs_of h
    exact leaf0 good0 (F := Tryz.f70) (n := 400) (ds := [Dec.call (V.bool (F81 x0)) [], Dec.test true, Dec.test true, Dec.test true, Dec.test true, Dec.lit, Dec.lit, Dec.lit, Dec.lit, Dec.lit, Dec.lit, Dec.lit, Dec.lit]) (u := V.tuple [V.agg [V.int IntKind.i64 (Int.ofNat 0), V.int IntKind.i64 (Int.ofNat 0), V.int IntKind.i64 (Int.ofNat 0)], V.int IntKind.i64 (Int.ofNat 1)]) (ps := [Con0 E0 81 [V.int IntKind.i64 x0] [] (V.bool (F81 x0)) [], (!F81 x0) = true, (!F81 x0) = true, (!F81 x0) = true, (!F81 x0) = true]) (by kernel_rfl) (by kernel_rfl) (by kernel_rfl) ⟨con81 (x0) q0, c0, c0, c0, c0, trivial⟩
  · have n0 := c0
    replace c0 := eq_false_of_ne_true c0
    by_cases c1 : (!F81 x1 : Bool) = true
    · skip
      have hF : F70 x0 x1 x2 = (Int.ofNat 0, Int.ofNat 0, Int.ofNat 0, Int.ofNat 1) := by unfold F70; rw [if_neg n0, if_pos c1]
      rw [hF]
      unfold P70 at h
      rw [if_neg n0, if_pos c1] at h
      obtain ⟨q0, q1, _⟩ := bs_of h
      exact leaf0 good0 (F := Tryz.f70) (n := 400) (ds := [Dec.call (V.bool (F81 x0)) [], Dec.test false, Dec.test false, Dec.call (V.bool (F81 x1)) [], Dec.test false, Dec.test false, Dec.test true, Dec.test true, Dec.test true, Dec.test true, Dec.lit, Dec.lit, Dec.lit, Dec.lit]) (u := V.tuple [V.agg [V.int IntKind.i64 (Int.ofNat 0), V.int IntKind.i64 (Int.ofNat 0), V.int IntKind.i64 (Int.ofNat 0)], V.int IntKind.i64 (Int.ofNat 1)]) (ps := [Con0 E0 81 [V.int IntKind.i64 x0] [] (V.bool (F81 x0)) [], (!F81 x0) = false, (!F81 x0) = false, Con0 E0 81 [V.int IntKind.i64 x1] [] (V.bool (F81 x1)) [], (!F81 x0) = false, (!F81 x0) = false, (!F81 x1) = true, (!F81 x1) = true, (!F81 x1) = true, (!F81 x1) = true]) (by kernel_rfl) (by kernel_rfl) (by kernel_rfl) ⟨con81 (x0) q0, c0, c0, con81 (x1) q1, c0, c0, c1, c1, c1, c1, trivial⟩
    · have n1 := c1
      replace c1 := eq_false_of_ne_true c1
      by_cases c2 : (decide (x0 > x1) : Bool) = true
      · skip
        have hF : F70 x0 x1 x2 = (Int.ofNat 0, Int.ofNat 0, Int.ofNat 0, Int.ofNat 1) := by unfold F70; rw [if_neg n0, if_neg n1, if_pos c2]
        rw [hF]
        unfold P70 at h
        rw [if_neg n0, if_neg n1, if_pos c2] at h
        obtain ⟨q0, q1, _⟩ := bs_of h
        exact leaf0 good0 (F := Tryz.f70) (n := 400) (ds := [Dec.call (V.bool (F81 x0)) [], Dec.test false, Dec.test false, Dec.call (V.bool (F81 x1)) [], Dec.test false, Dec.test false, Dec.test false, Dec.test false, Dec.test false, Dec.test false, Dec.test true, Dec.test true, Dec.test true, Dec.lit]) (u := V.tuple [V.agg [V.int IntKind.i64 (Int.ofNat 0), V.int IntKind.i64 (Int.ofNat 0), V.int IntKind.i64 (Int.ofNat 0)], V.int IntKind.i64 (Int.ofNat 1)]) (ps := [Con0 E0 81 [V.int IntKind.i64 x0] [] (V.bool (F81 x0)) [], (!F81 x0) = false, (!F81 x0) = false, Con0 E0 81 [V.int IntKind.i64 x1] [] (V.bool (F81 x1)) [], (!F81 x0) = false, (!F81 x0) = false, (!F81 x1) = false, (!F81 x1) = false, (!F81 x1) = false, (!F81 x1) = false, (decide (x0 > x1)) = true, (decide (x0 > x1)) = true, (decide (x0 > x1)) = true]) (by kernel_rfl) (by kernel_rfl) (by kernel_rfl) ⟨con81 (x0) q0, c0, c0, con81 (x1) q1, c0, c0, c1, c1, c1, c1, c2, c2, c2, trivial⟩
      · have n2 := c2
        replace c2 := eq_false_of_ne_true c2
        by_cases c3 : (decide (x2 < Int.ofNat 1) : Bool) = true
        · skip
          have hF : F70 x0 x1 x2 = (Int.ofNat 0, Int.ofNat 0, Int.ofNat 0, Int.ofNat 1) := by unfold F70; rw [if_neg n0, if_neg n1, if_neg n2, if_pos c3]
          rw [hF]
          unfold P70 at h
          rw [if_neg n0, if_neg n1, if_neg n2, if_pos c3] at h
          obtain ⟨q0, q1, _⟩ := bs_of h
          exact leaf0 good0 (F := Tryz.f70) (n := 400) (ds := [Dec.call (V.bool (F81 x0)) [], Dec.test false, Dec.test false, Dec.call (V.bool (F81 x1)) [], Dec.test false, Dec.test false, Dec.test false, Dec.test false, Dec.test false, Dec.test false, Dec.test false, Dec.test false, Dec.test false, Dec.test true]) (u := V.tuple [V.agg [V.int IntKind.i64 (Int.ofNat 0), V.int IntKind.i64 (Int.ofNat 0), V.int IntKind.i64 (Int.ofNat 0)], V.int IntKind.i64 (Int.ofNat 1)]) (ps := [Con0 E0 81 [V.int IntKind.i64 x0] [] (V.bool (F81 x0)) [], (!F81 x0) = false, (!F81 x0) = false, Con0 E0 81 [V.int IntKind.i64 x1] [] (V.bool (F81 x1)) [], (!F81 x0) = false, (!F81 x0) = false, (!F81 x1) = false, (!F81 x1) = false, (!F81 x1) = false, (!F81 x1) = false, (decide (x0 > x1)) = false, (decide (x0 > x1)) = false, (decide (x0 > x1)) = false, (decide (x2 < Int.ofNat 1)) = true]) (by kernel_rfl) (by kernel_rfl) (by kernel_rfl) ⟨con81 (x0) q0, c0, c0, con81 (x1) q1, c0, c0, c1, c1, c1, c1, c2, c2, c2, c3, trivial⟩
        · have n3 := c3
          replace c3 := eq_false_of_ne_true c3
          have hF : F70 x0 x1 x2 = ((F93 x0 (wr IntKind.i64 (x1 - (wr IntKind.i64 (x1 - x0)).tmod x2)) x2).fst, (F93 x0 (wr IntKind.i64 (x1 - (wr IntKind.i64 (x1 - x0)).tmod x2)) x2).snd.fst, (F93 x0 (wr IntKind.i64 (x1 - (wr IntKind.i64 (x1 - x0)).tmod x2)) x2).snd.snd, Int.ofNat 0) := by unfold F70; rw [if_neg n0, if_neg n1, if_neg n2, if_neg n3]
          rw [hF]
          unfold P70 at h
          rw [if_neg n0, if_neg n1, if_neg n2, if_neg n3] at h
          obtain ⟨q0, q1, q2, q3, _⟩ := bs_of h
          exact leaf0 good0 (F := Tryz.f70) (n := 400) (ds := [Dec.call (V.bool (F81 x0)) [], Dec.test false, Dec.test false, Dec.call (V.bool (F81 x1)) [], Dec.test false, Dec.test false, Dec.test false, Dec.test false, Dec.test false, Dec.test false, Dec.test false, Dec.test false, Dec.test false, Dec.test false, Dec.call (V.agg [V.int IntKind.i64 (F93 x0 (wr IntKind.i64 (x1 - (wr IntKind.i64 (x1 - x0)).tmod x2)) x2).fst, V.int IntKind.i64 (F93 x0 (wr IntKind.i64 (x1 - (wr IntKind.i64 (x1 - x0)).tmod x2)) x2).snd.fst, V.int IntKind.i64 (F93 x0 (wr IntKind.i64 (x1 - (wr IntKind.i64 (x1 - x0)).tmod x2)) x2).snd.snd]) []]) (u := V.tuple [V.agg [V.int IntKind.i64 (F93 x0 (wr IntKind.i64 (x1 - (wr IntKind.i64 (x1 - x0)).tmod x2)) x2).fst, V.int IntKind.i64 (F93 x0 (wr IntKind.i64 (x1 - (wr IntKind.i64 (x1 - x0)).tmod x2)) x2).snd.fst, V.int IntKind.i64 (F93 x0 (wr IntKind.i64 (x1 - (wr IntKind.i64 (x1 - x0)).tmod x2)) x2).snd.snd], V.int IntKind.i64 (Int.ofNat 0)]) (ps := [Con0 E0 81 [V.int IntKind.i64 x0] [] (V.bool (F81 x0)) [], (!F81 x0) = false, (!F81 x0) = false, Con0 E0 81 [V.int IntKind.i64 x1] [] (V.bool (F81 x1)) [], (!F81 x0) = false, (!F81 x0) = false, (!F81 x1) = false, (!F81 x1) = false, (!F81 x1) = false, (!F81 x1) = false, (decide (x0 > x1)) = false, (decide (x0 > x1)) = false, (decide (x0 > x1)) = false, (decide (x2 < Int.ofNat 1)) = false, (!x2 == Int.ofNat 0) = true, Con0 E0 93 [V.int IntKind.i64 x0, V.int IntKind.i64 (wr IntKind.i64 (x1 - (wr IntKind.i64 (x1 - x0)).tmod x2)), V.int IntKind.i64 x2] [] (V.agg [V.int IntKind.i64 (F93 x0 (wr IntKind.i64 (x1 - (wr IntKind.i64 (x1 - x0)).tmod x2)) x2).fst, V.int IntKind.i64 (F93 x0 (wr IntKind.i64 (x1 - (wr IntKind.i64 (x1 - x0)).tmod x2)) x2).snd.fst, V.int IntKind.i64 (F93 x0 (wr IntKind.i64 (x1 - (wr IntKind.i64 (x1 - x0)).tmod x2)) x2).snd.snd]) []]) (by kernel_rfl) (by kernel_rfl) (by kernel_rfl) ⟨con81 (x0) q0, c0, c0, con81 (x1) q1, c0, c0, c1, c1, c1, c1, c2, c2, c2, c3, q2, con93 (x0) (wr IntKind.i64 (x1 - (wr IntKind.i64 (x1 - x0)).tmod x2)) (x2) q3, trivial⟩
def F83 (x0 : Int) (x1 : Int) (x2 : Int) : Int × Int × Int × Int := (if (!F81 x0 : Bool) = true then (Int.ofNat 0, Int.ofNat 0, Int.ofNat 0, Int.ofNat 2) else (if (!F81 x1 : Bool) = true then (Int.ofNat 0, Int.ofNat 0, Int.ofNat 0, Int.ofNat 2) else ((F93 x0 x1 x2).fst, (F93 x0 x1 x2).snd.fst, (F93 x0 x1 x2).snd.snd, Int.ofNat 0)))
def P83 (x0 : Int) (x1 : Int) (x2 : Int) : Bool := (if (!F81 x0 : Bool) = true then allB [P81 x0] else (if (!F81 x1 : Bool) = true then allB [P81 x0, P81 x1] else allB [P81 x0, P81 x1, P93 x0 x1 x2]))
theorem con83 (x0 : Int) (x1 : Int) (x2 : Int) (h : P83 x0 x1 x2 = true) : Con0 E0 83 [V.int IntKind.i64 x0, V.int IntKind.i64 x1, V.int IntKind.i64 x2] [] (V.tuple [V.agg [V.int IntKind.i64 (F83 x0 x1 x2).1, V.int IntKind.i64 (F83 x0 x1 x2).2.1, V.int IntKind.i64 (F83 x0 x1 x2).2.2.1], V.int IntKind.i64 (F83 x0 x1 x2).2.2.2]) [] := by
  by_cases c0 : (!F81 x0 : Bool) = true
  · skip
    have hF : F83 x0 x1 x2 = (Int.ofNat 0, Int.ofNat 0, Int.ofNat 0, Int.ofNat 2) := by unfold F83; rw [if_pos c0]
    rw [hF]
    unfold P83 at h
    rw [if_pos c0] at h
    obtain ⟨q0, _⟩ := bs_of h
    exact leaf0 good0 (F := Tryz.f83) (n := 400) (ds := [Dec.call (V.bool (F81 x0)) [], Dec.test true, Dec.test true, Dec.test true, Dec.test true, Dec.lit]) (u := V.tuple [V.agg [V.int IntKind.i64 (Int.ofNat 0), V.int IntKind.i64 (Int.ofNat 0), V.int IntKind.i64 (Int.ofNat 0)], V.int IntKind.i64 (Int.ofNat 2)]) (ps := [Con0 E0 81 [V.int IntKind.i64 x0] [] (V.bool (F81 x0)) [], (!F81 x0) = true, (!F81 x0) = true, (!F81 x0) = true, (!F81 x0) = true]) (by kernel_rfl) (by kernel_rfl) (by kernel_rfl) ⟨con81 (x0) q0, c0, c0, c0, c0, trivial⟩
  · have n0 := c0
    replace c0 := eq_false_of_ne_true c0
    by_cases c1 : (!F81 x1 : Bool) = true
    · skip
      have hF : F83 x0 x1 x2 = (Int.ofNat 0, Int.ofNat 0, Int.ofNat 0, Int.ofNat 2) := by unfold F83; rw [if_neg n0, if_pos c1]
      rw [hF]
      unfold P83 at h
      rw [if_neg n0, if_pos c1] at h
      obtain ⟨q0, q1, _⟩ := bs_of h
      exact leaf0 good0 (F := Tryz.f83) (n := 400) (ds := [Dec.call (V.bool (F81 x0)) [], Dec.test false, Dec.test false, Dec.call (V.bool (F81 x1)) [], Dec.test false, Dec.test false, Dec.test true]) (u := V.tuple [V.agg [V.int IntKind.i64 (Int.ofNat 0), V.int IntKind.i64 (Int.ofNat 0), V.int IntKind.i64 (Int.ofNat 0)], V.int IntKind.i64 (Int.ofNat 2)]) (ps := [Con0 E0 81 [V.int IntKind.i64 x0] [] (V.bool (F81 x0)) [], (!F81 x0) = false, (!F81 x0) = false, Con0 E0 81 [V.int IntKind.i64 x1] [] (V.bool (F81 x1)) [], (!F81 x0) = false, (!F81 x0) = false, (!F81 x1) = true]) (by kernel_rfl) (by kernel_rfl) (by kernel_rfl) ⟨con81 (x0) q0, c0, c0, con81 (x1) q1, c0, c0, c1, trivial⟩
    · have n1 := c1
      replace c1 := eq_false_of_ne_true c1
      have hF : F83 x0 x1 x2 = ((F93 x0 x1 x2).fst, (F93 x0 x1 x2).snd.fst, (F93 x0 x1 x2).snd.snd, Int.ofNat 0) := by unfold F83; rw [if_neg n0, if_neg n1]
      rw [hF]
      unfold P83 at h
      rw [if_neg n0, if_neg n1] at h
      obtain ⟨q0, q1, q2, _⟩ := bs_of h
      exact leaf0 good0 (F := Tryz.f83) (n := 400) (ds := [Dec.call (V.bool (F81 x0)) [], Dec.test false, Dec.test false, Dec.call (V.bool (F81 x1)) [], Dec.test false, Dec.test false, Dec.test false, Dec.call (V.agg [V.int IntKind.i64 (F93 x0 x1 x2).fst, V.int IntKind.i64 (F93 x0 x1 x2).snd.fst, V.int IntKind.i64 (F93 x0 x1 x2).snd.snd]) []]) (u := V.tuple [V.agg [V.int IntKind.i64 (F93 x0 x1 x2).fst, V.int IntKind.i64 (F93 x0 x1 x2).snd.fst, V.int IntKind.i64 (F93 x0 x1 x2).snd.snd], V.int IntKind.i64 (Int.ofNat 0)]) (ps := [Con0 E0 81 [V.int IntKind.i64 x0] [] (V.bool (F81 x0)) [], (!F81 x0) = false, (!F81 x0) = false, Con0 E0 81 [V.int IntKind.i64 x1] [] (V.bool (F81 x1)) [], (!F81 x0) = false, (!F81 x0) = false, (!F81 x1) = false, Con0 E0 93 [V.int IntKind.i64 x0, V.int IntKind.i64 x1, V.int IntKind.i64 x2] [] (V.agg [V.int IntKind.i64 (F93 x0 x1 x2).fst, V.int IntKind.i64 (F93 x0 x1 x2).snd.fst, V.int IntKind.i64 (F93 x0 x1 x2).snd.snd]) []]) (by kernel_rfl) (by kernel_rfl) (by kernel_rfl) ⟨con81 (x0) q0, c0, c0, con81 (x1) q1, c0, c0, c1, con93 (x0) (x1) (x2) q2, trivial⟩
def F119 (x0 : Int) (x1 : Int) : Int := (wr IntKind.i64 (x0 - wr IntKind.i64 (F96 x0 x1 * x1)))
def P119 (x0 : Int) (x1 : Int) : Bool := allB [P96 x0 x1]
theorem con119 (x0 : Int) (x1 : Int) (h : P119 x0 x1 = true) : Con0 E0 119 [V.int IntKind.i64 x0, V.int IntKind.i64 x1] [] (V.int IntKind.i64 (F119 x0 x1)) [] := by
  have hF : F119 x0 x1 = (wr IntKind.i64 (x0 - wr IntKind.i64 (F96 x0 x1 * x1))) := by unfold F119; rfl
  rw [hF]
  unfold P119 at h
  obtain ⟨q0, _⟩ := bs_of h
  exact leaf0 good0 (F := Tryz.f119) (n := 400) (ds := [Dec.call (V.int IntKind.i64 (F96 x0 x1)) []]) (u := V.int IntKind.i64 (wr IntKind.i64 (x0 - wr IntKind.i64 (F96 x0 x1 * x1)))) (ps := [Con0 E0 96 [V.int IntKind.i64 x0, V.int IntKind.i64 x1] [] (V.int IntKind.i64 (F96 x0 x1)) []]) (by kernel_rfl) (by kernel_rfl) (by kernel_rfl) ⟨con96 (x0) (x1) q0, trivial⟩
end Go.Proofs.YtomcbkfnbagekaaGreat
/- Contracts, printed by a program of this session (VP.lean). -/
set_option linter.unusedVariables false
set_option maxRecDepth 100000
namespace Go.Proofs.YtomcbkfnbagekaaGreat
open Go Go.Vm
def F26 (x0 : Int) (x1 : Int) (x2 : Int) : Bool := (if (!F55 x0 : Bool) = true then (false) else (if (!F55 x1 : Bool) = true then (false) else (if (decide (x0 > x1) : Bool) = true then (false) else (if (x0 == x1 : Bool) = true then (x2 == Int.ofNat 0) else (if (decide (x2 ≥ Int.ofNat 1) : Bool) = true then ((wr IntKind.i64 (x1 - x0)).tmod x2 == Int.ofNat 0) else (false))))))
def P26 (x0 : Int) (x1 : Int) (x2 : Int) : Bool := (if (!F55 x0 : Bool) = true then allB [P55 x0] else (if (!F55 x1 : Bool) = true then allB [P55 x0, P55 x1] else (if (decide (x0 > x1) : Bool) = true then allB [P55 x0, P55 x1] else (if (x0 == x1 : Bool) = true then allB [P55 x0, P55 x1] else (if (decide (x2 ≥ Int.ofNat 1) : Bool) = true then allB [P55 x0, P55 x1, !x2 == Int.ofNat 0] else allB [P55 x0, P55 x1])))))
theorem con26 (x0 : Int) (x1 : Int) (x2 : Int) (h : P26 x0 x1 x2 = true) : Con0 E0 26 [V.agg [V.int IntKind.i64 x0, V.int IntKind.i64 x1, V.int IntKind.i64 x2]] [] (V.bool (F26 x0 x1 x2)) [] := by
  by_cases c0 : (!F55 x0 : Bool) = true
  · skip
    have hF : F26 x0 x1 x2 = (false) := by unfold F26; rw [if_pos c0]
    rw [hF]
    unfold P26 at h
    rw [if_pos c0] at h
    obtain ⟨q0, _⟩ := bs_of h
    exact leaf0 good0 (F := Tryz.f26) (n := 400) (ds := [Dec.call (V.bool (F55 x0)) [], Dec.test true, Dec.test true, Dec.test true, Dec.test true, Dec.test true, Dec.lit, Dec.lit, Dec.lit, Dec.lit, Dec.lit, Dec.lit, Dec.lit]) (u := V.bool false) (ps := [Con0 E0 55 [V.int IntKind.i64 x0] [] (V.bool (F55 x0)) [], (!F55 x0) = true, (!F55 x0) = true, (!F55 x0) = true, (!F55 x0) = true, (!F55 x0) = true]) (by kernel_rfl) (by kernel_rfl) (by kernel_rfl) ⟨con55 (x0) q0, c0, c0, c0, c0, c0, trivial⟩
  · have n0 := c0
    replace c0 := eq_false_of_ne_true c0
    by_cases c1 : (!F55 x1 : Bool) = true
    · skip
      have hF : F26 x0 x1 x2 = (false) := by unfold F26; rw [if_neg n0, if_pos c1]
      rw [hF]
      unfold P26 at h
      rw [if_neg n0, if_pos c1] at h
      obtain ⟨q0, q1, _⟩ := bs_of h
      exact leaf0 good0 (F := Tryz.f26) (n := 400) (ds := [Dec.call (V.bool (F55 x0)) [], Dec.test false, Dec.test false, Dec.test false, Dec.call (V.bool (F55 x1)) [], Dec.test false, Dec.test false, Dec.test true, Dec.test true, Dec.test true, Dec.test true, Dec.test true, Dec.test true, Dec.lit]) (u := V.bool false) (ps := [Con0 E0 55 [V.int IntKind.i64 x0] [] (V.bool (F55 x0)) [], (!F55 x0) = false, (!F55 x0) = false, (!F55 x0) = false, Con0 E0 55 [V.int IntKind.i64 x1] [] (V.bool (F55 x1)) [], (!F55 x0) = false, (!F55 x0) = false, (!F55 x1) = true, (!F55 x1) = true, (!F55 x1) = true, (!F55 x1) = true, (!F55 x1) = true, (!F55 x1) = true]) (by kernel_rfl) (by kernel_rfl) (by kernel_rfl) ⟨con55 (x0) q0, c0, c0, c0, con55 (x1) q1, c0, c0, c1, c1, c1, c1, c1, c1, trivial⟩
    · have n1 := c1
      replace c1 := eq_false_of_ne_true c1
      by_cases c2 : (decide (x0 > x1) : Bool) = true
      · skip
        have hF : F26 x0 x1 x2 = (false) := by unfold F26; rw [if_neg n0, if_neg n1, if_pos c2]
        rw [hF]
        unfold P26 at h
        rw [if_neg n0, if_neg n1, if_pos c2] at h
        obtain ⟨q0, q1, _⟩ := bs_of h
        exact leaf0 good0 (F := Tryz.f26) (n := 400) (ds := [Dec.call (V.bool (F55 x0)) [], Dec.test false, Dec.test false, Dec.test false, Dec.call (V.bool (F55 x1)) [], Dec.test false, Dec.test false, Dec.test false, Dec.test false, Dec.test false, Dec.test false, Dec.test false, Dec.test false, Dec.test true]) (u := V.bool false) (ps := [Con0 E0 55 [V.int IntKind.i64 x0] [] (V.bool (F55 x0)) [], (!F55 x0) = false, (!F55 x0) = false, (!F55 x0) = false, Con0 E0 55 [V.int IntKind.i64 x1] [] (V.bool (F55 x1)) [], (!F55 x0) = false, (!F55 x0) = false, (!F55 x1) = false, (!F55 x1) = false, (!F55 x1) = false, (!F55 x1) = false, (!F55 x1) = false, (!F55 x1) = false, (decide (x0 > x1)) = true]) (by kernel_rfl) (by kernel_rfl) (by kernel_rfl) ⟨con55 (x0) q0, c0, c0, c0, con55 (x1) q1, c0, c0, c1, c1, c1, c1, c1, c1, c2, trivial⟩
      · have n2 := c2
        replace c2 := eq_false_of_ne_true c2
        by_cases c3 : (x0 == x1 : Bool) = true
        · skip
          have hF : F26 x0 x1 x2 = (x2 == Int.ofNat 0) := by unfold F26; rw [if_neg n0, if_neg n1, if_neg n2, if_pos c3]
          rw [hF]
          unfold P26 at h
          rw [if_neg n0, if_neg n1, if_neg n2, if_pos c3] at h
          obtain ⟨q0, q1, _⟩ := bs_of h
          exact leaf0 good0 (F := Tryz.f26) (n := 400) (ds := [Dec.call (V.bool (F55 x0)) [], Dec.test false, Dec.test false, Dec.test false, Dec.call (V.bool (F55 x1)) [], Dec.test false, Dec.test false, Dec.test false, Dec.test false, Dec.test false, Dec.test false, Dec.test false, Dec.test false, Dec.test false, Dec.test true]) (u := V.bool (x2 == Int.ofNat 0)) (ps := [Con0 E0 55 [V.int IntKind.i64 x0] [] (V.bool (F55 x0)) [], (!F55 x0) = false, (!F55 x0) = false, (!F55 x0) = false, Con0 E0 55 [V.int IntKind.i64 x1] [] (V.bool (F55 x1)) [], (!F55 x0) = false, (!F55 x0) = false, (!F55 x1) = false, (!F55 x1) = false, (!F55 x1) = false, (!F55 x1) = false, (!F55 x1) = false, (!F55 x1) = false, (decide (x0 > x1)) = false, (x0 == x1) = true]) (by kernel_rfl) (by kernel_rfl) (by kernel_rfl) ⟨con55 (x0) q0, c0, c0, c0, con55 (x1) q1, c0, c0, c1, c1, c1, c1, c1, c1, c2, c3, trivial⟩
        · have n3 := c3
          replace c3 := eq_false_of_ne_true c3
          by_cases c4 : (decide (x2 ≥ Int.ofNat 1) : Bool) = true
          · skip
            have hF : F26 x0 x1 x2 = ((wr IntKind.i64 (x1 - x0)).tmod x2 == Int.ofNat 0) := by unfold F26; rw [if_neg n0, if_neg n1, if_neg n2, if_neg n3, if_pos c4]
            rw [hF]
            unfold P26 at h
            rw [if_neg n0, if_neg n1, if_neg n2, if_neg n3, if_pos c4] at h
            obtain ⟨q0, q1, q2, _⟩ := bs_of h
            exact leaf0 good0 (F := Tryz.f26) (n := 400) (ds := [Dec.call (V.bool (F55 x0)) [], Dec.test false, Dec.test false, Dec.test false, Dec.call (V.bool (F55 x1)) [], Dec.test false, Dec.test false, Dec.test false, Dec.test false, Dec.test false, Dec.test false, Dec.test false, Dec.test false, Dec.test false, Dec.test false, Dec.test true, Dec.test true, Dec.test true, Dec.test true, Dec.test true, Dec.test true, Dec.test true, Dec.test true, Dec.test true, Dec.test true]) (u := V.bool ((wr IntKind.i64 (x1 - x0)).tmod x2 == Int.ofNat 0)) (ps := [Con0 E0 55 [V.int IntKind.i64 x0] [] (V.bool (F55 x0)) [], (!F55 x0) = false, (!F55 x0) = false, (!F55 x0) = false, Con0 E0 55 [V.int IntKind.i64 x1] [] (V.bool (F55 x1)) [], (!F55 x0) = false, (!F55 x0) = false, (!F55 x1) = false, (!F55 x1) = false, (!F55 x1) = false, (!F55 x1) = false, (!F55 x1) = false, (!F55 x1) = false, (decide (x0 > x1)) = false, (x0 == x1) = false, (decide (x2 ≥ Int.ofNat 1)) = true, (decide (x2 ≥ Int.ofNat 1)) = true, (decide (x2 ≥ Int.ofNat 1)) = true, (decide (x2 ≥ Int.ofNat 1)) = true, (decide (x2 ≥ Int.ofNat 1)) = true, (decide (x2 ≥ Int.ofNat 1)) = true, (decide (x2 ≥ Int.ofNat 1)) = true, (decide (x2 ≥ Int.ofNat 1)) = true, (!x2 == Int.ofNat 0) = true, (decide (x2 ≥ Int.ofNat 1)) = true, (decide (x2 ≥ Int.ofNat 1)) = true]) (by kernel_rfl) (by kernel_rfl) (by kernel_rfl) ⟨con55 (x0) q0, c0, c0, c0, con55 (x1) q1, c0, c0, c1, c1, c1, c1, c1, c1, c2, c3, c4, c4, c4, c4, c4, c4, c4, c4, q2, c4, c4, trivial⟩
          · have n4 := c4
            replace c4 := eq_false_of_ne_true c4
            have hF : F26 x0 x1 x2 = (false) := by unfold F26; rw [if_neg n0, if_neg n1, if_neg n2, if_neg n3, if_neg n4]
            rw [hF]
            unfold P26 at h
            rw [if_neg n0, if_neg n1, if_neg n2, if_neg n3, if_neg n4] at h
            obtain ⟨q0, q1, _⟩ := bs_of h
            exact leaf0 good0 (F := Tryz.f26) (n := 400) (ds := [Dec.call (V.bool (F55 x0)) [], Dec.test false, Dec.test false, Dec.test false, Dec.call (V.bool (F55 x1)) [], Dec.test false, Dec.test false, Dec.test false, Dec.test false, Dec.test false, Dec.test false, Dec.test false, Dec.test false, Dec.test false, Dec.test false, Dec.test false, Dec.test false, Dec.test false, Dec.test false, Dec.test false, Dec.test false, Dec.test false, Dec.test false, Dec.test false, Dec.test false]) (u := V.bool false) (ps := [Con0 E0 55 [V.int IntKind.i64 x0] [] (V.bool (F55 x0)) [], (!F55 x0) = false, (!F55 x0) = false, (!F55 x0) = false, Con0 E0 55 [V.int IntKind.i64 x1] [] (V.bool (F55 x1)) [], (!F55 x0) = false, (!F55 x0) = false, (!F55 x1) = false, (!F55 x1) = false, (!F55 x1) = false, (!F55 x1) = false, (!F55 x1) = false, (!F55 x1) = false, (decide (x0 > x1)) = false, (x0 == x1) = false, (decide (x2 ≥ Int.ofNat 1)) = false, (decide (x2 ≥ Int.ofNat 1)) = false, (decide (x2 ≥ Int.ofNat 1)) = false, (decide (x2 ≥ Int.ofNat 1)) = false, (decide (x2 ≥ Int.ofNat 1)) = false, (decide (x2 ≥ Int.ofNat 1)) = false, (decide (x2 ≥ Int.ofNat 1)) = false, (decide (x2 ≥ Int.ofNat 1)) = false, (decide (x2 ≥ Int.ofNat 1)) = false, (decide (x2 ≥ Int.ofNat 1)) = false]) (by kernel_rfl) (by kernel_rfl) (by kernel_rfl) ⟨con55 (x0) q0, c0, c0, c0, con55 (x1) q1, c0, c0, c1, c1, c1, c1, c1, c1, c2, c3, c4, c4, c4, c4, c4, c4, c4, c4, c4, c4, trivial⟩
def F63 (x0 : Int) (x1 : Int) : Bool × Int × Int × Int × Int × Int × Int := (if ((F70 x0 x1 (Int.ofNat 1)).snd.snd.snd != Int.ofNat 0 : Bool) = true then (true, F44.snd.fst, F44.snd.snd.fst, F44.snd.snd.snd.fst, F44.snd.snd.snd.snd.fst, F44.snd.snd.snd.snd.snd.fst, F44.snd.snd.snd.snd.snd.snd) else (false, Int.ofNat 0, Int.ofNat 0, Int.ofNat 0, (F70 x0 x1 (Int.ofNat 1)).fst, (F70 x0 x1 (Int.ofNat 1)).snd.fst, (F70 x0 x1 (Int.ofNat 1)).snd.snd.fst))
def P63 (x0 : Int) (x1 : Int) : Bool := (if ((F70 x0 x1 (Int.ofNat 1)).snd.snd.snd != Int.ofNat 0 : Bool) = true then allB [P70 x0 x1 (Int.ofNat 1), true] else allB [P70 x0 x1 (Int.ofNat 1)])
theorem con63 (x0 : Int) (x1 : Int) (h : P63 x0 x1 = true) : Con0 E0 63 [V.int IntKind.i64 x0, V.int IntKind.i64 x1] [] (V.agg [V.bool (F63 x0 x1).1, V.int IntKind.i64 (F63 x0 x1).2.1, V.int IntKind.i64 (F63 x0 x1).2.2.1, V.int IntKind.i64 (F63 x0 x1).2.2.2.1, V.int IntKind.i64 (F63 x0 x1).2.2.2.2.1, V.int IntKind.i64 (F63 x0 x1).2.2.2.2.2.1, V.int IntKind.i64 (F63 x0 x1).2.2.2.2.2.2]) [] := by
  by_cases c0 : ((F70 x0 x1 (Int.ofNat 1)).snd.snd.snd != Int.ofNat 0 : Bool) = true
  · skip
    have hF : F63 x0 x1 = (true, F44.snd.fst, F44.snd.snd.fst, F44.snd.snd.snd.fst, F44.snd.snd.snd.snd.fst, F44.snd.snd.snd.snd.snd.fst, F44.snd.snd.snd.snd.snd.snd) := by unfold F63; rw [if_pos c0]
    rw [hF]
    unfold P63 at h
    rw [if_pos c0] at h
    obtain ⟨q0, q1, _⟩ := bs_of h
    exact leaf0 good0 (F := Tryz.f63) (n := 400) (ds := [Dec.call (V.tuple [V.agg [V.int IntKind.i64 (F70 x0 x1 (Int.ofNat 1)).fst, V.int IntKind.i64 (F70 x0 x1 (Int.ofNat 1)).snd.fst, V.int IntKind.i64 (F70 x0 x1 (Int.ofNat 1)).snd.snd.fst], V.int IntKind.i64 (F70 x0 x1 (Int.ofNat 1)).snd.snd.snd]) [], Dec.test true, Dec.call (V.agg [V.bool F44.fst, V.int IntKind.i64 F44.snd.fst, V.int IntKind.i64 F44.snd.snd.fst, V.int IntKind.i64 F44.snd.snd.snd.fst, V.int IntKind.i64 F44.snd.snd.snd.snd.fst, V.int IntKind.i64 F44.snd.snd.snd.snd.snd.fst, V.int IntKind.i64 F44.snd.snd.snd.snd.snd.snd]) []]) (u := V.agg [V.bool true, V.int IntKind.i64 F44.snd.fst, V.int IntKind.i64 F44.snd.snd.fst, V.int IntKind.i64 F44.snd.snd.snd.fst, V.int IntKind.i64 F44.snd.snd.snd.snd.fst, V.int IntKind.i64 F44.snd.snd.snd.snd.snd.fst, V.int IntKind.i64 F44.snd.snd.snd.snd.snd.snd]) (ps := [Con0 E0 70 [V.int IntKind.i64 x0, V.int IntKind.i64 x1, V.int IntKind.i64 1] [] (V.tuple [V.agg [V.int IntKind.i64 (F70 x0 x1 1).fst, V.int IntKind.i64 (F70 x0 x1 1).snd.fst, V.int IntKind.i64 (F70 x0 x1 1).snd.snd.fst], V.int IntKind.i64 (F70 x0 x1 1).snd.snd.snd]) [], ((F70 x0 x1 (Int.ofNat 1)).snd.snd.snd != Int.ofNat 0) = true, Con0 E0 44 [] [] (V.agg [V.bool F44.fst, V.int IntKind.i64 F44.snd.fst, V.int IntKind.i64 F44.snd.snd.fst, V.int IntKind.i64 F44.snd.snd.snd.fst, V.int IntKind.i64 F44.snd.snd.snd.snd.fst, V.int IntKind.i64 F44.snd.snd.snd.snd.snd.fst, V.int IntKind.i64 F44.snd.snd.snd.snd.snd.snd]) []]) (by kernel_rfl) (by kernel_rfl) (by kernel_rfl) ⟨con70 (x0) (x1) (1) q0, c0, con44  q1, trivial⟩
  · have n0 := c0
    replace c0 := eq_false_of_ne_true c0
    have hF : F63 x0 x1 = (false, Int.ofNat 0, Int.ofNat 0, Int.ofNat 0, (F70 x0 x1 (Int.ofNat 1)).fst, (F70 x0 x1 (Int.ofNat 1)).snd.fst, (F70 x0 x1 (Int.ofNat 1)).snd.snd.fst) := by unfold F63; rw [if_neg n0]
    rw [hF]
    unfold P63 at h
    rw [if_neg n0] at h
    obtain ⟨q0, _⟩ := bs_of h
    exact leaf0 good0 (F := Tryz.f63) (n := 400) (ds := [Dec.call (V.tuple [V.agg [V.int IntKind.i64 (F70 x0 x1 (Int.ofNat 1)).fst, V.int IntKind.i64 (F70 x0 x1 (Int.ofNat 1)).snd.fst, V.int IntKind.i64 (F70 x0 x1 (Int.ofNat 1)).snd.snd.fst], V.int IntKind.i64 (F70 x0 x1 (Int.ofNat 1)).snd.snd.snd]) [], Dec.test false]) (u := V.agg [V.bool false, V.int IntKind.i64 (Int.ofNat 0), V.int IntKind.i64 (Int.ofNat 0), V.int IntKind.i64 (Int.ofNat 0), V.int IntKind.i64 (F70 x0 x1 (Int.ofNat 1)).fst, V.int IntKind.i64 (F70 x0 x1 (Int.ofNat 1)).snd.fst, V.int IntKind.i64 (F70 x0 x1 (Int.ofNat 1)).snd.snd.fst]) (ps := [Con0 E0 70 [V.int IntKind.i64 x0, V.int IntKind.i64 x1, V.int IntKind.i64 1] [] (V.tuple [V.agg [V.int IntKind.i64 (F70 x0 x1 1).fst, V.int IntKind.i64 (F70 x0 x1 1).snd.fst, V.int IntKind.i64 (F70 x0 x1 1).snd.snd.fst], V.int IntKind.i64 (F70 x0 x1 1).snd.snd.snd]) [], ((F70 x0 x1 (Int.ofNat 1)).snd.snd.snd != Int.ofNat 0) = false]) (by kernel_rfl) (by kernel_rfl) (by kernel_rfl) ⟨con70 (x0) (x1) (1) q0, c0, trivial⟩
def F98 (x0 : Int) (x1 : Int) (x2 : Int) : Int × Int × Int × Int := (if (!F55 x0 : Bool) = true then (Int.ofNat 0, Int.ofNat 0, Int.ofNat 0, Int.ofNat 2) else (if (!F55 x1 : Bool) = true then (Int.ofNat 0, Int.ofNat 0, Int.ofNat 0, Int.ofNat 2) else ((F24 x0 x1 x2).fst, (F24 x0 x1 x2).snd.fst, (F24 x0 x1 x2).snd.snd, Int.ofNat 0)))
def P98 (x0 : Int) (x1 : Int) (x2 : Int) : Bool := (if (!F55 x0 : Bool) = true then allB [P55 x0] else (if (!F55 x1 : Bool) = true then allB [P55 x0, P55 x1] else allB [P55 x0, P55 x1, P24 x0 x1 x2]))
theorem con98 (x0 : Int) (x1 : Int) (x2 : Int) (h : P98 x0 x1 x2 = true) : Con0 E0 98 [V.int IntKind.i64 x0, V.int IntKind.i64 x1, V.int IntKind.i64 x2] [] (V.agg [V.int IntKind.i64 (F98 x0 x1 x2).1, V.int IntKind.i64 (F98 x0 x1 x2).2.1, V.int IntKind.i64 (F98 x0 x1 x2).2.2.1, V.int IntKind.i64 (F98 x0 x1 x2).2.2.2]) [] := by
  by_cases c0 : (!F55 x0 : Bool) = true
  · skip
    have hF : F98 x0 x1 x2 = (Int.ofNat 0, Int.ofNat 0, Int.ofNat 0, Int.ofNat 2) := by unfold F98; rw [if_pos c0]
    rw [hF]
    unfold P98 at h
    rw [if_pos c0] at h
    obtain ⟨q0, _⟩ := bs_of h
    exact leaf0 good0 (F := Tryz.f98) (n := 400) (ds := [Dec.call (V.bool (F55 x0)) [], Dec.test true, Dec.test true, Dec.test true, Dec.test true, Dec.lit]) (u := V.agg [V.int IntKind.i64 (Int.ofNat 0), V.int IntKind.i64 (Int.ofNat 0), V.int IntKind.i64 (Int.ofNat 0), V.int IntKind.i64 (Int.ofNat 2)]) (ps := [Con0 E0 55 [V.int IntKind.i64 x0] [] (V.bool (F55 x0)) [], (!F55 x0) = true, (!F55 x0) = true, (!F55 x0) = true, (!F55 x0) = true]) (by kernel_rfl) (by kernel_rfl) (by kernel_rfl) ⟨con55 (x0) q0, c0, c0, c0, c0, trivial⟩
  · have n0 := c0
    replace c0 := eq_false_of_ne_true c0
    by_cases c1 : (!F55 x1 : Bool) = true
    · skip
      have hF : F98 x0 x1 x2 = (Int.ofNat 0, Int.ofNat 0, Int.ofNat 0, Int.ofNat 2) := by unfold F98; rw [if_neg n0, if_pos c1]
      rw [hF]
      unfold P98 at h
      rw [if_neg n0, if_pos c1] at h
      obtain ⟨q0, q1, _⟩ := bs_of h
      exact leaf0 good0 (F := Tryz.f98) (n := 400) (ds := [Dec.call (V.bool (F55 x0)) [], Dec.test false, Dec.test false, Dec.call (V.bool (F55 x1)) [], Dec.test false, Dec.test false, Dec.test true]) (u := V.agg [V.int IntKind.i64 (Int.ofNat 0), V.int IntKind.i64 (Int.ofNat 0), V.int IntKind.i64 (Int.ofNat 0), V.int IntKind.i64 (Int.ofNat 2)]) (ps := [Con0 E0 55 [V.int IntKind.i64 x0] [] (V.bool (F55 x0)) [], (!F55 x0) = false, (!F55 x0) = false, Con0 E0 55 [V.int IntKind.i64 x1] [] (V.bool (F55 x1)) [], (!F55 x0) = false, (!F55 x0) = false, (!F55 x1) = true]) (by kernel_rfl) (by kernel_rfl) (by kernel_rfl) ⟨con55 (x0) q0, c0, c0, con55 (x1) q1, c0, c0, c1, trivial⟩
    · have n1 := c1
      replace c1 := eq_false_of_ne_true c1
      have hF : F98 x0 x1 x2 = ((F24 x0 x1 x2).fst, (F24 x0 x1 x2).snd.fst, (F24 x0 x1 x2).snd.snd, Int.ofNat 0) := by unfold F98; rw [if_neg n0, if_neg n1]
      rw [hF]
      unfold P98 at h
      rw [if_neg n0, if_neg n1] at h
      obtain ⟨q0, q1, q2, _⟩ := bs_of h
      exact leaf0 good0 (F := Tryz.f98) (n := 400) (ds := [Dec.call (V.bool (F55 x0)) [], Dec.test false, Dec.test false, Dec.call (V.bool (F55 x1)) [], Dec.test false, Dec.test false, Dec.test false, Dec.call (V.agg [V.int IntKind.i64 (F24 x0 x1 x2).fst, V.int IntKind.i64 (F24 x0 x1 x2).snd.fst, V.int IntKind.i64 (F24 x0 x1 x2).snd.snd]) []]) (u := V.agg [V.int IntKind.i64 (F24 x0 x1 x2).fst, V.int IntKind.i64 (F24 x0 x1 x2).snd.fst, V.int IntKind.i64 (F24 x0 x1 x2).snd.snd, V.int IntKind.i64 (Int.ofNat 0)]) (ps := [Con0 E0 55 [V.int IntKind.i64 x0] [] (V.bool (F55 x0)) [], (!F55 x0) = false, (!F55 x0) = false, Con0 E0 55 [V.int IntKind.i64 x1] [] (V.bool (F55 x1)) [], (!F55 x0) = false, (!F55 x0) = false, (!F55 x1) = false, Con0 E0 24 [V.int IntKind.i64 x0, V.int IntKind.i64 x1, V.int IntKind.i64 x2] [] (V.agg [V.int IntKind.i64 (F24 x0 x1 x2).fst, V.int IntKind.i64 (F24 x0 x1 x2).snd.fst, V.int IntKind.i64 (F24 x0 x1 x2).snd.snd]) []]) (by kernel_rfl) (by kernel_rfl) (by kernel_rfl) ⟨con55 (x0) q0, c0, c0, con55 (x1) q1, c0, c0, c1, con24 (x0) (x1) (x2) q2, trivial⟩
end Go.Proofs.YtomcbkfnbagekaaGreat
/- Contracts, printed by a program of this session (VP2.lean). -/
set_option linter.unusedVariables false
set_option maxRecDepth 100000
namespace Go.Proofs.YtomcbkfnbagekaaGreat
open Go Go.Vm
def FS99_0 (rec_ : Int → Int → Int) (y0 : Int) (y1 : Int) : Int := (if (y0 != Int.ofNat 0 : Bool) = true then (rec_ (y1.tmod y0) (y0)) else (y1))
def FL99_0 : Nat → Int → Int → Int
  | 0 => fun _ _ => default
  | n + 1 => FS99_0 (FL99_0 n)
def PS99_0 (rec_ : Int → Int → Bool) (y0 : Int) (y1 : Int) : Bool := (if (y0 != Int.ofNat 0 : Bool) = true then allB [!y0 == Int.ofNat 0, rec_ (y1.tmod y0) (y0)] else allB [])
def PL99_0 : Nat → Int → Int → Bool
  | 0 => fun _ _ => false
  | n + 1 => PS99_0 (PL99_0 n)
theorem okL99_0 : (∀ n, (Todo.head (loopN Tryz.f99 (fun _ => 0) 0).1 n).ok = true) ∧ ((loopN Tryz.f99 (fun _ => 0) 0).2.all Fm.ok) = true := ⟨fun _ => by kernel_rfl, by kernel_rfl⟩
theorem conL99_0 : ∀ (n : Nat) (y0 : Int) (y1 : Int) (jk : Nat → Value) (h : PL99_0 n y0 y1 = true), J E0 0 Tryz.f99 (.head (loopN Tryz.f99 (fun _ => 0) 0).1 n) (loopN Tryz.f99 (fun _ => 0) 0).2 (mkAS [(1, V.int IntKind.i64 y0), (0, V.int IntKind.i64 y1)] 20 [] jk) (V.int IntKind.i64 (FL99_0 n y0 y1)) [] := by
  intro n
  induction n with
  | zero => intro y0 y1 jk h; exact absurd (show false = true from h) Bool.false_ne_true
  | succ n ih =>
    intro y0 y1 jk h
    by_cases c0 : (y0 != Int.ofNat 0 : Bool) = true
    · skip
      have hF : FL99_0 (n + 1) y0 y1 = (FL99_0 (n) (y1.tmod y0) (y0)) := by show FS99_0 (FL99_0 n) y0 y1 = _; unfold FS99_0; rw [if_pos c0]
      rw [hF]
      replace h : PS99_0 (PL99_0 n) y0 y1 = true := h
      unfold PS99_0 at h
      rw [if_pos c0] at h
      obtain ⟨q0, q1, _⟩ := bs_of h
      exact path_ok good0 (k := 0) (F := Tryz.f99) (n := 2000) (ds := Dec.lit :: [Dec.test true, Dec.stop]) (L := []) (ts := [1, 0]) (t' := .head (loopN Tryz.f99 (fun _ => 0) 0).1 (n)) (fs' := (loopN Tryz.f99 (fun _ => 0) 0).2) (sz := 20) (slots := [(1, V.int IntKind.i64 (y1.tmod y0)), (0, V.int IntKind.i64 (y0))]) (os := []) (ps := [(y0 != Int.ofNat 0) = true, (!y0 == Int.ofNat 0) = true]) (by kernel_rfl) ⟨c0, q0, trivial⟩ (okL99_0.1 _) okL99_0.2 (fun jk => ih (y1.tmod y0) (y0) jk q1)
    · have n0 := c0
      replace c0 := eq_false_of_ne_true c0
      have hF : FL99_0 (n + 1) y0 y1 = (y1) := by show FS99_0 (FL99_0 n) y0 y1 = _; unfold FS99_0; rw [if_neg n0]
      rw [hF]
      replace h : PS99_0 (PL99_0 n) y0 y1 = true := h
      unfold PS99_0 at h
      rw [if_neg n0] at h
      exact pathEnd_ok good0 (k := 0) (F := Tryz.f99) (n := 2000) (ds := Dec.lit :: [Dec.test false]) (L := []) (u := V.int IntKind.i64 y1) (os' := []) (ps := [(y0 != Int.ofNat 0) = false]) (by kernel_rfl) ⟨c0, trivial⟩ (okL99_0.1 _) okL99_0.2
def F99 (x0 : Int) (x1 : Int) : Int := (if (decide (x0 < Int.ofNat 0) : Bool) = true then (if (decide (x1 < Int.ofNat 0) : Bool) = true then (FL99_0 (Int.natAbs (wr IntKind.i64 (Int.ofNat 0 - x1)) + 1) (wr IntKind.i64 (Int.ofNat 0 - x1)) (wr IntKind.i64 (Int.ofNat 0 - x0))) else (FL99_0 (Int.natAbs (x1) + 1) (x1) (wr IntKind.i64 (Int.ofNat 0 - x0)))) else (if (decide (x1 < Int.ofNat 0) : Bool) = true then (FL99_0 (Int.natAbs (wr IntKind.i64 (Int.ofNat 0 - x1)) + 1) (wr IntKind.i64 (Int.ofNat 0 - x1)) (x0)) else (FL99_0 (Int.natAbs (x1) + 1) (x1) (x0))))
def P99 (x0 : Int) (x1 : Int) : Bool := (if (decide (x0 < Int.ofNat 0) : Bool) = true then (if (decide (x1 < Int.ofNat 0) : Bool) = true then allB [PL99_0 (Int.natAbs (wr IntKind.i64 (Int.ofNat 0 - x1)) + 1) (wr IntKind.i64 (Int.ofNat 0 - x1)) (wr IntKind.i64 (Int.ofNat 0 - x0))] else allB [PL99_0 (Int.natAbs (x1) + 1) (x1) (wr IntKind.i64 (Int.ofNat 0 - x0))]) else (if (decide (x1 < Int.ofNat 0) : Bool) = true then allB [PL99_0 (Int.natAbs (wr IntKind.i64 (Int.ofNat 0 - x1)) + 1) (wr IntKind.i64 (Int.ofNat 0 - x1)) (x0)] else allB [PL99_0 (Int.natAbs (x1) + 1) (x1) (x0)]))
theorem con99 (x0 : Int) (x1 : Int) (h : P99 x0 x1 = true) : Con0 E0 99 [V.int IntKind.i64 x0, V.int IntKind.i64 x1] [] (V.int IntKind.i64 (F99 x0 x1)) [] := by
  by_cases c0 : (decide (x0 < Int.ofNat 0) : Bool) = true
  · skip
    by_cases c1 : (decide (x1 < Int.ofNat 0) : Bool) = true
    · skip
      have hF : F99 x0 x1 = (FL99_0 (Int.natAbs (wr IntKind.i64 (Int.ofNat 0 - x1)) + 1) (wr IntKind.i64 (Int.ofNat 0 - x1)) (wr IntKind.i64 (Int.ofNat 0 - x0))) := by unfold F99; rw [if_pos c0, if_pos c1]
      rw [hF]
      unfold P99 at h
      rw [if_pos c0, if_pos c1] at h
      obtain ⟨q0, _⟩ := bs_of h
      exact leafH good0 (F := Tryz.f99) (n := 2000) (ds := [Dec.test true, Dec.test true, Dec.turn (Int.natAbs (wr IntKind.i64 (Int.ofNat 0 - x1)) + 1), Dec.stop]) (L := []) (ts := [1, 0]) (t' := .head (loopN Tryz.f99 (fun _ => 0) 0).1 (Int.natAbs (wr IntKind.i64 (Int.ofNat 0 - x1)) + 1)) (fs' := (loopN Tryz.f99 (fun _ => 0) 0).2) (sz := 20) (slots := [(1, V.int IntKind.i64 (wr IntKind.i64 (Int.ofNat 0 - x1))), (0, V.int IntKind.i64 (wr IntKind.i64 (Int.ofNat 0 - x0)))]) (os := []) (os1 := []) (ps := [(decide (x0 < Int.ofNat 0)) = true, (decide (x1 < Int.ofNat 0)) = true]) (by kernel_rfl) (by kernel_rfl) (by kernel_rfl) ⟨c0, c1, trivial⟩ (fun jk => conL99_0 _ (wr IntKind.i64 (Int.ofNat 0 - x1)) (wr IntKind.i64 (Int.ofNat 0 - x0)) jk q0)
    · have n1 := c1
      replace c1 := eq_false_of_ne_true c1
      have hF : F99 x0 x1 = (FL99_0 (Int.natAbs (x1) + 1) (x1) (wr IntKind.i64 (Int.ofNat 0 - x0))) := by unfold F99; rw [if_pos c0, if_neg n1]
      rw [hF]
      unfold P99 at h
      rw [if_pos c0, if_neg n1] at h
      obtain ⟨q0, _⟩ := bs_of h
      exact leafH good0 (F := Tryz.f99) (n := 2000) (ds := [Dec.test true, Dec.test false, Dec.turn (Int.natAbs (x1) + 1), Dec.stop]) (L := []) (ts := [1, 0]) (t' := .head (loopN Tryz.f99 (fun _ => 0) 0).1 (Int.natAbs (x1) + 1)) (fs' := (loopN Tryz.f99 (fun _ => 0) 0).2) (sz := 20) (slots := [(1, V.int IntKind.i64 (x1)), (0, V.int IntKind.i64 (wr IntKind.i64 (Int.ofNat 0 - x0)))]) (os := []) (os1 := []) (ps := [(decide (x0 < Int.ofNat 0)) = true, (decide (x1 < Int.ofNat 0)) = false]) (by kernel_rfl) (by kernel_rfl) (by kernel_rfl) ⟨c0, c1, trivial⟩ (fun jk => conL99_0 _ (x1) (wr IntKind.i64 (Int.ofNat 0 - x0)) jk q0)
  · have n0 := c0
    replace c0 := eq_false_of_ne_true c0
    by_cases c1 : (decide (x1 < Int.ofNat 0) : Bool) = true
    · skip
      have hF : F99 x0 x1 = (FL99_0 (Int.natAbs (wr IntKind.i64 (Int.ofNat 0 - x1)) + 1) (wr IntKind.i64 (Int.ofNat 0 - x1)) (x0)) := by unfold F99; rw [if_neg n0, if_pos c1]
      rw [hF]
      unfold P99 at h
      rw [if_neg n0, if_pos c1] at h
      obtain ⟨q0, _⟩ := bs_of h
      exact leafH good0 (F := Tryz.f99) (n := 2000) (ds := [Dec.test false, Dec.test true, Dec.turn (Int.natAbs (wr IntKind.i64 (Int.ofNat 0 - x1)) + 1), Dec.stop]) (L := []) (ts := [1, 0]) (t' := .head (loopN Tryz.f99 (fun _ => 0) 0).1 (Int.natAbs (wr IntKind.i64 (Int.ofNat 0 - x1)) + 1)) (fs' := (loopN Tryz.f99 (fun _ => 0) 0).2) (sz := 20) (slots := [(1, V.int IntKind.i64 (wr IntKind.i64 (Int.ofNat 0 - x1))), (0, V.int IntKind.i64 (x0))]) (os := []) (os1 := []) (ps := [(decide (x0 < Int.ofNat 0)) = false, (decide (x1 < Int.ofNat 0)) = true]) (by kernel_rfl) (by kernel_rfl) (by kernel_rfl) ⟨c0, c1, trivial⟩ (fun jk => conL99_0 _ (wr IntKind.i64 (Int.ofNat 0 - x1)) (x0) jk q0)
    · have n1 := c1
      replace c1 := eq_false_of_ne_true c1
      have hF : F99 x0 x1 = (FL99_0 (Int.natAbs (x1) + 1) (x1) (x0)) := by unfold F99; rw [if_neg n0, if_neg n1]
      rw [hF]
      unfold P99 at h
      rw [if_neg n0, if_neg n1] at h
      obtain ⟨q0, _⟩ := bs_of h
      exact leafH good0 (F := Tryz.f99) (n := 2000) (ds := [Dec.test false, Dec.test false, Dec.turn (Int.natAbs (x1) + 1), Dec.stop]) (L := []) (ts := [1, 0]) (t' := .head (loopN Tryz.f99 (fun _ => 0) 0).1 (Int.natAbs (x1) + 1)) (fs' := (loopN Tryz.f99 (fun _ => 0) 0).2) (sz := 20) (slots := [(1, V.int IntKind.i64 (x1)), (0, V.int IntKind.i64 (x0))]) (os := []) (os1 := []) (ps := [(decide (x0 < Int.ofNat 0)) = false, (decide (x1 < Int.ofNat 0)) = false]) (by kernel_rfl) (by kernel_rfl) (by kernel_rfl) ⟨c0, c1, trivial⟩ (fun jk => conL99_0 _ (x1) (x0) jk q0)
end Go.Proofs.YtomcbkfnbagekaaGreat
/- Contracts, printed by a program of this session (VP.lean). -/
set_option linter.unusedVariables false
set_option maxRecDepth 100000
namespace Go.Proofs.YtomcbkfnbagekaaGreat
open Go Go.Vm
def F118 (x0 : Int) (x1 : Int) : Int × Int := (wr IntKind.u64 (wr IntKind.u64 (wr IntKind.u64 (x0.fdiv (pow2 IntKind.u64 32) * x1.fdiv (pow2 IntKind.u64 32)) + (wr IntKind.u64 (wr IntKind.u64 (x0.fdiv (pow2 IntKind.u64 32) * wr IntKind.u64 ↑(BitVec.ofInt IntKind.u64.bits x1 &&& BitVec.ofInt IntKind.u64.bits 4294967295).toNat) + (wr IntKind.u64 (wr IntKind.u64 ↑(BitVec.ofInt IntKind.u64.bits x0 &&& BitVec.ofInt IntKind.u64.bits 4294967295).toNat * wr IntKind.u64 ↑(BitVec.ofInt IntKind.u64.bits x1 &&& BitVec.ofInt IntKind.u64.bits 4294967295).toNat)).fdiv (pow2 IntKind.u64 32))).fdiv (pow2 IntKind.u64 32)) + (wr IntKind.u64 (wr IntKind.u64 ↑(BitVec.ofInt IntKind.u64.bits (wr IntKind.u64 (wr IntKind.u64 (x0.fdiv (pow2 IntKind.u64 32) * wr IntKind.u64 ↑(BitVec.ofInt IntKind.u64.bits x1 &&& BitVec.ofInt IntKind.u64.bits 4294967295).toNat) + (wr IntKind.u64 (wr IntKind.u64 ↑(BitVec.ofInt IntKind.u64.bits x0 &&& BitVec.ofInt IntKind.u64.bits 4294967295).toNat * wr IntKind.u64 ↑(BitVec.ofInt IntKind.u64.bits x1 &&& BitVec.ofInt IntKind.u64.bits 4294967295).toNat)).fdiv (pow2 IntKind.u64 32))) &&& BitVec.ofInt IntKind.u64.bits 4294967295).toNat + wr IntKind.u64 (wr IntKind.u64 ↑(BitVec.ofInt IntKind.u64.bits x0 &&& BitVec.ofInt IntKind.u64.bits 4294967295).toNat * x1.fdiv (pow2 IntKind.u64 32)))).fdiv (pow2 IntKind.u64 32)), wr IntKind.u64 (x0 * x1))
def P118 (x0 : Int) (x1 : Int) : Bool := allB []
theorem con118 (x0 : Int) (x1 : Int) (h : P118 x0 x1 = true) : Con0 E0 118 [V.int IntKind.u64 x0, V.int IntKind.u64 x1] [] (V.tuple [V.int IntKind.u64 (F118 x0 x1).1, V.int IntKind.u64 (F118 x0 x1).2]) [] := by
  have hF : F118 x0 x1 = (wr IntKind.u64 (wr IntKind.u64 (wr IntKind.u64 (x0.fdiv (pow2 IntKind.u64 32) * x1.fdiv (pow2 IntKind.u64 32)) + (wr IntKind.u64 (wr IntKind.u64 (x0.fdiv (pow2 IntKind.u64 32) * wr IntKind.u64 ↑(BitVec.ofInt IntKind.u64.bits x1 &&& BitVec.ofInt IntKind.u64.bits 4294967295).toNat) + (wr IntKind.u64 (wr IntKind.u64 ↑(BitVec.ofInt IntKind.u64.bits x0 &&& BitVec.ofInt IntKind.u64.bits 4294967295).toNat * wr IntKind.u64 ↑(BitVec.ofInt IntKind.u64.bits x1 &&& BitVec.ofInt IntKind.u64.bits 4294967295).toNat)).fdiv (pow2 IntKind.u64 32))).fdiv (pow2 IntKind.u64 32)) + (wr IntKind.u64 (wr IntKind.u64 ↑(BitVec.ofInt IntKind.u64.bits (wr IntKind.u64 (wr IntKind.u64 (x0.fdiv (pow2 IntKind.u64 32) * wr IntKind.u64 ↑(BitVec.ofInt IntKind.u64.bits x1 &&& BitVec.ofInt IntKind.u64.bits 4294967295).toNat) + (wr IntKind.u64 (wr IntKind.u64 ↑(BitVec.ofInt IntKind.u64.bits x0 &&& BitVec.ofInt IntKind.u64.bits 4294967295).toNat * wr IntKind.u64 ↑(BitVec.ofInt IntKind.u64.bits x1 &&& BitVec.ofInt IntKind.u64.bits 4294967295).toNat)).fdiv (pow2 IntKind.u64 32))) &&& BitVec.ofInt IntKind.u64.bits 4294967295).toNat + wr IntKind.u64 (wr IntKind.u64 ↑(BitVec.ofInt IntKind.u64.bits x0 &&& BitVec.ofInt IntKind.u64.bits 4294967295).toNat * x1.fdiv (pow2 IntKind.u64 32)))).fdiv (pow2 IntKind.u64 32)), wr IntKind.u64 (x0 * x1)) := by unfold F118; rfl
  rw [hF]
  unfold P118 at h
  exact leaf0 good0 (F := Tryz.f118) (n := 400) (ds := []) (u := V.tuple [V.int IntKind.u64 (wr IntKind.u64 (wr IntKind.u64 (wr IntKind.u64 (x0.fdiv (pow2 IntKind.u64 32) * x1.fdiv (pow2 IntKind.u64 32)) + (wr IntKind.u64 (wr IntKind.u64 (x0.fdiv (pow2 IntKind.u64 32) * wr IntKind.u64 ↑(BitVec.ofInt IntKind.u64.bits x1 &&& BitVec.ofInt IntKind.u64.bits 4294967295).toNat) + (wr IntKind.u64 (wr IntKind.u64 ↑(BitVec.ofInt IntKind.u64.bits x0 &&& BitVec.ofInt IntKind.u64.bits 4294967295).toNat * wr IntKind.u64 ↑(BitVec.ofInt IntKind.u64.bits x1 &&& BitVec.ofInt IntKind.u64.bits 4294967295).toNat)).fdiv (pow2 IntKind.u64 32))).fdiv (pow2 IntKind.u64 32)) + (wr IntKind.u64 (wr IntKind.u64 ↑(BitVec.ofInt IntKind.u64.bits (wr IntKind.u64 (wr IntKind.u64 (x0.fdiv (pow2 IntKind.u64 32) * wr IntKind.u64 ↑(BitVec.ofInt IntKind.u64.bits x1 &&& BitVec.ofInt IntKind.u64.bits 4294967295).toNat) + (wr IntKind.u64 (wr IntKind.u64 ↑(BitVec.ofInt IntKind.u64.bits x0 &&& BitVec.ofInt IntKind.u64.bits 4294967295).toNat * wr IntKind.u64 ↑(BitVec.ofInt IntKind.u64.bits x1 &&& BitVec.ofInt IntKind.u64.bits 4294967295).toNat)).fdiv (pow2 IntKind.u64 32))) &&& BitVec.ofInt IntKind.u64.bits 4294967295).toNat + wr IntKind.u64 (wr IntKind.u64 ↑(BitVec.ofInt IntKind.u64.bits x0 &&& BitVec.ofInt IntKind.u64.bits 4294967295).toNat * x1.fdiv (pow2 IntKind.u64 32)))).fdiv (pow2 IntKind.u64 32))), V.int IntKind.u64 (wr IntKind.u64 (x0 * x1))]) (ps := [(true) = true, (true) = true, (true) = true, (true) = true, (true) = true]) (by kernel_rfl) (by kernel_rfl) (by kernel_rfl) ⟨rfl, rfl, rfl, rfl, rfl, trivial⟩
def F80 (x0 : Int) (x1 : Int) (x2 : Int) (x3 : Int) (x4 : Int) (x5 : Int) : Int × Int × Int × Int := ((F98 (wr IntKind.i64 (x0 + x3)) (wr IntKind.i64 (x1 + x4)) (F99 x2 x5)).fst, (F98 (wr IntKind.i64 (x0 + x3)) (wr IntKind.i64 (x1 + x4)) (F99 x2 x5)).snd.fst, (F98 (wr IntKind.i64 (x0 + x3)) (wr IntKind.i64 (x1 + x4)) (F99 x2 x5)).snd.snd.fst, (F98 (wr IntKind.i64 (x0 + x3)) (wr IntKind.i64 (x1 + x4)) (F99 x2 x5)).snd.snd.snd)
def P80 (x0 : Int) (x1 : Int) (x2 : Int) (x3 : Int) (x4 : Int) (x5 : Int) : Bool := allB [P99 x2 x5, P98 (wr IntKind.i64 (x0 + x3)) (wr IntKind.i64 (x1 + x4)) (F99 x2 x5)]
theorem con80 (x0 : Int) (x1 : Int) (x2 : Int) (x3 : Int) (x4 : Int) (x5 : Int) (h : P80 x0 x1 x2 x3 x4 x5 = true) : Con0 E0 80 [V.agg [V.int IntKind.i64 x0, V.int IntKind.i64 x1, V.int IntKind.i64 x2], V.agg [V.int IntKind.i64 x3, V.int IntKind.i64 x4, V.int IntKind.i64 x5]] [] (V.agg [V.int IntKind.i64 (F80 x0 x1 x2 x3 x4 x5).1, V.int IntKind.i64 (F80 x0 x1 x2 x3 x4 x5).2.1, V.int IntKind.i64 (F80 x0 x1 x2 x3 x4 x5).2.2.1, V.int IntKind.i64 (F80 x0 x1 x2 x3 x4 x5).2.2.2]) [] := by
  have hF : F80 x0 x1 x2 x3 x4 x5 = ((F98 (wr IntKind.i64 (x0 + x3)) (wr IntKind.i64 (x1 + x4)) (F99 x2 x5)).fst, (F98 (wr IntKind.i64 (x0 + x3)) (wr IntKind.i64 (x1 + x4)) (F99 x2 x5)).snd.fst, (F98 (wr IntKind.i64 (x0 + x3)) (wr IntKind.i64 (x1 + x4)) (F99 x2 x5)).snd.snd.fst, (F98 (wr IntKind.i64 (x0 + x3)) (wr IntKind.i64 (x1 + x4)) (F99 x2 x5)).snd.snd.snd) := by unfold F80; rfl
  rw [hF]
  unfold P80 at h
  obtain ⟨q0, q1, _⟩ := bs_of h
  exact leaf0 good0 (F := Tryz.f80) (n := 400) (ds := [Dec.call (V.int IntKind.i64 (F99 x2 x5)) [], Dec.call (V.agg [V.int IntKind.i64 (F98 (wr IntKind.i64 (x0 + x3)) (wr IntKind.i64 (x1 + x4)) (F99 x2 x5)).fst, V.int IntKind.i64 (F98 (wr IntKind.i64 (x0 + x3)) (wr IntKind.i64 (x1 + x4)) (F99 x2 x5)).snd.fst, V.int IntKind.i64 (F98 (wr IntKind.i64 (x0 + x3)) (wr IntKind.i64 (x1 + x4)) (F99 x2 x5)).snd.snd.fst, V.int IntKind.i64 (F98 (wr IntKind.i64 (x0 + x3)) (wr IntKind.i64 (x1 + x4)) (F99 x2 x5)).snd.snd.snd]) []]) (u := V.agg [V.int IntKind.i64 (F98 (wr IntKind.i64 (x0 + x3)) (wr IntKind.i64 (x1 + x4)) (F99 x2 x5)).fst, V.int IntKind.i64 (F98 (wr IntKind.i64 (x0 + x3)) (wr IntKind.i64 (x1 + x4)) (F99 x2 x5)).snd.fst, V.int IntKind.i64 (F98 (wr IntKind.i64 (x0 + x3)) (wr IntKind.i64 (x1 + x4)) (F99 x2 x5)).snd.snd.fst, V.int IntKind.i64 (F98 (wr IntKind.i64 (x0 + x3)) (wr IntKind.i64 (x1 + x4)) (F99 x2 x5)).snd.snd.snd]) (ps := [Con0 E0 99 [V.int IntKind.i64 x2, V.int IntKind.i64 x5] [] (V.int IntKind.i64 (F99 x2 x5)) [], Con0 E0 98 [V.int IntKind.i64 (wr IntKind.i64 (x0 + x3)), V.int IntKind.i64 (wr IntKind.i64 (x1 + x4)), V.int IntKind.i64 (F99 x2 x5)] [] (V.agg [V.int IntKind.i64 (F98 (wr IntKind.i64 (x0 + x3)) (wr IntKind.i64 (x1 + x4)) (F99 x2 x5)).fst, V.int IntKind.i64 (F98 (wr IntKind.i64 (x0 + x3)) (wr IntKind.i64 (x1 + x4)) (F99 x2 x5)).snd.fst, V.int IntKind.i64 (F98 (wr IntKind.i64 (x0 + x3)) (wr IntKind.i64 (x1 + x4)) (F99 x2 x5)).snd.snd.fst, V.int IntKind.i64 (F98 (wr IntKind.i64 (x0 + x3)) (wr IntKind.i64 (x1 + x4)) (F99 x2 x5)).snd.snd.snd]) []]) (by kernel_rfl) (by kernel_rfl) (by kernel_rfl) ⟨con99 (x2) (x5) q0, con98 (wr IntKind.i64 (x0 + x3)) (wr IntKind.i64 (x1 + x4)) (F99 x2 x5) q1, trivial⟩
end Go.Proofs.YtomcbkfnbagekaaGreat
/- Contracts, printed by a program of this session (VP.lean). -/
set_option linter.unusedVariables false
set_option maxRecDepth 100000
namespace Go.Proofs.YtomcbkfnbagekaaGreat
open Go Go.Vm
def F121 (x0 : Int) (x1 : Int) : Int × Bool := (if ((F118 (F128 x0) (F128 x1)).fst == Int.ofNat 0 : Bool) = true then (wr IntKind.i64 (x0 * x1), decide ((F118 (F128 x0) (F128 x1)).snd ≤ Int.ofNat 1099511627776)) else (wr IntKind.i64 (x0 * x1), false))
def P121 (x0 : Int) (x1 : Int) : Bool := (if ((F118 (F128 x0) (F128 x1)).fst == Int.ofNat 0 : Bool) = true then allB [P128 x0, P128 x1, P118 (F128 x0) (F128 x1)] else allB [P128 x0, P128 x1, P118 (F128 x0) (F128 x1)])
theorem con121 (x0 : Int) (x1 : Int) (h : P121 x0 x1 = true) : Con0 E0 121 [V.int IntKind.i64 x0, V.int IntKind.i64 x1] [] (V.tuple [V.int IntKind.i64 (F121 x0 x1).1, V.bool (F121 x0 x1).2]) [] := by
  by_cases c0 : ((F118 (F128 x0) (F128 x1)).fst == Int.ofNat 0 : Bool) = true
  · skip
    have hF : F121 x0 x1 = (wr IntKind.i64 (x0 * x1), decide ((F118 (F128 x0) (F128 x1)).snd ≤ Int.ofNat 1099511627776)) := by unfold F121; rw [if_pos c0]
    rw [hF]
    unfold P121 at h
    rw [if_pos c0] at h
    obtain ⟨q0, q1, q2, _⟩ := bs_of h
    exact leaf0 good0 (F := Tryz.f121) (n := 400) (ds := [Dec.call (V.int IntKind.u64 (F128 x0)) [], Dec.call (V.int IntKind.u64 (F128 x1)) [], Dec.call (V.tuple [V.int IntKind.u64 (F118 (F128 x0) (F128 x1)).fst, V.int IntKind.u64 (F118 (F128 x0) (F128 x1)).snd]) [], Dec.test true, Dec.test true, Dec.test true]) (u := V.tuple [V.int IntKind.i64 (wr IntKind.i64 (x0 * x1)), V.bool (decide ((F118 (F128 x0) (F128 x1)).snd ≤ Int.ofNat 1099511627776))]) (ps := [Con0 E0 128 [V.int IntKind.i64 x0] [] (V.int IntKind.u64 (F128 x0)) [], Con0 E0 128 [V.int IntKind.i64 x1] [] (V.int IntKind.u64 (F128 x1)) [], Con0 E0 118 [V.int IntKind.u64 (F128 x0), V.int IntKind.u64 (F128 x1)] [] (V.tuple [V.int IntKind.u64 (F118 (F128 x0) (F128 x1)).fst, V.int IntKind.u64 (F118 (F128 x0) (F128 x1)).snd]) [], ((F118 (F128 x0) (F128 x1)).fst == Int.ofNat 0) = true, ((F118 (F128 x0) (F128 x1)).fst == Int.ofNat 0) = true, ((F118 (F128 x0) (F128 x1)).fst == Int.ofNat 0) = true]) (by kernel_rfl) (by kernel_rfl) (by kernel_rfl) ⟨con128 (x0) q0, con128 (x1) q1, con118 (F128 x0) (F128 x1) q2, c0, c0, c0, trivial⟩
  · have n0 := c0
    replace c0 := eq_false_of_ne_true c0
    have hF : F121 x0 x1 = (wr IntKind.i64 (x0 * x1), false) := by unfold F121; rw [if_neg n0]
    rw [hF]
    unfold P121 at h
    rw [if_neg n0] at h
    obtain ⟨q0, q1, q2, _⟩ := bs_of h
    exact leaf0 good0 (F := Tryz.f121) (n := 400) (ds := [Dec.call (V.int IntKind.u64 (F128 x0)) [], Dec.call (V.int IntKind.u64 (F128 x1)) [], Dec.call (V.tuple [V.int IntKind.u64 (F118 (F128 x0) (F128 x1)).fst, V.int IntKind.u64 (F118 (F128 x0) (F128 x1)).snd]) [], Dec.test false, Dec.test false, Dec.test false]) (u := V.tuple [V.int IntKind.i64 (wr IntKind.i64 (x0 * x1)), V.bool false]) (ps := [Con0 E0 128 [V.int IntKind.i64 x0] [] (V.int IntKind.u64 (F128 x0)) [], Con0 E0 128 [V.int IntKind.i64 x1] [] (V.int IntKind.u64 (F128 x1)) [], Con0 E0 118 [V.int IntKind.u64 (F128 x0), V.int IntKind.u64 (F128 x1)] [] (V.tuple [V.int IntKind.u64 (F118 (F128 x0) (F128 x1)).fst, V.int IntKind.u64 (F118 (F128 x0) (F128 x1)).snd]) [], ((F118 (F128 x0) (F128 x1)).fst == Int.ofNat 0) = false, ((F118 (F128 x0) (F128 x1)).fst == Int.ofNat 0) = false, ((F118 (F128 x0) (F128 x1)).fst == Int.ofNat 0) = false]) (by kernel_rfl) (by kernel_rfl) (by kernel_rfl) ⟨con128 (x0) q0, con128 (x1) q1, con118 (F128 x0) (F128 x1) q2, c0, c0, c0, trivial⟩
def F56 (x0 : Int) (x1 : Int) (x2 : Int) (x3 : Bool) (x4 : Int) (x5 : Int) (x6 : Int) : Int × Int × Int × Bool := (if (!x3 : Bool) = true then (Int.ofNat 0, Int.ofNat 0, Int.ofNat 0, false) else (if (!F26 x4 x5 x6 : Bool) = true then (Int.ofNat 0, Int.ofNat 0, Int.ofNat 0, false) else ((F80 x0 x1 x2 x4 x5 x6).fst, (F80 x0 x1 x2 x4 x5 x6).snd.fst, (F80 x0 x1 x2 x4 x5 x6).snd.snd.fst, (F80 x0 x1 x2 x4 x5 x6).snd.snd.snd == Int.ofNat 0)))
def P56 (x0 : Int) (x1 : Int) (x2 : Int) (x3 : Bool) (x4 : Int) (x5 : Int) (x6 : Int) : Bool := (if (!x3 : Bool) = true then allB [] else (if (!F26 x4 x5 x6 : Bool) = true then allB [P26 x4 x5 x6] else allB [P26 x4 x5 x6, P80 x0 x1 x2 x4 x5 x6]))
theorem con56 (x0 : Int) (x1 : Int) (x2 : Int) (x3 : Bool) (x4 : Int) (x5 : Int) (x6 : Int) (h : P56 x0 x1 x2 x3 x4 x5 x6 = true) : Con0 E0 56 [V.agg [V.int IntKind.i64 x0, V.int IntKind.i64 x1, V.int IntKind.i64 x2, V.bool x3], V.agg [V.int IntKind.i64 x4, V.int IntKind.i64 x5, V.int IntKind.i64 x6]] [] (V.agg [V.int IntKind.i64 (F56 x0 x1 x2 x3 x4 x5 x6).1, V.int IntKind.i64 (F56 x0 x1 x2 x3 x4 x5 x6).2.1, V.int IntKind.i64 (F56 x0 x1 x2 x3 x4 x5 x6).2.2.1, V.bool (F56 x0 x1 x2 x3 x4 x5 x6).2.2.2]) [] := by
  by_cases c0 : (!x3 : Bool) = true
  · skip
    have hF : F56 x0 x1 x2 x3 x4 x5 x6 = (Int.ofNat 0, Int.ofNat 0, Int.ofNat 0, false) := by unfold F56; rw [if_pos c0]
    rw [hF]
    unfold P56 at h
    rw [if_pos c0] at h
    exact leaf0 good0 (F := Tryz.f56) (n := 400) (ds := [Dec.test true, Dec.test true, Dec.test true, Dec.test true, Dec.lit]) (u := V.agg [V.int IntKind.i64 (Int.ofNat 0), V.int IntKind.i64 (Int.ofNat 0), V.int IntKind.i64 (Int.ofNat 0), V.bool false]) (ps := [(!x3) = true, (!x3) = true, (!x3) = true, (!x3) = true]) (by kernel_rfl) (by kernel_rfl) (by kernel_rfl) ⟨c0, c0, c0, c0, trivial⟩
  · have n0 := c0
    replace c0 := eq_false_of_ne_true c0
    by_cases c1 : (!F26 x4 x5 x6 : Bool) = true
    · skip
      have hF : F56 x0 x1 x2 x3 x4 x5 x6 = (Int.ofNat 0, Int.ofNat 0, Int.ofNat 0, false) := by unfold F56; rw [if_neg n0, if_pos c1]
      rw [hF]
      unfold P56 at h
      rw [if_neg n0, if_pos c1] at h
      obtain ⟨q0, _⟩ := bs_of h
      exact leaf0 good0 (F := Tryz.f56) (n := 400) (ds := [Dec.test false, Dec.test false, Dec.call (V.bool (F26 x4 x5 x6)) [], Dec.test false, Dec.test false, Dec.test true]) (u := V.agg [V.int IntKind.i64 (Int.ofNat 0), V.int IntKind.i64 (Int.ofNat 0), V.int IntKind.i64 (Int.ofNat 0), V.bool false]) (ps := [(!x3) = false, (!x3) = false, Con0 E0 26 [V.agg [V.int IntKind.i64 x4, V.int IntKind.i64 x5, V.int IntKind.i64 x6]] [] (V.bool (F26 x4 x5 x6)) [], (!x3) = false, (!x3) = false, (!F26 x4 x5 x6) = true]) (by kernel_rfl) (by kernel_rfl) (by kernel_rfl) ⟨c0, c0, con26 (x4) (x5) (x6) q0, c0, c0, c1, trivial⟩
    · have n1 := c1
      replace c1 := eq_false_of_ne_true c1
      have hF : F56 x0 x1 x2 x3 x4 x5 x6 = ((F80 x0 x1 x2 x4 x5 x6).fst, (F80 x0 x1 x2 x4 x5 x6).snd.fst, (F80 x0 x1 x2 x4 x5 x6).snd.snd.fst, (F80 x0 x1 x2 x4 x5 x6).snd.snd.snd == Int.ofNat 0) := by unfold F56; rw [if_neg n0, if_neg n1]
      rw [hF]
      unfold P56 at h
      rw [if_neg n0, if_neg n1] at h
      obtain ⟨q0, q1, _⟩ := bs_of h
      exact leaf0 good0 (F := Tryz.f56) (n := 400) (ds := [Dec.test false, Dec.test false, Dec.call (V.bool (F26 x4 x5 x6)) [], Dec.test false, Dec.test false, Dec.test false, Dec.call (V.agg [V.int IntKind.i64 (F80 x0 x1 x2 x4 x5 x6).fst, V.int IntKind.i64 (F80 x0 x1 x2 x4 x5 x6).snd.fst, V.int IntKind.i64 (F80 x0 x1 x2 x4 x5 x6).snd.snd.fst, V.int IntKind.i64 (F80 x0 x1 x2 x4 x5 x6).snd.snd.snd]) []]) (u := V.agg [V.int IntKind.i64 (F80 x0 x1 x2 x4 x5 x6).fst, V.int IntKind.i64 (F80 x0 x1 x2 x4 x5 x6).snd.fst, V.int IntKind.i64 (F80 x0 x1 x2 x4 x5 x6).snd.snd.fst, V.bool ((F80 x0 x1 x2 x4 x5 x6).snd.snd.snd == Int.ofNat 0)]) (ps := [(!x3) = false, (!x3) = false, Con0 E0 26 [V.agg [V.int IntKind.i64 x4, V.int IntKind.i64 x5, V.int IntKind.i64 x6]] [] (V.bool (F26 x4 x5 x6)) [], (!x3) = false, (!x3) = false, (!F26 x4 x5 x6) = false, Con0 E0 80 [V.agg [V.int IntKind.i64 x0, V.int IntKind.i64 x1, V.int IntKind.i64 x2], V.agg [V.int IntKind.i64 x4, V.int IntKind.i64 x5, V.int IntKind.i64 x6]] [] (V.agg [V.int IntKind.i64 (F80 x0 x1 x2 x4 x5 x6).fst, V.int IntKind.i64 (F80 x0 x1 x2 x4 x5 x6).snd.fst, V.int IntKind.i64 (F80 x0 x1 x2 x4 x5 x6).snd.snd.fst, V.int IntKind.i64 (F80 x0 x1 x2 x4 x5 x6).snd.snd.snd]) []]) (by kernel_rfl) (by kernel_rfl) (by kernel_rfl) ⟨c0, c0, con26 (x4) (x5) (x6) q0, c0, c0, c1, con80 (x0) (x1) (x2) (x4) (x5) (x6) q1, trivial⟩
end Go.Proofs.YtomcbkfnbagekaaGreat
