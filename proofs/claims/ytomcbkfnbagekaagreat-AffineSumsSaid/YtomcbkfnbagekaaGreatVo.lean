/- A part of the proof that the law of the statement is true of all inputs: VT1a. -/
import Derived.Test.YtomcbkfnbagekaaGreatVn
/- Contracts, printed by a program of this session. -/
set_option linter.unusedVariables false
set_option maxRecDepth 100000
namespace Go.Proofs.YtomcbkfnbagekaaGreat
open Go Go.Vm
abbrev vt1_o0  : AObj C0 := AObj.cells [V.sl 1 0 9 9, vi (Int.ofNat 5), v0, v0, v0, V.int IntKind.i32 (Int.ofNat 0), v0, v0, V.int IntKind.i32 (Int.ofNat 0), v0, v0, V.int IntKind.i32 (Int.ofNat 0), v0, v0] 37
abbrev vt1_o1 (a0 : Int) (a1 : Int) (a2 : Int) (a3 : Int) : AObj C0 := AObj.cells [vi (Int.ofNat 5), vi (Int.ofNat 1), v0, vi (Int.ofNat 2), v0, V.int IntKind.i32 (Int.ofNat 0), v0, v0, V.int IntKind.i32 (Int.ofNat 0), v0, v0, V.int IntKind.i32 (Int.ofNat 0), v0, v0, V.int IntKind.i32 (Int.ofNat 0), vi (Int.ofNat 5), vi (Int.ofNat 2), v0, vi (Int.ofNat 2), vi (Int.ofNat 1), V.int IntKind.i32 (Int.ofNat 0), v0, v0, V.int IntKind.i32 (Int.ofNat 0), v0, v0, V.int IntKind.i32 (Int.ofNat 0), v0, v0, V.int IntKind.i32 (Int.ofNat 0), vi (Int.ofNat 5), vi (Int.ofNat 3), v0, vi (Int.ofNat 2), vi (Int.ofNat 2), V.int IntKind.i32 (Int.ofNat 0), v0, v0, V.int IntKind.i32 (Int.ofNat 0), v0, v0, V.int IntKind.i32 (Int.ofNat 0), v0, v0, V.int IntKind.i32 (Int.ofNat 0), vi (Int.ofNat 3), vi (Int.ofNat 12), v0, vi (Int.ofNat 2), vi (Int.ofNat 3), V.int IntKind.i32 (Int.ofNat 0), vi (Int.ofNat 1), v0, V.int IntKind.i32 a0, vi (Int.ofNat 2), v0, V.int IntKind.i32 (Int.ofNat 0), v0, v0, V.int IntKind.i32 (Int.ofNat 0), vi (Int.ofNat 3), vi (Int.ofNat 12), v0, vi (Int.ofNat 2), vi (Int.ofNat 4), V.int IntKind.i32 (Int.ofNat 0), vi (Int.ofNat 1), v0, V.int IntKind.i32 a1, vi (Int.ofNat 2), vi (Int.ofNat 1), V.int IntKind.i32 (Int.ofNat 0), v0, v0, V.int IntKind.i32 (Int.ofNat 0), vi (Int.ofNat 3), vi (Int.ofNat 12), v0, vi (Int.ofNat 2), vi (Int.ofNat 5), V.int IntKind.i32 (Int.ofNat 0), vi (Int.ofNat 1), v0, V.int IntKind.i32 a2, vi (Int.ofNat 2), vi (Int.ofNat 2), V.int IntKind.i32 (Int.ofNat 0), v0, v0, V.int IntKind.i32 (Int.ofNat 0), vi (Int.ofNat 3), vi (Int.ofNat 10), v0, vi (Int.ofNat 2), vi (Int.ofNat 6), V.int IntKind.i32 (Int.ofNat 0), vi (Int.ofNat 2), vi (Int.ofNat 3), V.int IntKind.i32 (Int.ofNat 0), vi (Int.ofNat 1), v0, V.int IntKind.i32 a3, v0, v0, V.int IntKind.i32 (Int.ofNat 0), vi (Int.ofNat 3), vi (Int.ofNat 10), v0, vi (Int.ofNat 2), vi (Int.ofNat 6), V.int IntKind.i32 (Int.ofNat 0), vi (Int.ofNat 2), vi (Int.ofNat 6), V.int IntKind.i32 (Int.ofNat 0), vi (Int.ofNat 2), vi (Int.ofNat 4), V.int IntKind.i32 (Int.ofNat 0), v0, v0, V.int IntKind.i32 (Int.ofNat 0), vi (Int.ofNat 3), vi (Int.ofNat 11), v0, vi (Int.ofNat 2), vi (Int.ofNat 6), V.int IntKind.i32 (Int.ofNat 0), vi (Int.ofNat 2), vi (Int.ofNat 6), V.int IntKind.i32 (Int.ofNat 0), vi (Int.ofNat 2), vi (Int.ofNat 5), V.int IntKind.i32 (Int.ofNat 0), v0, v0, V.int IntKind.i32 (Int.ofNat 0)] 56
abbrev vt1_o2  : AObj C0 := AObj.cells [V.bool false, v0, v0, v0, v0, v0, v0, V.bool false, v0, v0, v0, v0, v0, v0, V.bool false, v0, v0, v0, v0, v0, v0, V.bool false, v0, v0, v0, v0, v0, v0, V.bool false, v0, v0, v0, v0, v0, v0, V.bool false, v0, v0, v0, v0, v0, v0, V.bool false, v0, v0, v0, v0, v0, v0] 47
abbrev vt1_o3  : AObj C0 := AObj.cells [V.sl 2 0 9 9, vi (Int.ofNat 5), v0, v0, v0, V.int IntKind.i32 (Int.ofNat 0), v0, v0, V.int IntKind.i32 (Int.ofNat 0), v0, v0, V.int IntKind.i32 (Int.ofNat 0), v0, v0] 37
abbrev vt1_o4 (a0 : Bool) (a1 : Int) (a2 : Int) (a3 : Int) (a4 : Int) (a5 : Int) (a6 : Int) : AObj C0 := AObj.cells [V.bool a0, vi a1, vi a2, vi a3, vi a4, vi a5, vi a6, V.bool false, v0, v0, v0, v0, v0, v0, V.bool false, v0, v0, v0, v0, v0, v0, V.bool false, v0, v0, v0, v0, v0, v0, V.bool false, v0, v0, v0, v0, v0, v0, V.bool false, v0, v0, v0, v0, v0, v0, V.bool false, v0, v0, v0, v0, v0, v0] 47
abbrev vt1_o5 (a0 : Bool) (a1 : Int) (a2 : Int) (a3 : Int) (a4 : Int) (a5 : Int) (a6 : Int) (a7 : Bool) (a8 : Int) (a9 : Int) (a10 : Int) (a11 : Int) (a12 : Int) (a13 : Int) : AObj C0 := AObj.cells [V.bool a0, vi a1, vi a2, vi a3, vi a4, vi a5, vi a6, V.bool a7, vi a8, vi a9, vi a10, vi a11, vi a12, vi a13, V.bool false, v0, v0, v0, v0, v0, v0, V.bool false, v0, v0, v0, v0, v0, v0, V.bool false, v0, v0, v0, v0, v0, v0, V.bool false, v0, v0, v0, v0, v0, v0, V.bool false, v0, v0, v0, v0, v0, v0] 47
abbrev vt1_o6 (a0 : Bool) (a1 : Int) (a2 : Int) (a3 : Int) (a4 : Int) (a5 : Int) (a6 : Int) (a7 : Bool) (a8 : Int) (a9 : Int) (a10 : Int) (a11 : Int) (a12 : Int) (a13 : Int) (a14 : Bool) (a15 : Int) (a16 : Int) (a17 : Int) (a18 : Int) (a19 : Int) (a20 : Int) : AObj C0 := AObj.cells [V.bool a0, vi a1, vi a2, vi a3, vi a4, vi a5, vi a6, V.bool a7, vi a8, vi a9, vi a10, vi a11, vi a12, vi a13, V.bool a14, vi a15, vi a16, vi a17, vi a18, vi a19, vi a20, V.bool false, v0, v0, v0, v0, v0, v0, V.bool false, v0, v0, v0, v0, v0, v0, V.bool false, v0, v0, v0, v0, v0, v0, V.bool false, v0, v0, v0, v0, v0, v0] 47
abbrev vt1_o7 (a0 : Bool) (a1 : Int) (a2 : Int) (a3 : Int) (a4 : Int) (a5 : Int) (a6 : Int) (a7 : Bool) (a8 : Int) (a9 : Int) (a10 : Int) (a11 : Int) (a12 : Int) (a13 : Int) (a14 : Bool) (a15 : Int) (a16 : Int) (a17 : Int) (a18 : Int) (a19 : Int) (a20 : Int) (a21 : Bool) (a22 : Int) (a23 : Int) (a24 : Int) (a25 : Int) (a26 : Int) (a27 : Int) : AObj C0 := AObj.cells [V.bool a0, vi a1, vi a2, vi a3, vi a4, vi a5, vi a6, V.bool a7, vi a8, vi a9, vi a10, vi a11, vi a12, vi a13, V.bool a14, vi a15, vi a16, vi a17, vi a18, vi a19, vi a20, V.bool a21, vi a22, vi a23, vi a24, vi a25, vi a26, vi a27, V.bool false, v0, v0, v0, v0, v0, v0, V.bool false, v0, v0, v0, v0, v0, v0, V.bool false, v0, v0, v0, v0, v0, v0] 47
abbrev vt1_o8 (a0 : Bool) (a1 : Int) (a2 : Int) (a3 : Int) (a4 : Int) (a5 : Int) (a6 : Int) (a7 : Bool) (a8 : Int) (a9 : Int) (a10 : Int) (a11 : Int) (a12 : Int) (a13 : Int) (a14 : Bool) (a15 : Int) (a16 : Int) (a17 : Int) (a18 : Int) (a19 : Int) (a20 : Int) (a21 : Bool) (a22 : Int) (a23 : Int) (a24 : Int) (a25 : Int) (a26 : Int) (a27 : Int) (a28 : Bool) (a29 : Int) (a30 : Int) (a31 : Int) (a32 : Int) (a33 : Int) (a34 : Int) : AObj C0 := AObj.cells [V.bool a0, vi a1, vi a2, vi a3, vi a4, vi a5, vi a6, V.bool a7, vi a8, vi a9, vi a10, vi a11, vi a12, vi a13, V.bool a14, vi a15, vi a16, vi a17, vi a18, vi a19, vi a20, V.bool a21, vi a22, vi a23, vi a24, vi a25, vi a26, vi a27, V.bool a28, vi a29, vi a30, vi a31, vi a32, vi a33, vi a34, V.bool false, v0, v0, v0, v0, v0, v0, V.bool false, v0, v0, v0, v0, v0, v0] 47
abbrev vt1_o9 (a0 : Bool) (a1 : Int) (a2 : Int) (a3 : Int) (a4 : Int) (a5 : Int) (a6 : Int) (a7 : Bool) (a8 : Int) (a9 : Int) (a10 : Int) (a11 : Int) (a12 : Int) (a13 : Int) (a14 : Bool) (a15 : Int) (a16 : Int) (a17 : Int) (a18 : Int) (a19 : Int) (a20 : Int) (a21 : Bool) (a22 : Int) (a23 : Int) (a24 : Int) (a25 : Int) (a26 : Int) (a27 : Int) (a28 : Bool) (a29 : Int) (a30 : Int) (a31 : Int) (a32 : Int) (a33 : Int) (a34 : Int) (a35 : Bool) (a36 : Int) (a37 : Int) (a38 : Int) (a39 : Int) (a40 : Int) (a41 : Int) : AObj C0 := AObj.cells [V.bool a0, vi a1, vi a2, vi a3, vi a4, vi a5, vi a6, V.bool a7, vi a8, vi a9, vi a10, vi a11, vi a12, vi a13, V.bool a14, vi a15, vi a16, vi a17, vi a18, vi a19, vi a20, V.bool a21, vi a22, vi a23, vi a24, vi a25, vi a26, vi a27, V.bool a28, vi a29, vi a30, vi a31, vi a32, vi a33, vi a34, V.bool a35, vi a36, vi a37, vi a38, vi a39, vi a40, vi a41, V.bool false, v0, v0, v0, v0, v0, v0] 47
abbrev vt1_o10 (a0 : Bool) (a1 : Int) (a2 : Int) (a3 : Int) (a4 : Int) (a5 : Int) (a6 : Int) (a7 : Bool) (a8 : Int) (a9 : Int) (a10 : Int) (a11 : Int) (a12 : Int) (a13 : Int) (a14 : Bool) (a15 : Int) (a16 : Int) (a17 : Int) (a18 : Int) (a19 : Int) (a20 : Int) (a21 : Bool) (a22 : Int) (a23 : Int) (a24 : Int) (a25 : Int) (a26 : Int) (a27 : Int) (a28 : Bool) (a29 : Int) (a30 : Int) (a31 : Int) (a32 : Int) (a33 : Int) (a34 : Int) (a35 : Bool) (a36 : Int) (a37 : Int) (a38 : Int) (a39 : Int) (a40 : Int) (a41 : Int) (a42 : Bool) (a43 : Int) (a44 : Int) (a45 : Int) (a46 : Int) (a47 : Int) (a48 : Int) : AObj C0 := AObj.cells [V.bool a0, vi a1, vi a2, vi a3, vi a4, vi a5, vi a6, V.bool a7, vi a8, vi a9, vi a10, vi a11, vi a12, vi a13, V.bool a14, vi a15, vi a16, vi a17, vi a18, vi a19, vi a20, V.bool a21, vi a22, vi a23, vi a24, vi a25, vi a26, vi a27, V.bool a28, vi a29, vi a30, vi a31, vi a32, vi a33, vi a34, V.bool a35, vi a36, vi a37, vi a38, vi a39, vi a40, vi a41, V.bool a42, vi a43, vi a44, vi a45, vi a46, vi a47, vi a48] 47
abbrev vt1_o11 (a0 : Int) (a1 : Int) : AObj C0 := AObj.cells [vi a0, vi (Int.ofNat 1), vi (Int.ofNat 7), v0, v0, V.nilSl, V.nilSl, V.sl 1 0 1 1, vi a1] 89
abbrev vt1_o12 (a0 : Int) (a1 : Int) : AObj C0 := AObj.cells [vi a0, vi (Int.ofNat 1), vi (Int.ofNat 7), v0, v0, V.nilSl, V.nilSl, V.sl 2 0 1 1, vi a1] 89
abbrev vt1_o13  : AObj C0 := AObj.cells [V.sl 3 0 9 9, vi (Int.ofNat 5), v0, v0, v0, V.int IntKind.i32 (Int.ofNat 0), v0, v0, V.int IntKind.i32 (Int.ofNat 0), v0, v0, V.int IntKind.i32 (Int.ofNat 0), v0, v0] 37
abbrev vt1_o14 (a0 : Int) : AObj C0 := AObj.cells [vi a0, vi (Int.ofNat 1), vi (Int.ofNat 7), v0, v0, V.nilSl, V.nilSl, V.sl 3 0 1 1] 42
abbrev vt1_o15 (a0 : Bool) (a1 : Int) (a2 : Int) (a3 : Int) (a4 : Int) (a5 : Int) (a6 : Int) : AObj C0 := AObj.cells [V.bool a0, vi a1, vi a2, vi a3, vi a4, vi a5, vi a6] 47
abbrev vt1_o16  : AObj C0 := AObj.cells [V.sl 4 0 9 9, vi (Int.ofNat 5), v0, v0, v0, V.int IntKind.i32 (Int.ofNat 0), v0, v0, V.int IntKind.i32 (Int.ofNat 0), v0, v0, V.int IntKind.i32 (Int.ofNat 0), v0, v0] 37
def F34z1 (x0 x1 x2 x3 x4 x5 : Int) : Unit := ()
def P34z1 (x0 x1 x2 x3 x4 x5 : Int) : Bool := allB []
theorem con34z1_v (x0 x1 x2 x3 x4 x5 : Int) (v : Unit) (hv : F34z1 x0 x1 x2 x3 x4 x5 = v) (h : P34z1 x0 x1 x2 x3 x4 x5 = true) : Con0 E0 34 [V.agg [vi x0, vi (Int.ofNat 1), vi (Int.ofNat 7), v0, v0, V.nilSl, V.nilSl, V.sl 0 0 1 1, vi x1]] [vt1_o0, vt1_o1 x2 x3 x4 x5] (V.sl 2 0 7 7) ([vt1_o0, vt1_o1 (x2) (x3) (x4) (x5), vt1_o2]) := by
  unfold F34z1 at hv
  unfold P34z1 at h
  subst hv
  exact leafE good0 (F := Tryz.f34) (n := 2000) (ds := []) (L := [0, 1, 3]) (by kernel_rfl) (by kernel_rfl) (by kernel_rfl) (apc (p := (true) = true) rfl (apc (p := (true) = true) rfl (apc (p := (true) = true) rfl apn)))
def F61z3  : Unit := ()
def P61z3  : Bool := allB []
theorem con61z3_v  (v : Unit) (hv : F61z3  = v) (h : P61z3  = true) : Con0 E0 61 [V.sl 0 0 7 7] [vt1_o2] (V.sl 1 0 7 7) ([vt1_o2, vt1_o2]) := by
  unfold F61z3 at hv
  unfold P61z3 at h
  subst hv
  exact leafE good0 (F := Tryz.f61) (n := 2000) (ds := [dL]) (L := [0, 2]) (by kernel_rfl) (by kernel_rfl) (by kernel_rfl) (apc (p := (true) = true) rfl (apc (p := (true) = true) rfl apn))
def F33z2 (x0 x1 x2 x3 x4 x5 : Int) : Unit := (())
def P33z2 (x0 x1 x2 x3 x4 x5 : Int) : Bool := (P61z3  && allB [])
theorem con33z2_v (x0 x1 x2 x3 x4 x5 : Int) (v : Unit) (hv : F33z2 x0 x1 x2 x3 x4 x5 = v) (h : P33z2 x0 x1 x2 x3 x4 x5 = true) : Con0 E0 33 [V.agg [vi x0, vi (Int.ofNat 1), vi (Int.ofNat 7), v0, v0, V.nilSl, V.nilSl, V.sl 0 0 1 1, vi x1], V.sl 1 0 7 7, v0] [vt1_o3, vt1_o2, vt1_o1 x2 x3 x4 x5] (V.sl 3 0 7 7) ([vt1_o3, vt1_o2, vt1_o1 (x2) (x3) (x4) (x5), vt1_o2]) := by
  unfold F33z2 at hv
  unfold P33z2 at h
  obtain ⟨z0, h⟩ := and_parts h
  have k0 := con61z3_v  _ rfl z0
  subst hv
  exact leafE good0 (F := Tryz.f33) (n := 2000) (ds := [dc k0, Dec.turn 20, dL, dL]) (L := [0, 1, 2, 4]) (by kernel_rfl) (by kernel_rfl) (by kernel_rfl) (apc k0 apn)
def F45z6  : Unit := (())
def P45z6  : Bool := (P43 (Int.ofNat 0) && allB [])
theorem con45z6_v  (v : Unit) (hv : F45z6  = v) (h : P45z6  = true) : Con0 E0 45 [V.sl 0 0 7 7, V.agg [v0, v0, V.int IntKind.i32 (Int.ofNat 0)]] [vt1_o2] (V.agg [V.bool (false), v0, v0, v0, v0, v0, v0]) ([vt1_o2]) := by
  unfold F45z6 at hv
  unfold P45z6 at h
  obtain ⟨z0, h⟩ := and_parts h
  have k0 : Con0 E0 43 [v0] [] (V.agg [V.bool false, v0, v0, v0, v0, v0, v0]) [] := con43 (Int.ofNat 0) z0
  subst hv
  exact leafE good0 (F := Tryz.f45) (n := 2000) (ds := [dL, dc k0]) (L := [0]) (by kernel_rfl) (by kernel_rfl) (by kernel_rfl) (apc k0 apn)
def F75z9 (x0 x1 x2 x3 x4 x5 : Int) (x6 : Bool) (x7 x8 x9 x10 x11 x12 x13 x14 x15 x16 : Int) : Int × Int × Int := (if (x5 == Int.ofNat 1 : Bool) = true then (if (x0 == Int.ofNat 1 : Bool) = true then ((Int.ofNat 0), (Int.ofNat 0), (Int.ofNat 0)) else (if (wr IntKind.i64 (x8 + x7) != Int.ofNat 0 : Bool) = true then (if (Int.ofNat 0 == wr IntKind.i64 (wr IntKind.i64 (x8 + x7) * x0) : Bool) = true then ((wr IntKind.i64 (x8 + x7)), (Int.ofNat 0), (Int.ofNat 0)) else ((Int.ofNat 0), (wr IntKind.i64 (x8 + x7)), (Int.ofNat 0))) else ((Int.ofNat 0), (wr IntKind.i64 (x8 + x7)), (Int.ofNat 0)))) else (if (x0 == Int.ofNat 1 : Bool) = true then ((Int.ofNat 0), (Int.ofNat 0), (wr IntKind.i64 (x9 + wr IntKind.i64 (x7 * x0)))) else (if (wr IntKind.i64 (x8 + x7) != Int.ofNat 0 : Bool) = true then (if (wr IntKind.i64 (x9 + wr IntKind.i64 (x7 * x0)) == wr IntKind.i64 (wr IntKind.i64 (x8 + x7) * x0) : Bool) = true then ((wr IntKind.i64 (x8 + x7)), (Int.ofNat 0), (Int.ofNat 0)) else ((Int.ofNat 0), (wr IntKind.i64 (x8 + x7)), (wr IntKind.i64 (x9 + wr IntKind.i64 (x7 * x0))))) else ((Int.ofNat 0), (wr IntKind.i64 (x8 + x7)), (wr IntKind.i64 (x9 + wr IntKind.i64 (x7 * x0)))))))
def P75z9 (x0 x1 x2 x3 x4 x5 : Int) (x6 : Bool) (x7 x8 x9 x10 x11 x12 x13 x14 x15 x16 : Int) : Bool := (if (x5 == Int.ofNat 1 : Bool) = true then (if (x0 == Int.ofNat 1 : Bool) = true then allB [] else (if (wr IntKind.i64 (x8 + x7) != Int.ofNat 0 : Bool) = true then (if (Int.ofNat 0 == wr IntKind.i64 (wr IntKind.i64 (x8 + x7) * x0) : Bool) = true then allB [] else allB []) else allB [])) else (if (x0 == Int.ofNat 1 : Bool) = true then allB [] else (if (wr IntKind.i64 (x8 + x7) != Int.ofNat 0 : Bool) = true then (if (wr IntKind.i64 (x9 + wr IntKind.i64 (x7 * x0)) == wr IntKind.i64 (wr IntKind.i64 (x8 + x7) * x0) : Bool) = true then allB [] else allB []) else allB [])))
theorem con75z9_v (x0 x1 x2 x3 x4 x5 : Int) (x6 : Bool) (x7 x8 x9 x10 x11 x12 x13 x14 x15 x16 : Int) (v : Int × Int × Int) (hv : F75z9 x0 x1 x2 x3 x4 x5 x6 x7 x8 x9 x10 x11 x12 x13 x14 x15 x16 = v) (h : P75z9 x0 x1 x2 x3 x4 x5 x6 x7 x8 x9 x10 x11 x12 x13 x14 x15 x16 = true) : Con0 E0 75 [V.agg [vi x0, vi x1, vi x2, vi x3, vi x4, V.nilSl, V.nilSl, V.sl 0 0 1 1, vi x5], V.agg [V.bool x6, vi x7, vi x8, vi x9, vi x10, vi x11, vi x12]] [vt1_o0, vt1_o1 x13 x14 x15 x16] (V.agg [V.bool (x6), vi v.1, vi v.2.1, vi v.2.2, vi (x10), vi (x11), vi (x12)]) ([vt1_o0, vt1_o1 (x13) (x14) (x15) (x16)]) := by
  unfold F75z9 at hv
  unfold P75z9 at h
  by_cases c0 : (x5 == Int.ofNat 1 : Bool) = true
  · rw [if_pos c0] at hv h
    by_cases c1 : (x0 == Int.ofNat 1 : Bool) = true
    · rw [if_pos c1] at hv h
      subst hv
      exact leafE good0 (F := Tryz.f75) (n := 2000) (ds := [dT, dT, dL, dL, dL, dL, dL, dL, dL, dL, dL]) (L := [0, 1]) (by kernel_rfl) (by kernel_rfl) (by kernel_rfl) (apc c0 (apc c1 apn))
    · rw [if_neg c1] at hv h
      replace c1 := eq_false_of_ne_true c1
      by_cases c2 : (wr IntKind.i64 (x8 + x7) != Int.ofNat 0 : Bool) = true
      · rw [if_pos c2] at hv h
        by_cases c3 : (Int.ofNat 0 == wr IntKind.i64 (wr IntKind.i64 (x8 + x7) * x0) : Bool) = true
        · rw [if_pos c3] at hv h
          subst hv
          exact leafE good0 (F := Tryz.f75) (n := 2000) (ds := [dT, dF, dT, dT, dT, dT, dT, dT, dT, dT, dT]) (L := [0, 1]) (by kernel_rfl) (by kernel_rfl) (by kernel_rfl) (apc c0 (apc c1 (apc c2 (apc c2 (apc c2 (apc c2 (apc c2 (apc c2 (apc c2 (apc c2 (apc c3 apn)))))))))))
        · rw [if_neg c3] at hv h
          replace c3 := eq_false_of_ne_true c3
          subst hv
          exact leafE good0 (F := Tryz.f75) (n := 2000) (ds := [dT, dF, dT, dT, dT, dT, dT, dT, dT, dT, dF]) (L := [0, 1]) (by kernel_rfl) (by kernel_rfl) (by kernel_rfl) (apc c0 (apc c1 (apc c2 (apc c2 (apc c2 (apc c2 (apc c2 (apc c2 (apc c2 (apc c2 (apc c3 apn)))))))))))
      · rw [if_neg c2] at hv h
        replace c2 := eq_false_of_ne_true c2
        subst hv
        exact leafE good0 (F := Tryz.f75) (n := 2000) (ds := [dT, dF, dF, dF, dF, dF, dF, dF, dF, dF, dL]) (L := [0, 1]) (by kernel_rfl) (by kernel_rfl) (by kernel_rfl) (apc c0 (apc c1 (apc c2 (apc c2 (apc c2 (apc c2 (apc c2 (apc c2 (apc c2 (apc c2 apn))))))))))
  · rw [if_neg c0] at hv h
    replace c0 := eq_false_of_ne_true c0
    by_cases c1 : (x0 == Int.ofNat 1 : Bool) = true
    · rw [if_pos c1] at hv h
      subst hv
      exact leafE good0 (F := Tryz.f75) (n := 2000) (ds := [dF, dT, dL, dL, dL, dL, dL, dL, dL, dL, dL]) (L := [0, 1]) (by kernel_rfl) (by kernel_rfl) (by kernel_rfl) (apc c0 (apc c1 apn))
    · rw [if_neg c1] at hv h
      replace c1 := eq_false_of_ne_true c1
      by_cases c2 : (wr IntKind.i64 (x8 + x7) != Int.ofNat 0 : Bool) = true
      · rw [if_pos c2] at hv h
        by_cases c3 : (wr IntKind.i64 (x9 + wr IntKind.i64 (x7 * x0)) == wr IntKind.i64 (wr IntKind.i64 (x8 + x7) * x0) : Bool) = true
        · rw [if_pos c3] at hv h
          subst hv
          exact leafE good0 (F := Tryz.f75) (n := 2000) (ds := [dF, dF, dT, dT, dT, dT, dT, dT, dT, dT, dT]) (L := [0, 1]) (by kernel_rfl) (by kernel_rfl) (by kernel_rfl) (apc c0 (apc c1 (apc c2 (apc c2 (apc c2 (apc c2 (apc c2 (apc c2 (apc c2 (apc c2 (apc c3 apn)))))))))))
        · rw [if_neg c3] at hv h
          replace c3 := eq_false_of_ne_true c3
          subst hv
          exact leafE good0 (F := Tryz.f75) (n := 2000) (ds := [dF, dF, dT, dT, dT, dT, dT, dT, dT, dT, dF]) (L := [0, 1]) (by kernel_rfl) (by kernel_rfl) (by kernel_rfl) (apc c0 (apc c1 (apc c2 (apc c2 (apc c2 (apc c2 (apc c2 (apc c2 (apc c2 (apc c2 (apc c3 apn)))))))))))
      · rw [if_neg c2] at hv h
        replace c2 := eq_false_of_ne_true c2
        subst hv
        exact leafE good0 (F := Tryz.f75) (n := 2000) (ds := [dF, dF, dF, dF, dF, dF, dF, dF, dF, dF, dL]) (L := [0, 1]) (by kernel_rfl) (by kernel_rfl) (by kernel_rfl) (apc c0 (apc c1 (apc c2 (apc c2 (apc c2 (apc c2 (apc c2 (apc c2 (apc c2 (apc c2 apn))))))))))
def F31z11_r49 (r49 : Int × Int × Int × Int) : Int × Int × Int × Bool := (if (r49.snd.snd.snd != Int.ofNat 0 : Bool) = true then ((Int.ofNat 0), (Int.ofNat 0), (Int.ofNat 0), (false)) else ((r49.fst), (r49.snd.fst), (r49.snd.snd.fst), (true)))
def F31z11_r48 (r47 : Int × Int × Int × Int) (r48 : Int × Int × Int × Bool) : Int × Int × Int × Bool := (if (!r48.snd.snd.snd : Bool) = true then ((Int.ofNat 0), (Int.ofNat 0), (Int.ofNat 0), (false)) else (F31z11_r49  (F60 r47.fst r47.snd.fst r47.snd.snd.fst r48.fst r48.snd.fst r48.snd.snd.fst)))
def F31z11_r47 (x5 x9 : Int) (r47 : Int × Int × Int × Int) : Int × Int × Int × Bool := (if (r47.snd.snd.snd != Int.ofNat 0 : Bool) = true then ((Int.ofNat 0), (Int.ofNat 0), (Int.ofNat 0), (false)) else (F31z11_r48 r47 (F59 x9 x5)))
def F31z11_r46 (x5 x9 : Int) (r45 : Int × Int × Int × Int) (r46 : Int × Int × Int × Bool) : Int × Int × Int × Bool := (if (!r46.snd.snd.snd : Bool) = true then ((Int.ofNat 0), (Int.ofNat 0), (Int.ofNat 0), (false)) else (F31z11_r47 x5 x9 (F60 r45.fst r45.snd.fst r45.snd.snd.fst r46.fst r46.snd.fst r46.snd.snd.fst)))
def F31z11_r45 (x0 x5 x8 x9 : Int) (r45 : Int × Int × Int × Int) : Int × Int × Int × Bool := (if (r45.snd.snd.snd != Int.ofNat 0 : Bool) = true then ((Int.ofNat 0), (Int.ofNat 0), (Int.ofNat 0), (false)) else (F31z11_r46 x5 x9 r45 (F59 x8 x0)))
def F31z11_r44 (x0 x5 x8 x9 x10 x11 x12 : Int) (r44 : Int × Int × Int × Bool) : Int × Int × Int × Bool := (if (!r44.snd.snd.snd : Bool) = true then ((Int.ofNat 0), (Int.ofNat 0), (Int.ofNat 0), (false)) else (F31z11_r45 x0 x5 x8 x9 (F60 x10 x11 x12 r44.fst r44.snd.fst r44.snd.snd.fst)))
def F31z11_r43 (x0 x5 x7 x8 x9 x10 x11 x12 : Int) (r43 : Bool) : Int × Int × Int × Bool := (if (!r43 : Bool) = true then ((Int.ofNat 0), (Int.ofNat 0), (Int.ofNat 0), (false)) else (F31z11_r44 x0 x5 x8 x9 x10 x11 x12 (F59 x7 (wr IntKind.i64 (x5 * x0)))))
def F31z11 (x0 x1 x2 x3 x4 x5 : Int) (x6 : Bool) (x7 x8 x9 x10 x11 x12 x13 x14 x15 x16 : Int) : Int × Int × Int × Bool := (if (x6 : Bool) = true then ((Int.ofNat 0), (Int.ofNat 0), (Int.ofNat 0), (false)) else (F31z11_r43 x0 x5 x7 x8 x9 x10 x11 x12 (F58 x10 x11 x12)))
def P31z11_r49 (r49 : Int × Int × Int × Int) : Bool := (if (r49.snd.snd.snd != Int.ofNat 0 : Bool) = true then allB [] else allB [])
def P31z11_r48 (r47 : Int × Int × Int × Int) (r48 : Int × Int × Int × Bool) : Bool := (if (!r48.snd.snd.snd : Bool) = true then allB [] else (P60 (r47.fst) (r47.snd.fst) (r47.snd.snd.fst) (r48.fst) (r48.snd.fst) (r48.snd.snd.fst) && P31z11_r49  (F60 r47.fst r47.snd.fst r47.snd.snd.fst r48.fst r48.snd.fst r48.snd.snd.fst)))
def P31z11_r47 (x5 x9 : Int) (r47 : Int × Int × Int × Int) : Bool := (if (r47.snd.snd.snd != Int.ofNat 0 : Bool) = true then allB [] else (P59 (x9) (x5) && P31z11_r48 r47 (F59 x9 x5)))
def P31z11_r46 (x5 x9 : Int) (r45 : Int × Int × Int × Int) (r46 : Int × Int × Int × Bool) : Bool := (if (!r46.snd.snd.snd : Bool) = true then allB [] else (P60 (r45.fst) (r45.snd.fst) (r45.snd.snd.fst) (r46.fst) (r46.snd.fst) (r46.snd.snd.fst) && P31z11_r47 x5 x9 (F60 r45.fst r45.snd.fst r45.snd.snd.fst r46.fst r46.snd.fst r46.snd.snd.fst)))
def P31z11_r45 (x0 x5 x8 x9 : Int) (r45 : Int × Int × Int × Int) : Bool := (if (r45.snd.snd.snd != Int.ofNat 0 : Bool) = true then allB [] else (P59 (x8) (x0) && P31z11_r46 x5 x9 r45 (F59 x8 x0)))
def P31z11_r44 (x0 x5 x8 x9 x10 x11 x12 : Int) (r44 : Int × Int × Int × Bool) : Bool := (if (!r44.snd.snd.snd : Bool) = true then allB [] else (P60 (x10) (x11) (x12) (r44.fst) (r44.snd.fst) (r44.snd.snd.fst) && P31z11_r45 x0 x5 x8 x9 (F60 x10 x11 x12 r44.fst r44.snd.fst r44.snd.snd.fst)))
def P31z11_r43 (x0 x5 x7 x8 x9 x10 x11 x12 : Int) (r43 : Bool) : Bool := (if (!r43 : Bool) = true then allB [] else (P59 (x7) (wr IntKind.i64 (x5 * x0)) && P31z11_r44 x0 x5 x8 x9 x10 x11 x12 (F59 x7 (wr IntKind.i64 (x5 * x0)))))
def P31z11 (x0 x1 x2 x3 x4 x5 : Int) (x6 : Bool) (x7 x8 x9 x10 x11 x12 x13 x14 x15 x16 : Int) : Bool := (if (x6 : Bool) = true then allB [] else (P58 (x10) (x11) (x12) && P31z11_r43 x0 x5 x7 x8 x9 x10 x11 x12 (F58 x10 x11 x12)))
theorem con31z11_v (x0 x1 x2 x3 x4 x5 : Int) (x6 : Bool) (x7 x8 x9 x10 x11 x12 x13 x14 x15 x16 : Int) (v : Int × Int × Int × Bool) (hv : F31z11 x0 x1 x2 x3 x4 x5 x6 x7 x8 x9 x10 x11 x12 x13 x14 x15 x16 = v) (h : P31z11 x0 x1 x2 x3 x4 x5 x6 x7 x8 x9 x10 x11 x12 x13 x14 x15 x16 = true) : Con0 E0 31 [V.agg [vi x0, vi x1, vi x2, vi x3, vi x4, V.nilSl, V.nilSl, V.sl 0 0 1 1, vi x5], V.agg [V.bool x6, vi x7, vi x8, vi x9, vi x10, vi x11, vi x12]] [vt1_o0, vt1_o1 x13 x14 x15 x16] (V.tuple [V.agg [vi v.1, vi v.2.1, vi v.2.2.1], V.bool v.2.2.2]) ([vt1_o0, vt1_o1 (x13) (x14) (x15) (x16)]) := by
  unfold F31z11 at hv
  unfold P31z11 at h
  by_cases c0 : (x6 : Bool) = true
  · rw [if_pos c0] at hv h
    subst hv
    exact leafE good0 (F := Tryz.f31) (n := 2000) (ds := [dT, dT, dT, dT, dT, dL]) (L := [0, 1]) (by kernel_rfl) (by kernel_rfl) (by kernel_rfl) (apc c0 (apc c0 (apc c0 (apc c0 (apc c0 apn)))))
  · rw [if_neg c0] at hv h
    replace c0 := eq_false_of_ne_true c0
    obtain ⟨z1, h⟩ := and_parts h
    have k1 := con58 (x10) (x11) (x12) z1
    generalize e1 : F58 x10 x11 x12 = r43 at hv h k1
    unfold F31z11_r43 at hv
    unfold P31z11_r43 at h
    by_cases c2 : (!r43 : Bool) = true
    · rw [if_pos c2] at hv h
      subst hv
      exact leafE good0 (F := Tryz.f31) (n := 2000) (ds := [dF, dF, dF, dc k1, dF, dF, dT]) (L := [0, 1]) (by kernel_rfl) (by kernel_rfl) (by kernel_rfl) (apc c0 (apc c0 (apc c0 (apc k1 (apc c0 (apc c0 (apc c2 apn)))))))
    · rw [if_neg c2] at hv h
      replace c2 := eq_false_of_ne_true c2
      obtain ⟨z3, h⟩ := and_parts h
      have k3 := con59 (x7) (wr IntKind.i64 (x5 * x0)) z3
      generalize e3 : F59 x7 (wr IntKind.i64 (x5 * x0)) = r44 at hv h k3
      unfold F31z11_r44 at hv
      unfold P31z11_r44 at h
      by_cases c4 : (!r44.snd.snd.snd : Bool) = true
      · rw [if_pos c4] at hv h
        subst hv
        exact leafE good0 (F := Tryz.f31) (n := 2000) (ds := [dF, dF, dF, dc k1, dF, dF, dF, Dec.turn 20, dL, dL, dc k3, dT]) (L := [0, 1]) (by kernel_rfl) (by kernel_rfl) (by kernel_rfl) (apc c0 (apc c0 (apc c0 (apc k1 (apc c0 (apc c0 (apc c2 (apc (p := (true) = true) rfl (apc (p := (true) = true) rfl (apc k3 (apc c4 apn)))))))))))
      · rw [if_neg c4] at hv h
        replace c4 := eq_false_of_ne_true c4
        obtain ⟨z5, h⟩ := and_parts h
        have k5 := con60 (x10) (x11) (x12) (r44.fst) (r44.snd.fst) (r44.snd.snd.fst) z5
        generalize e5 : F60 x10 x11 x12 r44.fst r44.snd.fst r44.snd.snd.fst = r45 at hv h k5
        unfold F31z11_r45 at hv
        unfold P31z11_r45 at h
        by_cases c6 : (r45.snd.snd.snd != Int.ofNat 0 : Bool) = true
        · rw [if_pos c6] at hv h
          subst hv
          exact leafE good0 (F := Tryz.f31) (n := 2000) (ds := [dF, dF, dF, dc k1, dF, dF, dF, Dec.turn 20, dL, dL, dc k3, dF, dc k5, dT]) (L := [0, 1]) (by kernel_rfl) (by kernel_rfl) (by kernel_rfl) (apc c0 (apc c0 (apc c0 (apc k1 (apc c0 (apc c0 (apc c2 (apc (p := (true) = true) rfl (apc (p := (true) = true) rfl (apc k3 (apc c4 (apc k5 (apc c6 apn)))))))))))))
        · rw [if_neg c6] at hv h
          replace c6 := eq_false_of_ne_true c6
          obtain ⟨z7, h⟩ := and_parts h
          have k7 := con59 (x8) (x0) z7
          generalize e7 : F59 x8 x0 = r46 at hv h k7
          unfold F31z11_r46 at hv
          unfold P31z11_r46 at h
          by_cases c8 : (!r46.snd.snd.snd : Bool) = true
          · rw [if_pos c8] at hv h
            subst hv
            exact leafE good0 (F := Tryz.f31) (n := 2000) (ds := [dF, dF, dF, dc k1, dF, dF, dF, Dec.turn 20, dL, dL, dc k3, dF, dc k5, dF, dL, dL, dc k7, dT]) (L := [0, 1]) (by kernel_rfl) (by kernel_rfl) (by kernel_rfl) (apc c0 (apc c0 (apc c0 (apc k1 (apc c0 (apc c0 (apc c2 (apc (p := (true) = true) rfl (apc (p := (true) = true) rfl (apc k3 (apc c4 (apc k5 (apc c6 (apc (p := (true) = true) rfl (apc (p := (true) = true) rfl (apc k7 (apc c8 apn)))))))))))))))))
          · rw [if_neg c8] at hv h
            replace c8 := eq_false_of_ne_true c8
            obtain ⟨z9, h⟩ := and_parts h
            have k9 := con60 (r45.fst) (r45.snd.fst) (r45.snd.snd.fst) (r46.fst) (r46.snd.fst) (r46.snd.snd.fst) z9
            generalize e9 : F60 r45.fst r45.snd.fst r45.snd.snd.fst r46.fst r46.snd.fst r46.snd.snd.fst = r47 at hv h k9
            unfold F31z11_r47 at hv
            unfold P31z11_r47 at h
            by_cases c10 : (r47.snd.snd.snd != Int.ofNat 0 : Bool) = true
            · rw [if_pos c10] at hv h
              subst hv
              exact leafE good0 (F := Tryz.f31) (n := 2000) (ds := [dF, dF, dF, dc k1, dF, dF, dF, Dec.turn 20, dL, dL, dc k3, dF, dc k5, dF, dL, dL, dc k7, dF, dc k9, dT]) (L := [0, 1]) (by kernel_rfl) (by kernel_rfl) (by kernel_rfl) (apc c0 (apc c0 (apc c0 (apc k1 (apc c0 (apc c0 (apc c2 (apc (p := (true) = true) rfl (apc (p := (true) = true) rfl (apc k3 (apc c4 (apc k5 (apc c6 (apc (p := (true) = true) rfl (apc (p := (true) = true) rfl (apc k7 (apc c8 (apc k9 (apc c10 apn)))))))))))))))))))
            · rw [if_neg c10] at hv h
              replace c10 := eq_false_of_ne_true c10
              obtain ⟨z11, h⟩ := and_parts h
              have k11 := con59 (x9) (x5) z11
              generalize e11 : F59 x9 x5 = r48 at hv h k11
              unfold F31z11_r48 at hv
              unfold P31z11_r48 at h
              by_cases c12 : (!r48.snd.snd.snd : Bool) = true
              · rw [if_pos c12] at hv h
                subst hv
                exact leafE good0 (F := Tryz.f31) (n := 2000) (ds := [dF, dF, dF, dc k1, dF, dF, dF, Dec.turn 20, dL, dL, dc k3, dF, dc k5, dF, dL, dL, dc k7, dF, dc k9, dF, dL, dL, dc k11, dT]) (L := [0, 1]) (by kernel_rfl) (by kernel_rfl) (by kernel_rfl) (apc c0 (apc c0 (apc c0 (apc k1 (apc c0 (apc c0 (apc c2 (apc (p := (true) = true) rfl (apc (p := (true) = true) rfl (apc k3 (apc c4 (apc k5 (apc c6 (apc (p := (true) = true) rfl (apc (p := (true) = true) rfl (apc k7 (apc c8 (apc k9 (apc c10 (apc (p := (true) = true) rfl (apc (p := (true) = true) rfl (apc k11 (apc c12 apn)))))))))))))))))))))))
              · rw [if_neg c12] at hv h
                replace c12 := eq_false_of_ne_true c12
                obtain ⟨z13, h⟩ := and_parts h
                have k13 := con60 (r47.fst) (r47.snd.fst) (r47.snd.snd.fst) (r48.fst) (r48.snd.fst) (r48.snd.snd.fst) z13
                generalize e13 : F60 r47.fst r47.snd.fst r47.snd.snd.fst r48.fst r48.snd.fst r48.snd.snd.fst = r49 at hv h k13
                unfold F31z11_r49 at hv
                unfold P31z11_r49 at h
                by_cases c14 : (r49.snd.snd.snd != Int.ofNat 0 : Bool) = true
                · rw [if_pos c14] at hv h
                  subst hv
                  exact leafE good0 (F := Tryz.f31) (n := 2000) (ds := [dF, dF, dF, dc k1, dF, dF, dF, Dec.turn 20, dL, dL, dc k3, dF, dc k5, dF, dL, dL, dc k7, dF, dc k9, dF, dL, dL, dc k11, dF, dc k13, dT]) (L := [0, 1]) (by kernel_rfl) (by kernel_rfl) (by kernel_rfl) (apc c0 (apc c0 (apc c0 (apc k1 (apc c0 (apc c0 (apc c2 (apc (p := (true) = true) rfl (apc (p := (true) = true) rfl (apc k3 (apc c4 (apc k5 (apc c6 (apc (p := (true) = true) rfl (apc (p := (true) = true) rfl (apc k7 (apc c8 (apc k9 (apc c10 (apc (p := (true) = true) rfl (apc (p := (true) = true) rfl (apc k11 (apc c12 (apc k13 (apc c14 apn)))))))))))))))))))))))))
                · rw [if_neg c14] at hv h
                  replace c14 := eq_false_of_ne_true c14
                  subst hv
                  exact leafE good0 (F := Tryz.f31) (n := 2000) (ds := [dF, dF, dF, dc k1, dF, dF, dF, Dec.turn 20, dL, dL, dc k3, dF, dc k5, dF, dL, dL, dc k7, dF, dc k9, dF, dL, dL, dc k11, dF, dc k13, dF, dL, dL]) (L := [0, 1]) (by kernel_rfl) (by kernel_rfl) (by kernel_rfl) (apc c0 (apc c0 (apc c0 (apc k1 (apc c0 (apc c0 (apc c2 (apc (p := (true) = true) rfl (apc (p := (true) = true) rfl (apc k3 (apc c4 (apc k5 (apc c6 (apc (p := (true) = true) rfl (apc (p := (true) = true) rfl (apc k7 (apc c8 (apc k9 (apc c10 (apc (p := (true) = true) rfl (apc (p := (true) = true) rfl (apc k11 (apc c12 (apc k13 (apc c14 apn)))))))))))))))))))))))))
def F41z10_r53 (r53 : Int × Int × Int × Bool) : Bool := (if (r53.snd.snd.snd : Bool) = true then (if (decide (r53.fst ≥ Int.negSucc 2147483647) : Bool) = true then ((decide (r53.snd.fst ≤ Int.ofNat 2147483647))) else ((false))) else ((false)))
def F41z10_r52 (x0 x1 x2 x3 x4 x5 : Int) (x6 : Bool) (x7 x8 x9 x10 x11 x12 x13 x14 x15 x16 : Int) (r52 : Int × Int × Int) : Bool := (if (!(x6 == x6 && (r52.fst == x7 && (r52.snd.fst == x8 && (r52.snd.snd == x9 && (x10 == x10 && (x11 == x11 && (x12 == x12 && true))))))) : Bool) = true then ((false)) else (F41z10_r53  (F31z11 x0 x1 x2 x3 x4 x5 x6 x7 x8 x9 x10 x11 x12 x13 x14 x15 x16)))
def F41z10_r51 (x0 x1 x2 x3 x4 x5 : Int) (x6 : Bool) (x7 x8 x9 x10 x11 x12 x13 x14 x15 x16 : Int) (r51 : Bool) : Bool := (if (!r51 : Bool) = true then ((false)) else (F41z10_r52 x0 x1 x2 x3 x4 x5 x6 x7 x8 x9 x10 x11 x12 x13 x14 x15 x16 (F75z9 x0 x1 x2 x3 x4 x5 x6 x7 x8 x9 x10 x11 x12 x13 x14 x15 x16)))
def F41z10 (x0 x1 x2 x3 x4 x5 : Int) (x6 : Bool) (x7 x8 x9 x10 x11 x12 x13 x14 x15 x16 : Int) : Bool := (if (x6 : Bool) = true then (((x6 == true && (x7 == Int.ofNat 0 && (x8 == Int.ofNat 0 && (x9 == Int.ofNat 0 && (x10 == Int.ofNat 0 && (x11 == Int.ofNat 0 && (x12 == Int.ofNat 0 && true))))))))) else (F41z10_r51 x0 x1 x2 x3 x4 x5 x6 x7 x8 x9 x10 x11 x12 x13 x14 x15 x16 (F74 x6 x7 x8 x9 x10 x11 x12)))
def P41z10_r53 (r53 : Int × Int × Int × Bool) : Bool := (if (r53.snd.snd.snd : Bool) = true then (if (decide (r53.fst ≥ Int.negSucc 2147483647) : Bool) = true then allB [] else allB []) else allB [])
def P41z10_r52 (x0 x1 x2 x3 x4 x5 : Int) (x6 : Bool) (x7 x8 x9 x10 x11 x12 x13 x14 x15 x16 : Int) (r52 : Int × Int × Int) : Bool := (if (!(x6 == x6 && (r52.fst == x7 && (r52.snd.fst == x8 && (r52.snd.snd == x9 && (x10 == x10 && (x11 == x11 && (x12 == x12 && true))))))) : Bool) = true then allB [] else (P31z11 (x0) (x1) (x2) (x3) (x4) (x5) (x6) (x7) (x8) (x9) (x10) (x11) (x12) (x13) (x14) (x15) (x16) && P41z10_r53  (F31z11 x0 x1 x2 x3 x4 x5 x6 x7 x8 x9 x10 x11 x12 x13 x14 x15 x16)))
def P41z10_r51 (x0 x1 x2 x3 x4 x5 : Int) (x6 : Bool) (x7 x8 x9 x10 x11 x12 x13 x14 x15 x16 : Int) (r51 : Bool) : Bool := (if (!r51 : Bool) = true then allB [] else (P75z9 (x0) (x1) (x2) (x3) (x4) (x5) (x6) (x7) (x8) (x9) (x10) (x11) (x12) (x13) (x14) (x15) (x16) && P41z10_r52 x0 x1 x2 x3 x4 x5 x6 x7 x8 x9 x10 x11 x12 x13 x14 x15 x16 (F75z9 x0 x1 x2 x3 x4 x5 x6 x7 x8 x9 x10 x11 x12 x13 x14 x15 x16)))
def P41z10 (x0 x1 x2 x3 x4 x5 : Int) (x6 : Bool) (x7 x8 x9 x10 x11 x12 x13 x14 x15 x16 : Int) : Bool := (if (x6 : Bool) = true then (P44  && allB []) else (P74 (x6) (x7) (x8) (x9) (x10) (x11) (x12) && P41z10_r51 x0 x1 x2 x3 x4 x5 x6 x7 x8 x9 x10 x11 x12 x13 x14 x15 x16 (F74 x6 x7 x8 x9 x10 x11 x12)))
theorem con41z10_v (x0 x1 x2 x3 x4 x5 : Int) (x6 : Bool) (x7 x8 x9 x10 x11 x12 x13 x14 x15 x16 : Int) (v : Bool) (hv : F41z10 x0 x1 x2 x3 x4 x5 x6 x7 x8 x9 x10 x11 x12 x13 x14 x15 x16 = v) (h : P41z10 x0 x1 x2 x3 x4 x5 x6 x7 x8 x9 x10 x11 x12 x13 x14 x15 x16 = true) : Con0 E0 41 [V.agg [vi x0, vi x1, vi x2, vi x3, vi x4, V.nilSl, V.nilSl, V.sl 0 0 1 1, vi x5], V.agg [V.bool x6, vi x7, vi x8, vi x9, vi x10, vi x11, vi x12]] [vt1_o0, vt1_o1 x13 x14 x15 x16] (V.bool v) ([vt1_o0, vt1_o1 (x13) (x14) (x15) (x16)]) := by
  unfold F41z10 at hv
  unfold P41z10 at h
  by_cases c0 : (x6 : Bool) = true
  · rw [if_pos c0] at hv h
    obtain ⟨z1, h⟩ := and_parts h
    have k1 : Con0 E0 44 [] [] (V.agg [V.bool true, v0, v0, v0, v0, v0, v0]) [] := con44  z1
    subst hv
    exact leafE good0 (F := Tryz.f41) (n := 2000) (ds := [dT, dc k1]) (L := [0, 1]) (by kernel_rfl) (by kernel_rfl) (by kernel_rfl) (apc c0 (apc k1 apn))
  · rw [if_neg c0] at hv h
    replace c0 := eq_false_of_ne_true c0
    obtain ⟨z1, h⟩ := and_parts h
    have k1 := con74 (x6) (x7) (x8) (x9) (x10) (x11) (x12) z1
    generalize e1 : F74 x6 x7 x8 x9 x10 x11 x12 = r51 at hv h k1
    unfold F41z10_r51 at hv
    unfold P41z10_r51 at h
    by_cases c2 : (!r51 : Bool) = true
    · rw [if_pos c2] at hv h
      subst hv
      exact leafE good0 (F := Tryz.f41) (n := 2000) (ds := [dF, dc k1, dT, dT, dT, dT, dT, dT, dL]) (L := [0, 1]) (by kernel_rfl) (by kernel_rfl) (by kernel_rfl) (apc c0 (apc k1 (apc c2 (apc c2 (apc c2 (apc c2 (apc c2 (apc c2 apn))))))))
    · rw [if_neg c2] at hv h
      replace c2 := eq_false_of_ne_true c2
      obtain ⟨z3, h⟩ := and_parts h
      have k3 := con75z9_v (x0) (x1) (x2) (x3) (x4) (x5) (x6) (x7) (x8) (x9) (x10) (x11) (x12) (x13) (x14) (x15) (x16) _ rfl z3
      generalize e3 : F75z9 x0 x1 x2 x3 x4 x5 x6 x7 x8 x9 x10 x11 x12 x13 x14 x15 x16 = r52 at hv h k3
      unfold F41z10_r52 at hv
      unfold P41z10_r52 at h
      by_cases c4 : (!(x6 == x6 && (r52.fst == x7 && (r52.snd.fst == x8 && (r52.snd.snd == x9 && (x10 == x10 && (x11 == x11 && (x12 == x12 && true))))))) : Bool) = true
      · rw [if_pos c4] at hv h
        subst hv
        exact leafE good0 (F := Tryz.f41) (n := 2000) (ds := [dF, dc k1, dF, dF, dF, dc k3, dF, dF, dF, dT]) (L := [0, 1]) (by kernel_rfl) (by kernel_rfl) (by kernel_rfl) (apc c0 (apc k1 (apc c2 (apc c2 (apc c2 (apc k3 (apc c2 (apc c2 (apc c2 (apc c4 apn))))))))))
      · rw [if_neg c4] at hv h
        replace c4 := eq_false_of_ne_true c4
        obtain ⟨z5, h⟩ := and_parts h
        have k5 := con31z11_v (x0) (x1) (x2) (x3) (x4) (x5) (x6) (x7) (x8) (x9) (x10) (x11) (x12) (x13) (x14) (x15) (x16) _ rfl z5
        generalize e5 : F31z11 x0 x1 x2 x3 x4 x5 x6 x7 x8 x9 x10 x11 x12 x13 x14 x15 x16 = r53 at hv h k5
        unfold F41z10_r53 at hv
        unfold P41z10_r53 at h
        by_cases c6 : (r53.snd.snd.snd : Bool) = true
        · rw [if_pos c6] at hv h
          by_cases c7 : (decide (r53.fst ≥ Int.negSucc 2147483647) : Bool) = true
          · rw [if_pos c7] at hv h
            subst hv
            exact leafE good0 (F := Tryz.f41) (n := 2000) (ds := [dF, dc k1, dF, dF, dF, dc k3, dF, dF, dF, dF, dc k5, dT, dT, dT, dT, dT, dT, dT, dT]) (L := [0, 1]) (by kernel_rfl) (by kernel_rfl) (by kernel_rfl) (apc c0 (apc k1 (apc c2 (apc c2 (apc c2 (apc k3 (apc c2 (apc c2 (apc c2 (apc c4 (apc k5 (apc c6 (apc c6 (apc c6 (apc c6 (apc c7 (apc c7 (apc c7 (apc c7 apn)))))))))))))))))))
          · rw [if_neg c7] at hv h
            replace c7 := eq_false_of_ne_true c7
            subst hv
            exact leafE good0 (F := Tryz.f41) (n := 2000) (ds := [dF, dc k1, dF, dF, dF, dc k3, dF, dF, dF, dF, dc k5, dT, dT, dT, dT, dF, dF, dF, dF]) (L := [0, 1]) (by kernel_rfl) (by kernel_rfl) (by kernel_rfl) (apc c0 (apc k1 (apc c2 (apc c2 (apc c2 (apc k3 (apc c2 (apc c2 (apc c2 (apc c4 (apc k5 (apc c6 (apc c6 (apc c6 (apc c6 (apc c7 (apc c7 (apc c7 (apc c7 apn)))))))))))))))))))
        · rw [if_neg c6] at hv h
          replace c6 := eq_false_of_ne_true c6
          subst hv
          exact leafE good0 (F := Tryz.f41) (n := 2000) (ds := [dF, dc k1, dF, dF, dF, dc k3, dF, dF, dF, dF, dc k5, dF, dF, dF, dF, dL, dL, dL, dL]) (L := [0, 1]) (by kernel_rfl) (by kernel_rfl) (by kernel_rfl) (apc c0 (apc k1 (apc c2 (apc c2 (apc c2 (apc k3 (apc c2 (apc c2 (apc c2 (apc c4 (apc k5 (apc c6 (apc c6 (apc c6 (apc c6 apn)))))))))))))))
def F87z8_r59 (x6 : Bool) (x10 x11 x12 : Int) (r58 : Int × Int × Int) (r59 : Bool) : Bool × Int × Int × Int × Int × Int × Int := (if (!r59 : Bool) = true then (((true), (Int.ofNat 0), (Int.ofNat 0), (Int.ofNat 0), (Int.ofNat 0), (Int.ofNat 0), (Int.ofNat 0))) else ((x6), (r58.fst), (r58.snd.fst), (r58.snd.snd), (x10), (x11), (x12)))
def F87z8_r58 (x0 x1 x2 x3 x4 x5 : Int) (x6 : Bool) (x10 x11 x12 x14 x15 x16 x17 : Int) (r58 : Int × Int × Int) : Bool × Int × Int × Int × Int × Int × Int := (F87z8_r59 x6 x10 x11 x12 r58 (F41z10 x0 x1 x2 x3 x4 x5 x6 r58.fst r58.snd.fst r58.snd.snd x10 x11 x12 x14 x15 x16 x17))
def F87z8_r56 (x0 x1 x2 x3 x4 x5 : Int) (x6 : Bool) (x7 x8 x9 x10 x11 x12 x14 x15 x16 x17 : Int) (r56 : Bool) : Bool × Int × Int × Int × Int × Int × Int := (if (!r56 : Bool) = true then (((true), (Int.ofNat 0), (Int.ofNat 0), (Int.ofNat 0), (Int.ofNat 0), (Int.ofNat 0), (Int.ofNat 0))) else (F87z8_r58 x0 x1 x2 x3 x4 x5 x6 x10 x11 x12 x14 x15 x16 x17 (F75z9 x0 x1 x2 x3 x4 x5 x6 x7 x8 x9 x10 x11 x12 x14 x15 x16 x17)))
def F87z8 (x0 x1 x2 x3 x4 x5 : Int) (x6 : Bool) (x7 x8 x9 x10 x11 x12 x13 x14 x15 x16 x17 : Int) : Bool × Int × Int × Int × Int × Int × Int := (if (x13 != Int.ofNat 0 : Bool) = true then (((true), (Int.ofNat 0), (Int.ofNat 0), (Int.ofNat 0), (Int.ofNat 0), (Int.ofNat 0), (Int.ofNat 0))) else (if (x6 : Bool) = true then (((true), (Int.ofNat 0), (Int.ofNat 0), (Int.ofNat 0), (Int.ofNat 0), (Int.ofNat 0), (Int.ofNat 0))) else (F87z8_r56 x0 x1 x2 x3 x4 x5 x6 x7 x8 x9 x10 x11 x12 x14 x15 x16 x17 (F74 x6 x7 x8 x9 x10 x11 x12))))
def P87z8_r59 (r59 : Bool) : Bool := (if (!r59 : Bool) = true then (P44  && allB []) else allB [])
def P87z8_r58 (x0 x1 x2 x3 x4 x5 : Int) (x6 : Bool) (x10 x11 x12 x14 x15 x16 x17 : Int) (r58 : Int × Int × Int) : Bool := (P41z10 (x0) (x1) (x2) (x3) (x4) (x5) (x6) (r58.fst) (r58.snd.fst) (r58.snd.snd) (x10) (x11) (x12) (x14) (x15) (x16) (x17) && P87z8_r59  (F41z10 x0 x1 x2 x3 x4 x5 x6 r58.fst r58.snd.fst r58.snd.snd x10 x11 x12 x14 x15 x16 x17))
def P87z8_r56 (x0 x1 x2 x3 x4 x5 : Int) (x6 : Bool) (x7 x8 x9 x10 x11 x12 x14 x15 x16 x17 : Int) (r56 : Bool) : Bool := (if (!r56 : Bool) = true then (P44  && allB []) else (P75z9 (x0) (x1) (x2) (x3) (x4) (x5) (x6) (x7) (x8) (x9) (x10) (x11) (x12) (x14) (x15) (x16) (x17) && P87z8_r58 x0 x1 x2 x3 x4 x5 x6 x10 x11 x12 x14 x15 x16 x17 (F75z9 x0 x1 x2 x3 x4 x5 x6 x7 x8 x9 x10 x11 x12 x14 x15 x16 x17)))
def P87z8 (x0 x1 x2 x3 x4 x5 : Int) (x6 : Bool) (x7 x8 x9 x10 x11 x12 x13 x14 x15 x16 x17 : Int) : Bool := (if (x13 != Int.ofNat 0 : Bool) = true then (P44  && allB []) else (if (x6 : Bool) = true then (P44  && allB []) else (P74 (x6) (x7) (x8) (x9) (x10) (x11) (x12) && P87z8_r56 x0 x1 x2 x3 x4 x5 x6 x7 x8 x9 x10 x11 x12 x14 x15 x16 x17 (F74 x6 x7 x8 x9 x10 x11 x12))))
theorem con87z8_v (x0 x1 x2 x3 x4 x5 : Int) (x6 : Bool) (x7 x8 x9 x10 x11 x12 x13 x14 x15 x16 x17 : Int) (v : Bool × Int × Int × Int × Int × Int × Int) (hv : F87z8 x0 x1 x2 x3 x4 x5 x6 x7 x8 x9 x10 x11 x12 x13 x14 x15 x16 x17 = v) (h : P87z8 x0 x1 x2 x3 x4 x5 x6 x7 x8 x9 x10 x11 x12 x13 x14 x15 x16 x17 = true) : Con0 E0 87 [V.agg [vi x0, vi x1, vi x2, vi x3, vi x4, V.nilSl, V.nilSl, V.sl 0 0 1 1, vi x5], V.agg [V.bool x6, vi x7, vi x8, vi x9, vi x10, vi x11, vi x12], vi x13] [vt1_o0, vt1_o1 x14 x15 x16 x17] (V.agg [V.bool v.1, vi v.2.1, vi v.2.2.1, vi v.2.2.2.1, vi v.2.2.2.2.1, vi v.2.2.2.2.2.1, vi v.2.2.2.2.2.2]) ([vt1_o0, vt1_o1 (x14) (x15) (x16) (x17)]) := by
  unfold F87z8 at hv
  unfold P87z8 at h
  by_cases c0 : (x13 != Int.ofNat 0 : Bool) = true
  · rw [if_pos c0] at hv h
    obtain ⟨z1, h⟩ := and_parts h
    have k1 : Con0 E0 44 [] [] (V.agg [V.bool true, v0, v0, v0, v0, v0, v0]) [] := con44  z1
    subst hv
    exact leafE good0 (F := Tryz.f87) (n := 2000) (ds := [dT, dT, dT, dL, dL, dL, dL, dL, dc k1]) (L := [0, 1]) (by kernel_rfl) (by kernel_rfl) (by kernel_rfl) (apc c0 (apc c0 (apc c0 (apc k1 apn))))
  · rw [if_neg c0] at hv h
    replace c0 := eq_false_of_ne_true c0
    by_cases c1 : (x6 : Bool) = true
    · rw [if_pos c1] at hv h
      obtain ⟨z2, h⟩ := and_parts h
      have k2 : Con0 E0 44 [] [] (V.agg [V.bool true, v0, v0, v0, v0, v0, v0]) [] := con44  z2
      subst hv
      exact leafE good0 (F := Tryz.f87) (n := 2000) (ds := [dF, dF, dF, dT, dT, dT, dT, dL, dc k2]) (L := [0, 1]) (by kernel_rfl) (by kernel_rfl) (by kernel_rfl) (apc c0 (apc c0 (apc c0 (apc c1 (apc c1 (apc c1 (apc c1 (apc k2 apn))))))))
    · rw [if_neg c1] at hv h
      replace c1 := eq_false_of_ne_true c1
      obtain ⟨z2, h⟩ := and_parts h
      have k2 := con74 (x6) (x7) (x8) (x9) (x10) (x11) (x12) z2
      generalize e2 : F74 x6 x7 x8 x9 x10 x11 x12 = r56 at hv h k2
      unfold F87z8_r56 at hv
      unfold P87z8_r56 at h
      by_cases c3 : (!r56 : Bool) = true
      · rw [if_pos c3] at hv h
        obtain ⟨z4, h⟩ := and_parts h
        have k4 : Con0 E0 44 [] [] (V.agg [V.bool true, v0, v0, v0, v0, v0, v0]) [] := con44  z4
        subst hv
        exact leafE good0 (F := Tryz.f87) (n := 2000) (ds := [dF, dF, dF, dF, dF, dc k2, dF, dF, dT, dc k4]) (L := [0, 1]) (by kernel_rfl) (by kernel_rfl) (by kernel_rfl) (apc c0 (apc c0 (apc c0 (apc c1 (apc c1 (apc k2 (apc c1 (apc c1 (apc c3 (apc k4 apn))))))))))
      · rw [if_neg c3] at hv h
        replace c3 := eq_false_of_ne_true c3
        obtain ⟨z4, h⟩ := and_parts h
        have k4 := con75z9_v (x0) (x1) (x2) (x3) (x4) (x5) (x6) (x7) (x8) (x9) (x10) (x11) (x12) (x14) (x15) (x16) (x17) _ rfl z4
        generalize e4 : F75z9 x0 x1 x2 x3 x4 x5 x6 x7 x8 x9 x10 x11 x12 x14 x15 x16 x17 = r58 at hv h k4
        unfold F87z8_r58 at hv
        unfold P87z8_r58 at h
        obtain ⟨z5, h⟩ := and_parts h
        have k5 := con41z10_v (x0) (x1) (x2) (x3) (x4) (x5) (x6) (r58.fst) (r58.snd.fst) (r58.snd.snd) (x10) (x11) (x12) (x14) (x15) (x16) (x17) _ rfl z5
        generalize e5 : F41z10 x0 x1 x2 x3 x4 x5 x6 r58.fst r58.snd.fst r58.snd.snd x10 x11 x12 x14 x15 x16 x17 = r59 at hv h k5
        unfold F87z8_r59 at hv
        unfold P87z8_r59 at h
        by_cases c6 : (!r59 : Bool) = true
        · rw [if_pos c6] at hv h
          obtain ⟨z7, h⟩ := and_parts h
          have k7 : Con0 E0 44 [] [] (V.agg [V.bool true, v0, v0, v0, v0, v0, v0]) [] := con44  z7
          subst hv
          exact leafE good0 (F := Tryz.f87) (n := 2000) (ds := [dF, dF, dF, dF, dF, dc k2, dF, dF, dF, dc k4, dc k5, dT, dc k7]) (L := [0, 1]) (by kernel_rfl) (by kernel_rfl) (by kernel_rfl) (apc c0 (apc c0 (apc c0 (apc c1 (apc c1 (apc k2 (apc c1 (apc c1 (apc c3 (apc k4 (apc k5 (apc c6 (apc k7 apn)))))))))))))
        · rw [if_neg c6] at hv h
          replace c6 := eq_false_of_ne_true c6
          subst hv
          exact leafE good0 (F := Tryz.f87) (n := 2000) (ds := [dF, dF, dF, dF, dF, dc k2, dF, dF, dF, dc k4, dc k5, dF]) (L := [0, 1]) (by kernel_rfl) (by kernel_rfl) (by kernel_rfl) (apc c0 (apc c0 (apc c0 (apc c1 (apc c1 (apc k2 (apc c1 (apc c1 (apc c3 (apc k4 (apc k5 (apc c6 apn))))))))))))
def F89z7_r61 (r61 : Bool × Int × Int × Int × Int × Int × Int) : Bool × Int × Int × Int × Int × Int × Int := ((r61.fst), (r61.snd.fst), (r61.snd.snd.fst), (r61.snd.snd.snd.fst), (r61.snd.snd.snd.snd.fst), (r61.snd.snd.snd.snd.snd.fst), (r61.snd.snd.snd.snd.snd.snd))
def F89z7 (x0 x1 x2 x3 x4 x5 : Int) : Bool × Int × Int × Int × Int × Int × Int := (F89z7_r61  (F87z8 x0 (Int.ofNat 1) (Int.ofNat 7) (Int.ofNat 0) (Int.ofNat 0) x1 false (Int.ofNat 1) (Int.ofNat 0) (Int.ofNat 0) (Int.ofNat 0) (Int.ofNat 0) (Int.ofNat 0) (Int.ofNat 0) x2 x3 x4 x5))
def P89z7_r61 (r61 : Bool × Int × Int × Int × Int × Int × Int) : Bool := allB []
def P89z7 (x0 x1 x2 x3 x4 x5 : Int) : Bool := (P87z8 (x0) (Int.ofNat 1) (Int.ofNat 7) (Int.ofNat 0) (Int.ofNat 0) (x1) (false) (Int.ofNat 1) (Int.ofNat 0) (Int.ofNat 0) (Int.ofNat 0) (Int.ofNat 0) (Int.ofNat 0) (Int.ofNat 0) (x2) (x3) (x4) (x5) && P89z7_r61  (F87z8 x0 (Int.ofNat 1) (Int.ofNat 7) (Int.ofNat 0) (Int.ofNat 0) x1 false (Int.ofNat 1) (Int.ofNat 0) (Int.ofNat 0) (Int.ofNat 0) (Int.ofNat 0) (Int.ofNat 0) (Int.ofNat 0) x2 x3 x4 x5))
theorem con89z7_v (x0 x1 x2 x3 x4 x5 : Int) (v : Bool × Int × Int × Int × Int × Int × Int) (hv : F89z7 x0 x1 x2 x3 x4 x5 = v) (h : P89z7 x0 x1 x2 x3 x4 x5 = true) : Con0 E0 89 [V.agg [vi x0, vi (Int.ofNat 1), vi (Int.ofNat 7), v0, v0, V.nilSl, V.nilSl, V.sl 0 0 1 1, vi x1], vi (Int.ofNat 1)] [vt1_o0, vt1_o1 x2 x3 x4 x5] (V.agg [V.bool v.1, vi v.2.1, vi v.2.2.1, vi v.2.2.2.1, vi v.2.2.2.2.1, vi v.2.2.2.2.2.1, vi v.2.2.2.2.2.2]) ([vt1_o0, vt1_o1 (x2) (x3) (x4) (x5)]) := by
  unfold F89z7 at hv
  unfold P89z7 at h
  obtain ⟨z0, h⟩ := and_parts h
  have k0 := con87z8_v (x0) (Int.ofNat 1) (Int.ofNat 7) (Int.ofNat 0) (Int.ofNat 0) (x1) (false) (Int.ofNat 1) (Int.ofNat 0) (Int.ofNat 0) (Int.ofNat 0) (Int.ofNat 0) (Int.ofNat 0) (Int.ofNat 0) (x2) (x3) (x4) (x5) _ rfl z0
  generalize e0 : F87z8 x0 (Int.ofNat 1) (Int.ofNat 7) (Int.ofNat 0) (Int.ofNat 0) x1 false (Int.ofNat 1) (Int.ofNat 0) (Int.ofNat 0) (Int.ofNat 0) (Int.ofNat 0) (Int.ofNat 0) (Int.ofNat 0) x2 x3 x4 x5 = r61 at hv h k0
  unfold F89z7_r61 at hv
  unfold P89z7_r61 at h
  subst hv
  exact leafE good0 (F := Tryz.f89) (n := 2000) (ds := [dL, dc k0]) (L := [0, 1]) (by kernel_rfl) (by kernel_rfl) (by kernel_rfl) (apc k0 apn)
def F65z5_r64 (r64 : Bool × Int × Int × Int × Int × Int × Int) : Bool × Int × Int × Int × Int × Int × Int := ((r64.fst), (r64.snd.fst), (r64.snd.snd.fst), (r64.snd.snd.snd.fst), (r64.snd.snd.snd.snd.fst), (r64.snd.snd.snd.snd.snd.fst), (r64.snd.snd.snd.snd.snd.snd))
def F65z5 (x0 x1 x2 x3 x4 x5 : Int) : Bool × Int × Int × Int × Int × Int × Int := (((F65z5_r64  (F89z7 x0 x1 x2 x3 x4 x5))))
def P65z5_r64 (r64 : Bool × Int × Int × Int × Int × Int × Int) : Bool := allB []
def P65z5 (x0 x1 x2 x3 x4 x5 : Int) : Bool := (P45z6  && (P45z6  && (P89z7 (x0) (x1) (x2) (x3) (x4) (x5) && P65z5_r64  (F89z7 x0 x1 x2 x3 x4 x5))))
theorem con65z5_v (x0 x1 x2 x3 x4 x5 : Int) (v : Bool × Int × Int × Int × Int × Int × Int) (hv : F65z5 x0 x1 x2 x3 x4 x5 = v) (h : P65z5 x0 x1 x2 x3 x4 x5 = true) : Con0 E0 65 [V.agg [vi x0, vi (Int.ofNat 1), vi (Int.ofNat 7), v0, v0, V.nilSl, V.nilSl, V.sl 0 0 1 1, vi x1], V.sl 1 0 7 7, V.agg [vi (Int.ofNat 5), vi (Int.ofNat 1), v0, vi (Int.ofNat 2), v0, V.int IntKind.i32 (Int.ofNat 0), v0, v0, V.int IntKind.i32 (Int.ofNat 0), v0, v0, V.int IntKind.i32 (Int.ofNat 0), v0, v0, V.int IntKind.i32 (Int.ofNat 0)]] [vt1_o3, vt1_o2, vt1_o1 x2 x3 x4 x5] (V.agg [V.bool v.1, vi v.2.1, vi v.2.2.1, vi v.2.2.2.1, vi v.2.2.2.2.1, vi v.2.2.2.2.2.1, vi v.2.2.2.2.2.2]) ([vt1_o3, vt1_o2, vt1_o1 (x2) (x3) (x4) (x5)]) := by
  unfold F65z5 at hv
  unfold P65z5 at h
  obtain ⟨z0, h⟩ := and_parts h
  have k0 := con45z6_v  _ rfl z0
  obtain ⟨z1, h⟩ := and_parts h
  have k1 := con45z6_v  _ rfl z1
  obtain ⟨z2, h⟩ := and_parts h
  have k2 := con89z7_v (x0) (x1) (x2) (x3) (x4) (x5) _ rfl z2
  generalize e2 : F89z7 x0 x1 x2 x3 x4 x5 = r64 at hv h k2
  unfold F65z5_r64 at hv
  unfold P65z5_r64 at h
  subst hv
  exact leafE good0 (F := Tryz.f65) (n := 2000) (ds := [dc k0, dc k1, dL, dL, dL, dc k2]) (L := [0, 1, 2]) (by kernel_rfl) (by kernel_rfl) (by kernel_rfl) (apc k0 (apc k1 (apc (p := (V.sl 1 0 7 7 : V C0) = V.sl 1 0 7 7) rfl (apc (p := (V.sl 1 0 7 7 : V C0) = V.sl 1 0 7 7) rfl (apc k2 apn)))))
def F45z13 (x0 : Bool) (x1 x2 x3 x4 x5 x6 : Int) : Unit := (())
def P45z13 (x0 : Bool) (x1 x2 x3 x4 x5 x6 : Int) : Bool := (P43 (Int.ofNat 0) && allB [])
theorem con45z13_v (x0 : Bool) (x1 x2 x3 x4 x5 x6 : Int) (v : Unit) (hv : F45z13 x0 x1 x2 x3 x4 x5 x6 = v) (h : P45z13 x0 x1 x2 x3 x4 x5 x6 = true) : Con0 E0 45 [V.sl 0 0 7 7, V.agg [v0, v0, V.int IntKind.i32 (Int.ofNat 0)]] [vt1_o4 x0 x1 x2 x3 x4 x5 x6] (V.agg [V.bool (false), v0, v0, v0, v0, v0, v0]) ([vt1_o4 (x0) (x1) (x2) (x3) (x4) (x5) (x6)]) := by
  unfold F45z13 at hv
  unfold P45z13 at h
  obtain ⟨z0, h⟩ := and_parts h
  have k0 : Con0 E0 43 [v0] [] (V.agg [V.bool false, v0, v0, v0, v0, v0, v0]) [] := con43 (Int.ofNat 0) z0
  subst hv
  exact leafE good0 (F := Tryz.f45) (n := 2000) (ds := [dL, dc k0]) (L := [0]) (by kernel_rfl) (by kernel_rfl) (by kernel_rfl) (apc k0 apn)
def F89z14_r72 (r72 : Bool × Int × Int × Int × Int × Int × Int) : Bool × Int × Int × Int × Int × Int × Int := ((r72.fst), (r72.snd.fst), (r72.snd.snd.fst), (r72.snd.snd.snd.fst), (r72.snd.snd.snd.snd.fst), (r72.snd.snd.snd.snd.snd.fst), (r72.snd.snd.snd.snd.snd.snd))
def F89z14 (x0 x1 x2 x3 x4 x5 : Int) : Bool × Int × Int × Int × Int × Int × Int := (F89z14_r72  (F87z8 x0 (Int.ofNat 1) (Int.ofNat 7) (Int.ofNat 0) (Int.ofNat 0) x1 false (Int.ofNat 0) (Int.ofNat 1) (Int.ofNat 0) (Int.ofNat 0) (Int.ofNat 0) (Int.ofNat 0) (Int.ofNat 0) x2 x3 x4 x5))
def P89z14_r72 (r72 : Bool × Int × Int × Int × Int × Int × Int) : Bool := allB []
def P89z14 (x0 x1 x2 x3 x4 x5 : Int) : Bool := (P87z8 (x0) (Int.ofNat 1) (Int.ofNat 7) (Int.ofNat 0) (Int.ofNat 0) (x1) (false) (Int.ofNat 0) (Int.ofNat 1) (Int.ofNat 0) (Int.ofNat 0) (Int.ofNat 0) (Int.ofNat 0) (Int.ofNat 0) (x2) (x3) (x4) (x5) && P89z14_r72  (F87z8 x0 (Int.ofNat 1) (Int.ofNat 7) (Int.ofNat 0) (Int.ofNat 0) x1 false (Int.ofNat 0) (Int.ofNat 1) (Int.ofNat 0) (Int.ofNat 0) (Int.ofNat 0) (Int.ofNat 0) (Int.ofNat 0) x2 x3 x4 x5))
theorem con89z14_v (x0 x1 x2 x3 x4 x5 : Int) (v : Bool × Int × Int × Int × Int × Int × Int) (hv : F89z14 x0 x1 x2 x3 x4 x5 = v) (h : P89z14 x0 x1 x2 x3 x4 x5 = true) : Con0 E0 89 [V.agg [vi x0, vi (Int.ofNat 1), vi (Int.ofNat 7), v0, v0, V.nilSl, V.nilSl, V.sl 0 0 1 1, vi x1], vi (Int.ofNat 2)] [vt1_o0, vt1_o1 x2 x3 x4 x5] (V.agg [V.bool v.1, vi v.2.1, vi v.2.2.1, vi v.2.2.2.1, vi v.2.2.2.2.1, vi v.2.2.2.2.2.1, vi v.2.2.2.2.2.2]) ([vt1_o0, vt1_o1 (x2) (x3) (x4) (x5)]) := by
  unfold F89z14 at hv
  unfold P89z14 at h
  obtain ⟨z0, h⟩ := and_parts h
  have k0 := con87z8_v (x0) (Int.ofNat 1) (Int.ofNat 7) (Int.ofNat 0) (Int.ofNat 0) (x1) (false) (Int.ofNat 0) (Int.ofNat 1) (Int.ofNat 0) (Int.ofNat 0) (Int.ofNat 0) (Int.ofNat 0) (Int.ofNat 0) (x2) (x3) (x4) (x5) _ rfl z0
  generalize e0 : F87z8 x0 (Int.ofNat 1) (Int.ofNat 7) (Int.ofNat 0) (Int.ofNat 0) x1 false (Int.ofNat 0) (Int.ofNat 1) (Int.ofNat 0) (Int.ofNat 0) (Int.ofNat 0) (Int.ofNat 0) (Int.ofNat 0) x2 x3 x4 x5 = r72 at hv h k0
  unfold F89z14_r72 at hv
  unfold P89z14_r72 at h
  subst hv
  exact leafE good0 (F := Tryz.f89) (n := 2000) (ds := [dL, dL, dc k0]) (L := [0, 1]) (by kernel_rfl) (by kernel_rfl) (by kernel_rfl) (apc k0 apn)
def F65z12_r75 (r75 : Bool × Int × Int × Int × Int × Int × Int) : Bool × Int × Int × Int × Int × Int × Int := ((r75.fst), (r75.snd.fst), (r75.snd.snd.fst), (r75.snd.snd.snd.fst), (r75.snd.snd.snd.snd.fst), (r75.snd.snd.snd.snd.snd.fst), (r75.snd.snd.snd.snd.snd.snd))
def F65z12 (x0 x1 : Int) (x2 : Bool) (x3 x4 x5 x6 x7 x8 x9 x10 x11 x12 : Int) : Bool × Int × Int × Int × Int × Int × Int := (((F65z12_r75  (F89z14 x0 x1 x9 x10 x11 x12))))
def P65z12_r75 (r75 : Bool × Int × Int × Int × Int × Int × Int) : Bool := allB []
def P65z12 (x0 x1 : Int) (x2 : Bool) (x3 x4 x5 x6 x7 x8 x9 x10 x11 x12 : Int) : Bool := (P45z13 (x2) (x3) (x4) (x5) (x6) (x7) (x8) && (P45z13 (x2) (x3) (x4) (x5) (x6) (x7) (x8) && (P89z14 (x0) (x1) (x9) (x10) (x11) (x12) && P65z12_r75  (F89z14 x0 x1 x9 x10 x11 x12))))
theorem con65z12_v (x0 x1 : Int) (x2 : Bool) (x3 x4 x5 x6 x7 x8 x9 x10 x11 x12 : Int) (v : Bool × Int × Int × Int × Int × Int × Int) (hv : F65z12 x0 x1 x2 x3 x4 x5 x6 x7 x8 x9 x10 x11 x12 = v) (h : P65z12 x0 x1 x2 x3 x4 x5 x6 x7 x8 x9 x10 x11 x12 = true) : Con0 E0 65 [V.agg [vi x0, vi (Int.ofNat 1), vi (Int.ofNat 7), v0, v0, V.nilSl, V.nilSl, V.sl 0 0 1 1, vi x1], V.sl 1 0 7 7, V.agg [vi (Int.ofNat 5), vi (Int.ofNat 2), v0, vi (Int.ofNat 2), vi (Int.ofNat 1), V.int IntKind.i32 (Int.ofNat 0), v0, v0, V.int IntKind.i32 (Int.ofNat 0), v0, v0, V.int IntKind.i32 (Int.ofNat 0), v0, v0, V.int IntKind.i32 (Int.ofNat 0)]] [vt1_o3, vt1_o4 x2 x3 x4 x5 x6 x7 x8, vt1_o1 x9 x10 x11 x12] (V.agg [V.bool v.1, vi v.2.1, vi v.2.2.1, vi v.2.2.2.1, vi v.2.2.2.2.1, vi v.2.2.2.2.2.1, vi v.2.2.2.2.2.2]) ([vt1_o3, vt1_o4 (x2) (x3) (x4) (x5) (x6) (x7) (x8), vt1_o1 (x9) (x10) (x11) (x12)]) := by
  unfold F65z12 at hv
  unfold P65z12 at h
  obtain ⟨z0, h⟩ := and_parts h
  have k0 := con45z13_v (x2) (x3) (x4) (x5) (x6) (x7) (x8) _ rfl z0
  obtain ⟨z1, h⟩ := and_parts h
  have k1 := con45z13_v (x2) (x3) (x4) (x5) (x6) (x7) (x8) _ rfl z1
  obtain ⟨z2, h⟩ := and_parts h
  have k2 := con89z14_v (x0) (x1) (x9) (x10) (x11) (x12) _ rfl z2
  generalize e2 : F89z14 x0 x1 x9 x10 x11 x12 = r75 at hv h k2
  unfold F65z12_r75 at hv
  unfold P65z12_r75 at h
  subst hv
  exact leafE good0 (F := Tryz.f65) (n := 2000) (ds := [dc k0, dc k1, dL, dL, dL, dc k2]) (L := [0, 1, 2]) (by kernel_rfl) (by kernel_rfl) (by kernel_rfl) (apc k0 (apc k1 (apc (p := (V.sl 1 0 7 7 : V C0) = V.sl 1 0 7 7) rfl (apc (p := (V.sl 1 0 7 7 : V C0) = V.sl 1 0 7 7) rfl (apc k2 apn)))))
def F45z16 (x0 : Bool) (x1 x2 x3 x4 x5 x6 : Int) (x7 : Bool) (x8 x9 x10 x11 x12 x13 : Int) : Unit := (())
def P45z16 (x0 : Bool) (x1 x2 x3 x4 x5 x6 : Int) (x7 : Bool) (x8 x9 x10 x11 x12 x13 : Int) : Bool := (P43 (Int.ofNat 0) && allB [])
theorem con45z16_v (x0 : Bool) (x1 x2 x3 x4 x5 x6 : Int) (x7 : Bool) (x8 x9 x10 x11 x12 x13 : Int) (v : Unit) (hv : F45z16 x0 x1 x2 x3 x4 x5 x6 x7 x8 x9 x10 x11 x12 x13 = v) (h : P45z16 x0 x1 x2 x3 x4 x5 x6 x7 x8 x9 x10 x11 x12 x13 = true) : Con0 E0 45 [V.sl 0 0 7 7, V.agg [v0, v0, V.int IntKind.i32 (Int.ofNat 0)]] [vt1_o5 x0 x1 x2 x3 x4 x5 x6 x7 x8 x9 x10 x11 x12 x13] (V.agg [V.bool (false), v0, v0, v0, v0, v0, v0]) ([vt1_o5 (x0) (x1) (x2) (x3) (x4) (x5) (x6) (x7) (x8) (x9) (x10) (x11) (x12) (x13)]) := by
  unfold F45z16 at hv
  unfold P45z16 at h
  obtain ⟨z0, h⟩ := and_parts h
  have k0 : Con0 E0 43 [v0] [] (V.agg [V.bool false, v0, v0, v0, v0, v0, v0]) [] := con43 (Int.ofNat 0) z0
  subst hv
  exact leafE good0 (F := Tryz.f45) (n := 2000) (ds := [dL, dc k0]) (L := [0]) (by kernel_rfl) (by kernel_rfl) (by kernel_rfl) (apc k0 apn)
def F89z17_r85 (r85 : Bool × Int × Int × Int × Int × Int × Int) : Bool × Int × Int × Int × Int × Int × Int := ((r85.fst), (r85.snd.fst), (r85.snd.snd.fst), (r85.snd.snd.snd.fst), (r85.snd.snd.snd.snd.fst), (r85.snd.snd.snd.snd.snd.fst), (r85.snd.snd.snd.snd.snd.snd))
def F89z17 (x0 x1 x2 x3 x4 x5 : Int) : Bool × Int × Int × Int × Int × Int × Int := (F89z17_r85  (F87z8 x0 (Int.ofNat 1) (Int.ofNat 7) (Int.ofNat 0) (Int.ofNat 0) x1 false (Int.ofNat 0) (Int.ofNat 0) (Int.ofNat 1) (Int.ofNat 0) (Int.ofNat 0) (Int.ofNat 0) (Int.ofNat 0) x2 x3 x4 x5))
def P89z17_r85 (r85 : Bool × Int × Int × Int × Int × Int × Int) : Bool := allB []
def P89z17 (x0 x1 x2 x3 x4 x5 : Int) : Bool := (P87z8 (x0) (Int.ofNat 1) (Int.ofNat 7) (Int.ofNat 0) (Int.ofNat 0) (x1) (false) (Int.ofNat 0) (Int.ofNat 0) (Int.ofNat 1) (Int.ofNat 0) (Int.ofNat 0) (Int.ofNat 0) (Int.ofNat 0) (x2) (x3) (x4) (x5) && P89z17_r85  (F87z8 x0 (Int.ofNat 1) (Int.ofNat 7) (Int.ofNat 0) (Int.ofNat 0) x1 false (Int.ofNat 0) (Int.ofNat 0) (Int.ofNat 1) (Int.ofNat 0) (Int.ofNat 0) (Int.ofNat 0) (Int.ofNat 0) x2 x3 x4 x5))
theorem con89z17_v (x0 x1 x2 x3 x4 x5 : Int) (v : Bool × Int × Int × Int × Int × Int × Int) (hv : F89z17 x0 x1 x2 x3 x4 x5 = v) (h : P89z17 x0 x1 x2 x3 x4 x5 = true) : Con0 E0 89 [V.agg [vi x0, vi (Int.ofNat 1), vi (Int.ofNat 7), v0, v0, V.nilSl, V.nilSl, V.sl 0 0 1 1, vi x1], vi (Int.ofNat 3)] [vt1_o0, vt1_o1 x2 x3 x4 x5] (V.agg [V.bool v.1, vi v.2.1, vi v.2.2.1, vi v.2.2.2.1, vi v.2.2.2.2.1, vi v.2.2.2.2.2.1, vi v.2.2.2.2.2.2]) ([vt1_o0, vt1_o1 (x2) (x3) (x4) (x5)]) := by
  unfold F89z17 at hv
  unfold P89z17 at h
  obtain ⟨z0, h⟩ := and_parts h
  have k0 := con87z8_v (x0) (Int.ofNat 1) (Int.ofNat 7) (Int.ofNat 0) (Int.ofNat 0) (x1) (false) (Int.ofNat 0) (Int.ofNat 0) (Int.ofNat 1) (Int.ofNat 0) (Int.ofNat 0) (Int.ofNat 0) (Int.ofNat 0) (x2) (x3) (x4) (x5) _ rfl z0
  generalize e0 : F87z8 x0 (Int.ofNat 1) (Int.ofNat 7) (Int.ofNat 0) (Int.ofNat 0) x1 false (Int.ofNat 0) (Int.ofNat 0) (Int.ofNat 1) (Int.ofNat 0) (Int.ofNat 0) (Int.ofNat 0) (Int.ofNat 0) x2 x3 x4 x5 = r85 at hv h k0
  unfold F89z17_r85 at hv
  unfold P89z17_r85 at h
  subst hv
  exact leafE good0 (F := Tryz.f89) (n := 2000) (ds := [dL, dL, dL, dc k0]) (L := [0, 1]) (by kernel_rfl) (by kernel_rfl) (by kernel_rfl) (apc k0 apn)
def F65z15_r88 (r88 : Bool × Int × Int × Int × Int × Int × Int) : Bool × Int × Int × Int × Int × Int × Int := ((r88.fst), (r88.snd.fst), (r88.snd.snd.fst), (r88.snd.snd.snd.fst), (r88.snd.snd.snd.snd.fst), (r88.snd.snd.snd.snd.snd.fst), (r88.snd.snd.snd.snd.snd.snd))
def F65z15 (x0 x1 : Int) (x2 : Bool) (x3 x4 x5 x6 x7 x8 : Int) (x9 : Bool) (x10 x11 x12 x13 x14 x15 x16 x17 x18 x19 : Int) : Bool × Int × Int × Int × Int × Int × Int := (((F65z15_r88  (F89z17 x0 x1 x16 x17 x18 x19))))
def P65z15_r88 (r88 : Bool × Int × Int × Int × Int × Int × Int) : Bool := allB []
def P65z15 (x0 x1 : Int) (x2 : Bool) (x3 x4 x5 x6 x7 x8 : Int) (x9 : Bool) (x10 x11 x12 x13 x14 x15 x16 x17 x18 x19 : Int) : Bool := (P45z16 (x2) (x3) (x4) (x5) (x6) (x7) (x8) (x9) (x10) (x11) (x12) (x13) (x14) (x15) && (P45z16 (x2) (x3) (x4) (x5) (x6) (x7) (x8) (x9) (x10) (x11) (x12) (x13) (x14) (x15) && (P89z17 (x0) (x1) (x16) (x17) (x18) (x19) && P65z15_r88  (F89z17 x0 x1 x16 x17 x18 x19))))
theorem con65z15_v (x0 x1 : Int) (x2 : Bool) (x3 x4 x5 x6 x7 x8 : Int) (x9 : Bool) (x10 x11 x12 x13 x14 x15 x16 x17 x18 x19 : Int) (v : Bool × Int × Int × Int × Int × Int × Int) (hv : F65z15 x0 x1 x2 x3 x4 x5 x6 x7 x8 x9 x10 x11 x12 x13 x14 x15 x16 x17 x18 x19 = v) (h : P65z15 x0 x1 x2 x3 x4 x5 x6 x7 x8 x9 x10 x11 x12 x13 x14 x15 x16 x17 x18 x19 = true) : Con0 E0 65 [V.agg [vi x0, vi (Int.ofNat 1), vi (Int.ofNat 7), v0, v0, V.nilSl, V.nilSl, V.sl 0 0 1 1, vi x1], V.sl 1 0 7 7, V.agg [vi (Int.ofNat 5), vi (Int.ofNat 3), v0, vi (Int.ofNat 2), vi (Int.ofNat 2), V.int IntKind.i32 (Int.ofNat 0), v0, v0, V.int IntKind.i32 (Int.ofNat 0), v0, v0, V.int IntKind.i32 (Int.ofNat 0), v0, v0, V.int IntKind.i32 (Int.ofNat 0)]] [vt1_o3, vt1_o5 x2 x3 x4 x5 x6 x7 x8 x9 x10 x11 x12 x13 x14 x15, vt1_o1 x16 x17 x18 x19] (V.agg [V.bool v.1, vi v.2.1, vi v.2.2.1, vi v.2.2.2.1, vi v.2.2.2.2.1, vi v.2.2.2.2.2.1, vi v.2.2.2.2.2.2]) ([vt1_o3, vt1_o5 (x2) (x3) (x4) (x5) (x6) (x7) (x8) (x9) (x10) (x11) (x12) (x13) (x14) (x15), vt1_o1 (x16) (x17) (x18) (x19)]) := by
  unfold F65z15 at hv
  unfold P65z15 at h
  obtain ⟨z0, h⟩ := and_parts h
  have k0 := con45z16_v (x2) (x3) (x4) (x5) (x6) (x7) (x8) (x9) (x10) (x11) (x12) (x13) (x14) (x15) _ rfl z0
  obtain ⟨z1, h⟩ := and_parts h
  have k1 := con45z16_v (x2) (x3) (x4) (x5) (x6) (x7) (x8) (x9) (x10) (x11) (x12) (x13) (x14) (x15) _ rfl z1
  obtain ⟨z2, h⟩ := and_parts h
  have k2 := con89z17_v (x0) (x1) (x16) (x17) (x18) (x19) _ rfl z2
  generalize e2 : F89z17 x0 x1 x16 x17 x18 x19 = r88 at hv h k2
  unfold F65z15_r88 at hv
  unfold P65z15_r88 at h
  subst hv
  exact leafE good0 (F := Tryz.f65) (n := 2000) (ds := [dc k0, dc k1, dL, dL, dL, dc k2]) (L := [0, 1, 2]) (by kernel_rfl) (by kernel_rfl) (by kernel_rfl) (apc k0 (apc k1 (apc (p := (V.sl 1 0 7 7 : V C0) = V.sl 1 0 7 7) rfl (apc (p := (V.sl 1 0 7 7 : V C0) = V.sl 1 0 7 7) rfl (apc k2 apn)))))
def F45z19_r97 (r97 : Bool × Int × Int × Int × Int × Int × Int) : Int × Int := ((r97.snd.snd.snd.snd.fst), (r97.snd.snd.snd.snd.snd.fst))
def F45z19 (x0 : Int) (x1 : Bool) (x2 x3 x4 x5 x6 x7 : Int) (x8 : Bool) (x9 x10 x11 x12 x13 x14 : Int) (x15 : Bool) (x16 x17 x18 x19 x20 x21 : Int) : Int × Int := (F45z19_r97  (F43 (wr IntKind.i64 x0)))
def P45z19_r97 (r97 : Bool × Int × Int × Int × Int × Int × Int) : Bool := allB []
def P45z19 (x0 : Int) (x1 : Bool) (x2 x3 x4 x5 x6 x7 : Int) (x8 : Bool) (x9 x10 x11 x12 x13 x14 : Int) (x15 : Bool) (x16 x17 x18 x19 x20 x21 : Int) : Bool := (P43 (wr IntKind.i64 x0) && P45z19_r97  (F43 (wr IntKind.i64 x0)))
theorem con45z19_v (x0 : Int) (x1 : Bool) (x2 x3 x4 x5 x6 x7 : Int) (x8 : Bool) (x9 x10 x11 x12 x13 x14 : Int) (x15 : Bool) (x16 x17 x18 x19 x20 x21 : Int) (v : Int × Int) (hv : F45z19 x0 x1 x2 x3 x4 x5 x6 x7 x8 x9 x10 x11 x12 x13 x14 x15 x16 x17 x18 x19 x20 x21 = v) (h : P45z19 x0 x1 x2 x3 x4 x5 x6 x7 x8 x9 x10 x11 x12 x13 x14 x15 x16 x17 x18 x19 x20 x21 = true) : Con0 E0 45 [V.sl 0 0 7 7, V.agg [vi (Int.ofNat 1), v0, V.int IntKind.i32 x0]] [vt1_o6 x1 x2 x3 x4 x5 x6 x7 x8 x9 x10 x11 x12 x13 x14 x15 x16 x17 x18 x19 x20 x21] (V.agg [V.bool (false), v0, v0, v0, vi v.1, vi v.2, v0]) ([vt1_o6 (x1) (x2) (x3) (x4) (x5) (x6) (x7) (x8) (x9) (x10) (x11) (x12) (x13) (x14) (x15) (x16) (x17) (x18) (x19) (x20) (x21)]) := by
  unfold F45z19 at hv
  unfold P45z19 at h
  obtain ⟨z0, h⟩ := and_parts h
  have k0 : Con0 E0 43 [vi (wr IntKind.i64 x0)] [] (V.agg [V.bool false, v0, v0, v0, vi (F43 (wr IntKind.i64 x0)).snd.snd.snd.snd.fst, vi (F43 (wr IntKind.i64 x0)).snd.snd.snd.snd.snd.fst, v0]) [] := con43 (wr IntKind.i64 x0) z0
  generalize e0 : F43 (wr IntKind.i64 x0) = r97 at hv h k0
  unfold F45z19_r97 at hv
  unfold P45z19_r97 at h
  subst hv
  exact leafE good0 (F := Tryz.f45) (n := 2000) (ds := [dL, dc k0]) (L := [0]) (by kernel_rfl) (by kernel_rfl) (by kernel_rfl) (apc k0 apn)
def F45z20 (x0 : Bool) (x1 x2 x3 x4 x5 x6 : Int) (x7 : Bool) (x8 x9 x10 x11 x12 x13 : Int) (x14 : Bool) (x15 x16 x17 x18 x19 x20 : Int) : Unit := ()
def P45z20 (x0 : Bool) (x1 x2 x3 x4 x5 x6 : Int) (x7 : Bool) (x8 x9 x10 x11 x12 x13 : Int) (x14 : Bool) (x15 x16 x17 x18 x19 x20 : Int) : Bool := allB []
theorem con45z20_v (x0 : Bool) (x1 x2 x3 x4 x5 x6 : Int) (x7 : Bool) (x8 x9 x10 x11 x12 x13 : Int) (x14 : Bool) (x15 x16 x17 x18 x19 x20 : Int) (v : Unit) (hv : F45z20 x0 x1 x2 x3 x4 x5 x6 x7 x8 x9 x10 x11 x12 x13 x14 x15 x16 x17 x18 x19 x20 = v) (h : P45z20 x0 x1 x2 x3 x4 x5 x6 x7 x8 x9 x10 x11 x12 x13 x14 x15 x16 x17 x18 x19 x20 = true) : Con0 E0 45 [V.sl 0 0 7 7, V.agg [vi (Int.ofNat 2), v0, V.int IntKind.i32 (Int.ofNat 0)]] [vt1_o6 x0 x1 x2 x3 x4 x5 x6 x7 x8 x9 x10 x11 x12 x13 x14 x15 x16 x17 x18 x19 x20] (V.agg [V.bool (x0), vi (x1), vi (x2), vi (x3), vi (x4), vi (x5), vi (x6)]) ([vt1_o6 (x0) (x1) (x2) (x3) (x4) (x5) (x6) (x7) (x8) (x9) (x10) (x11) (x12) (x13) (x14) (x15) (x16) (x17) (x18) (x19) (x20)]) := by
  unfold F45z20 at hv
  unfold P45z20 at h
  subst hv
  exact leafE good0 (F := Tryz.f45) (n := 2000) (ds := [dL]) (L := [0]) (by kernel_rfl) (by kernel_rfl) (by kernel_rfl) (apc (p := (true) = true) rfl (apc (p := (true) = true) rfl apn))
def F108z22  : Unit := ()
def P108z22  : Bool := allB []
theorem con108z22_v  (v : Unit) (hv : F108z22  = v) (h : P108z22  = true) : Con0 E0 108 [V.func 109 [] []] [] (V.func 124 [] [V.ptr 0 0]) ([AObj.cells [V.func 109 [] []] 176]) := by
  unfold F108z22 at hv
  unfold P108z22 at h
  subst hv
  exact leafE good0 (F := Tryz.f108) (n := 2000) (ds := []) (L := [0]) (by kernel_rfl) (by kernel_rfl) (by kernel_rfl) apn
def F108z23  : Unit := ()
def P108z23  : Bool := allB []
theorem con108z23_v  (v : Unit) (hv : F108z23  = v) (h : P108z23  = true) : Con0 E0 108 [V.func 110 [] []] [] (V.func 124 [] [V.ptr 0 0]) ([AObj.cells [V.func 110 [] []] 176]) := by
  unfold F108z23 at hv
  unfold P108z23 at h
  subst hv
  exact leafE good0 (F := Tryz.f108) (n := 2000) (ds := []) (L := [0]) (by kernel_rfl) (by kernel_rfl) (by kernel_rfl) apn
def F108z24  : Unit := ()
def P108z24  : Bool := allB []
theorem con108z24_v  (v : Unit) (hv : F108z24  = v) (h : P108z24  = true) : Con0 E0 108 [V.func 111 [] []] [] (V.func 124 [] [V.ptr 0 0]) ([AObj.cells [V.func 111 [] []] 176]) := by
  unfold F108z24 at hv
  unfold P108z24 at h
  subst hv
  exact leafE good0 (F := Tryz.f108) (n := 2000) (ds := []) (L := [0]) (by kernel_rfl) (by kernel_rfl) (by kernel_rfl) apn
def F108z25  : Unit := ()
def P108z25  : Bool := allB []
theorem con108z25_v  (v : Unit) (hv : F108z25  = v) (h : P108z25  = true) : Con0 E0 108 [V.func 112 [] []] [] (V.func 124 [] [V.ptr 0 0]) ([AObj.cells [V.func 112 [] []] 176]) := by
  unfold F108z25 at hv
  unfold P108z25 at h
  subst hv
  exact leafE good0 (F := Tryz.f108) (n := 2000) (ds := []) (L := [0]) (by kernel_rfl) (by kernel_rfl) (by kernel_rfl) apn
def F113z26  : Unit := ()
def P113z26  : Bool := allB []
theorem con113z26_v  (v : Unit) (hv : F113z26  = v) (h : P113z26  = true) : Con0 E0 113 [V.func 114 [] []] [] (V.func 126 [] [V.ptr 0 0]) ([AObj.cells [V.func 114 [] []] 178]) := by
  unfold F113z26 at hv
  unfold P113z26 at h
  subst hv
  exact leafE good0 (F := Tryz.f113) (n := 2000) (ds := []) (L := [0]) (by kernel_rfl) (by kernel_rfl) (by kernel_rfl) apn
def F113z27  : Unit := ()
def P113z27  : Bool := allB []
theorem con113z27_v  (v : Unit) (hv : F113z27  = v) (h : P113z27  = true) : Con0 E0 113 [V.func 115 [] []] [] (V.func 126 [] [V.ptr 0 0]) ([AObj.cells [V.func 115 [] []] 178]) := by
  unfold F113z27 at hv
  unfold P113z27 at h
  subst hv
  exact leafE good0 (F := Tryz.f113) (n := 2000) (ds := []) (L := [0]) (by kernel_rfl) (by kernel_rfl) (by kernel_rfl) apn
def F113z28  : Unit := ()
def P113z28  : Bool := allB []
theorem con113z28_v  (v : Unit) (hv : F113z28  = v) (h : P113z28  = true) : Con0 E0 113 [V.func 116 [] []] [] (V.func 126 [] [V.ptr 0 0]) ([AObj.cells [V.func 116 [] []] 178]) := by
  unfold F113z28 at hv
  unfold P113z28 at h
  subst hv
  exact leafE good0 (F := Tryz.f113) (n := 2000) (ds := []) (L := [0]) (by kernel_rfl) (by kernel_rfl) (by kernel_rfl) apn
def F91z21  : Unit := ((((((((()))))))))
def P91z21  : Bool := (P108z22  && (P108z23  && (P108z24  && (P108z25  && (P113z26  && (P113z27  && (P113z28  && (P113z28  && allB []))))))))
theorem con91z21_v  (v : Unit) (hv : F91z21  = v) (h : P91z21  = true) : Con0 E0 91 [] [] (V.sl 0 0 12 12) ([AObj.cells [vi (Int.ofNat 10), V.func 104 [] [], vi (Int.ofNat 11), V.func 102 [] [], vi (Int.ofNat 12), V.func 105 [] [], vi (Int.ofNat 17), V.func 106 [] [], vi (Int.ofNat 20), V.func 124 [] [V.ptr 1 0], vi (Int.ofNat 21), V.func 124 [] [V.ptr 2 0], vi (Int.ofNat 13), V.func 124 [] [V.ptr 3 0], vi (Int.ofNat 14), V.func 124 [] [V.ptr 4 0], vi (Int.ofNat 22), V.func 126 [] [V.ptr 5 0], vi (Int.ofNat 23), V.func 126 [] [V.ptr 6 0], vi (Int.ofNat 18), V.func 126 [] [V.ptr 7 0], vi (Int.ofNat 19), V.func 126 [] [V.ptr 8 0]] 155, AObj.cells [V.func 109 [] []] 176, AObj.cells [V.func 110 [] []] 176, AObj.cells [V.func 111 [] []] 176, AObj.cells [V.func 112 [] []] 176, AObj.cells [V.func 114 [] []] 178, AObj.cells [V.func 115 [] []] 178, AObj.cells [V.func 116 [] []] 178, AObj.cells [V.func 116 [] []] 178]) := by
  unfold F91z21 at hv
  unfold P91z21 at h
  obtain ⟨z0, h⟩ := and_parts h
  have k0 := con108z22_v  _ rfl z0
  obtain ⟨z1, h⟩ := and_parts h
  have k1 := con108z23_v  _ rfl z1
  obtain ⟨z2, h⟩ := and_parts h
  have k2 := con108z24_v  _ rfl z2
  obtain ⟨z3, h⟩ := and_parts h
  have k3 := con108z25_v  _ rfl z3
  obtain ⟨z4, h⟩ := and_parts h
  have k4 := con113z26_v  _ rfl z4
  obtain ⟨z5, h⟩ := and_parts h
  have k5 := con113z27_v  _ rfl z5
  obtain ⟨z6, h⟩ := and_parts h
  have k6 := con113z28_v  _ rfl z6
  obtain ⟨z7, h⟩ := and_parts h
  have k7 := con113z28_v  _ rfl z7
  subst hv
  exact leafE good0 (F := Tryz.f91) (n := 2000) (ds := [dc k0, dc k1, dc k2, dc k3, dc k4, dc k5, dc k6, dc k7]) (L := [8, 0, 1, 2, 3, 4, 5, 6, 7]) (by kernel_rfl) (by kernel_rfl) (by kernel_rfl) (apc k0 (apc k1 (apc k2 (apc k3 (apc k4 (apc k5 (apc k6 (apc k7 apn))))))))
def F85z32 (x0 : Bool) (x1 x2 x3 x4 x5 x6 : Int) (x7 : Bool) (x8 x9 x10 x11 x12 x13 : Int) : Bool := ((x0 == x7 && (x1 == x8 && (x2 == x9 && (x3 == x10 && true)))))
def P85z32 (x0 : Bool) (x1 x2 x3 x4 x5 x6 : Int) (x7 : Bool) (x8 x9 x10 x11 x12 x13 : Int) : Bool := allB []
theorem con85z32_v (x0 : Bool) (x1 x2 x3 x4 x5 x6 : Int) (x7 : Bool) (x8 x9 x10 x11 x12 x13 : Int) (v : Bool) (hv : F85z32 x0 x1 x2 x3 x4 x5 x6 x7 x8 x9 x10 x11 x12 x13 = v) (h : P85z32 x0 x1 x2 x3 x4 x5 x6 x7 x8 x9 x10 x11 x12 x13 = true) : Con0 E0 85 [V.agg [V.bool x0, vi x1, vi x2, vi x3, vi x4, vi x5, vi x6], V.agg [V.bool x7, vi x8, vi x9, vi x10, vi x11, vi x12, vi x13]] [] (V.bool v) ([]) := by
  unfold F85z32 at hv
  unfold P85z32 at h
  subst hv
  exact leafE good0 (F := Tryz.f85) (n := 2000) (ds := []) (L := []) (by kernel_rfl) (by kernel_rfl) (by kernel_rfl) apn
def F66z31_r133 (r133 : Bool) : Bool := ((r133))
def F66z31 (x0 : Bool) (x1 x2 x3 x4 x5 x6 : Int) : Bool := (F66z31_r133  (F85z32 x0 x1 x2 x3 x4 x5 x6 false (Int.ofNat 0) (Int.ofNat 0) (Int.ofNat 0) (Int.ofNat 0) (Int.ofNat 0) (Int.ofNat 0)))
def P66z31_r133 (r133 : Bool) : Bool := allB []
def P66z31 (x0 : Bool) (x1 x2 x3 x4 x5 x6 : Int) : Bool := (P85z32 (x0) (x1) (x2) (x3) (x4) (x5) (x6) (false) (Int.ofNat 0) (Int.ofNat 0) (Int.ofNat 0) (Int.ofNat 0) (Int.ofNat 0) (Int.ofNat 0) && P66z31_r133  (F85z32 x0 x1 x2 x3 x4 x5 x6 false (Int.ofNat 0) (Int.ofNat 0) (Int.ofNat 0) (Int.ofNat 0) (Int.ofNat 0) (Int.ofNat 0)))
theorem con66z31_v (x0 : Bool) (x1 x2 x3 x4 x5 x6 : Int) (v : Bool) (hv : F66z31 x0 x1 x2 x3 x4 x5 x6 = v) (h : P66z31 x0 x1 x2 x3 x4 x5 x6 = true) : Con0 E0 66 [V.agg [V.bool x0, vi x1, vi x2, vi x3, vi x4, vi x5, vi x6]] [] (V.bool v) ([]) := by
  unfold F66z31 at hv
  unfold P66z31 at h
  obtain ⟨z0, h⟩ := and_parts h
  have k0 := con85z32_v (x0) (x1) (x2) (x3) (x4) (x5) (x6) (false) (Int.ofNat 0) (Int.ofNat 0) (Int.ofNat 0) (Int.ofNat 0) (Int.ofNat 0) (Int.ofNat 0) _ rfl z0
  generalize e0 : F85z32 x0 x1 x2 x3 x4 x5 x6 false (Int.ofNat 0) (Int.ofNat 0) (Int.ofNat 0) (Int.ofNat 0) (Int.ofNat 0) (Int.ofNat 0) = r133 at hv h k0
  unfold F66z31_r133 at hv
  unfold P66z31_r133 at h
  subst hv
  exact leafE good0 (F := Tryz.f66) (n := 2000) (ds := [dc k0]) (L := []) (by kernel_rfl) (by kernel_rfl) (by kernel_rfl) (apc k0 apn)
def F67z30_r134 (x4 x5 : Int) (r134 : Bool) : Bool := (if (r134 : Bool) = true then ((x4 == x5)) else ((false)))
def F67z30 (x0 : Bool) (x1 x2 x3 x4 x5 x6 : Int) : Bool := (F67z30_r134 x4 x5 (F66z31 x0 x1 x2 x3 x4 x5 x6))
def P67z30_r134 (r134 : Bool) : Bool := (if (r134 : Bool) = true then allB [] else allB [])
def P67z30 (x0 : Bool) (x1 x2 x3 x4 x5 x6 : Int) : Bool := (P66z31 (x0) (x1) (x2) (x3) (x4) (x5) (x6) && P67z30_r134  (F66z31 x0 x1 x2 x3 x4 x5 x6))
theorem con67z30_v (x0 : Bool) (x1 x2 x3 x4 x5 x6 : Int) (v : Bool) (hv : F67z30 x0 x1 x2 x3 x4 x5 x6 = v) (h : P67z30 x0 x1 x2 x3 x4 x5 x6 = true) : Con0 E0 67 [V.agg [V.bool x0, vi x1, vi x2, vi x3, vi x4, vi x5, vi x6]] [] (V.tuple [vi (x4), V.bool v]) ([]) := by
  unfold F67z30 at hv
  unfold P67z30 at h
  obtain ⟨z0, h⟩ := and_parts h
  have k0 := con66z31_v (x0) (x1) (x2) (x3) (x4) (x5) (x6) _ rfl z0
  generalize e0 : F66z31 x0 x1 x2 x3 x4 x5 x6 = r134 at hv h k0
  unfold F67z30_r134 at hv
  unfold P67z30_r134 at h
  by_cases c1 : (r134 : Bool) = true
  · rw [if_pos c1] at hv h
    subst hv
    exact leafE good0 (F := Tryz.f67) (n := 2000) (ds := [dc k0, dT, dT, dT, dT, dT, dT, dT, dT]) (L := []) (by kernel_rfl) (by kernel_rfl) (by kernel_rfl) (apc k0 (apc c1 (apc c1 (apc c1 (apc c1 (apc c1 (apc c1 (apc c1 (apc c1 apn)))))))))
  · rw [if_neg c1] at hv h
    replace c1 := eq_false_of_ne_true c1
    subst hv
    exact leafE good0 (F := Tryz.f67) (n := 2000) (ds := [dc k0, dF, dF, dF, dF, dF, dF, dF, dF]) (L := []) (by kernel_rfl) (by kernel_rfl) (by kernel_rfl) (apc k0 (apc c1 (apc c1 (apc c1 (apc c1 (apc c1 (apc c1 (apc c1 (apc c1 apn)))))))))
def F101z33_r140 (r140 : Bool × Int × Int × Int × Int × Int × Int) : Bool × Int × Int × Int × Int × Int × Int := ((r140.fst), (r140.snd.fst), (r140.snd.snd.fst), (r140.snd.snd.snd.fst), (r140.snd.snd.snd.snd.fst), (r140.snd.snd.snd.snd.snd.fst), (r140.snd.snd.snd.snd.snd.snd))
def F101z33_r139 (x0 x1 x2 x3 x4 x5 x7 x8 x9 x13 x14 x15 x16 x17 : Int) (r139 : Int × Int × Int × Int) : Bool × Int × Int × Int × Int × Int × Int := (F101z33_r140  (F87z8 x0 x1 x2 x3 x4 x5 false (wr IntKind.i64 (x7 * x13)) (wr IntKind.i64 (x8 * x13)) (wr IntKind.i64 (x9 * x13)) r139.fst r139.snd.fst r139.snd.snd.fst r139.snd.snd.snd x14 x15 x16 x17))
def F101z33 (x0 x1 x2 x3 x4 x5 : Int) (x6 : Bool) (x7 x8 x9 x10 x11 x12 x13 x14 x15 x16 x17 : Int) : Bool × Int × Int × Int × Int × Int × Int := (if (x6 : Bool) = true then (((true), (Int.ofNat 0), (Int.ofNat 0), (Int.ofNat 0), (Int.ofNat 0), (Int.ofNat 0), (Int.ofNat 0))) else (if (decide (x13 < Int.negSucc 2147483647) : Bool) = true then (((true), (Int.ofNat 0), (Int.ofNat 0), (Int.ofNat 0), (Int.ofNat 0), (Int.ofNat 0), (Int.ofNat 0))) else (if (decide (x13 > Int.ofNat 2147483648) : Bool) = true then (((true), (Int.ofNat 0), (Int.ofNat 0), (Int.ofNat 0), (Int.ofNat 0), (Int.ofNat 0), (Int.ofNat 0))) else (F101z33_r139 x0 x1 x2 x3 x4 x5 x7 x8 x9 x13 x14 x15 x16 x17 (F82 x10 x11 x12 x13)))))
def P101z33_r140 (r140 : Bool × Int × Int × Int × Int × Int × Int) : Bool := allB []
def P101z33_r139 (x0 x1 x2 x3 x4 x5 x7 x8 x9 x13 x14 x15 x16 x17 : Int) (r139 : Int × Int × Int × Int) : Bool := (P87z8 (x0) (x1) (x2) (x3) (x4) (x5) (false) (wr IntKind.i64 (x7 * x13)) (wr IntKind.i64 (x8 * x13)) (wr IntKind.i64 (x9 * x13)) (r139.fst) (r139.snd.fst) (r139.snd.snd.fst) (r139.snd.snd.snd) (x14) (x15) (x16) (x17) && P101z33_r140  (F87z8 x0 x1 x2 x3 x4 x5 false (wr IntKind.i64 (x7 * x13)) (wr IntKind.i64 (x8 * x13)) (wr IntKind.i64 (x9 * x13)) r139.fst r139.snd.fst r139.snd.snd.fst r139.snd.snd.snd x14 x15 x16 x17))
def P101z33 (x0 x1 x2 x3 x4 x5 : Int) (x6 : Bool) (x7 x8 x9 x10 x11 x12 x13 x14 x15 x16 x17 : Int) : Bool := (if (x6 : Bool) = true then (P44  && allB []) else (if (decide (x13 < Int.negSucc 2147483647) : Bool) = true then (P44  && allB []) else (if (decide (x13 > Int.ofNat 2147483648) : Bool) = true then (P44  && allB []) else (P82 (x10) (x11) (x12) (x13) && P101z33_r139 x0 x1 x2 x3 x4 x5 x7 x8 x9 x13 x14 x15 x16 x17 (F82 x10 x11 x12 x13)))))
theorem con101z33_v (x0 x1 x2 x3 x4 x5 : Int) (x6 : Bool) (x7 x8 x9 x10 x11 x12 x13 x14 x15 x16 x17 : Int) (v : Bool × Int × Int × Int × Int × Int × Int) (hv : F101z33 x0 x1 x2 x3 x4 x5 x6 x7 x8 x9 x10 x11 x12 x13 x14 x15 x16 x17 = v) (h : P101z33 x0 x1 x2 x3 x4 x5 x6 x7 x8 x9 x10 x11 x12 x13 x14 x15 x16 x17 = true) : Con0 E0 101 [V.agg [vi x0, vi x1, vi x2, vi x3, vi x4, V.nilSl, V.nilSl, V.sl 0 0 1 1, vi x5], V.agg [V.bool x6, vi x7, vi x8, vi x9, vi x10, vi x11, vi x12], vi x13] [vt1_o0, vt1_o1 x14 x15 x16 x17] (V.agg [V.bool v.1, vi v.2.1, vi v.2.2.1, vi v.2.2.2.1, vi v.2.2.2.2.1, vi v.2.2.2.2.2.1, vi v.2.2.2.2.2.2]) ([vt1_o0, vt1_o1 (x14) (x15) (x16) (x17)]) := by
  unfold F101z33 at hv
  unfold P101z33 at h
  by_cases c0 : (x6 : Bool) = true
  · rw [if_pos c0] at hv h
    obtain ⟨z1, h⟩ := and_parts h
    have k1 : Con0 E0 44 [] [] (V.agg [V.bool true, v0, v0, v0, v0, v0, v0]) [] := con44  z1
    subst hv
    exact leafE good0 (F := Tryz.f101) (n := 2000) (ds := [dT, dT, dT, dL, dL, dL, dL, dc k1]) (L := [0, 1]) (by kernel_rfl) (by kernel_rfl) (by kernel_rfl) (apc c0 (apc c0 (apc c0 (apc k1 apn))))
  · rw [if_neg c0] at hv h
    replace c0 := eq_false_of_ne_true c0
    by_cases c1 : (decide (x13 < Int.negSucc 2147483647) : Bool) = true
    · rw [if_pos c1] at hv h
      obtain ⟨z2, h⟩ := and_parts h
      have k2 : Con0 E0 44 [] [] (V.agg [V.bool true, v0, v0, v0, v0, v0, v0]) [] := con44  z2
      subst hv
      exact leafE good0 (F := Tryz.f101) (n := 2000) (ds := [dF, dF, dF, dT, dT, dT, dL, dc k2]) (L := [0, 1]) (by kernel_rfl) (by kernel_rfl) (by kernel_rfl) (apc c0 (apc c0 (apc c0 (apc c1 (apc c1 (apc c1 (apc k2 apn)))))))
    · rw [if_neg c1] at hv h
      replace c1 := eq_false_of_ne_true c1
      by_cases c2 : (decide (x13 > Int.ofNat 2147483648) : Bool) = true
      · rw [if_pos c2] at hv h
        obtain ⟨z3, h⟩ := and_parts h
        have k3 : Con0 E0 44 [] [] (V.agg [V.bool true, v0, v0, v0, v0, v0, v0]) [] := con44  z3
        subst hv
        exact leafE good0 (F := Tryz.f101) (n := 2000) (ds := [dF, dF, dF, dF, dF, dF, dT, dc k3]) (L := [0, 1]) (by kernel_rfl) (by kernel_rfl) (by kernel_rfl) (apc c0 (apc c0 (apc c0 (apc c1 (apc c1 (apc c1 (apc c2 (apc k3 apn))))))))
      · rw [if_neg c2] at hv h
        replace c2 := eq_false_of_ne_true c2
        obtain ⟨z3, h⟩ := and_parts h
        have k3 := con82 (x10) (x11) (x12) (x13) z3
        generalize e3 : F82 x10 x11 x12 x13 = r139 at hv h k3
        unfold F101z33_r139 at hv
        unfold P101z33_r139 at h
        obtain ⟨z4, h⟩ := and_parts h
        have k4 := con87z8_v (x0) (x1) (x2) (x3) (x4) (x5) (false) (wr IntKind.i64 (x7 * x13)) (wr IntKind.i64 (x8 * x13)) (wr IntKind.i64 (x9 * x13)) (r139.fst) (r139.snd.fst) (r139.snd.snd.fst) (r139.snd.snd.snd) (x14) (x15) (x16) (x17) _ rfl z4
        generalize e4 : F87z8 x0 x1 x2 x3 x4 x5 false (wr IntKind.i64 (x7 * x13)) (wr IntKind.i64 (x8 * x13)) (wr IntKind.i64 (x9 * x13)) r139.fst r139.snd.fst r139.snd.snd.fst r139.snd.snd.snd x14 x15 x16 x17 = r140 at hv h k4
        unfold F101z33_r140 at hv
        unfold P101z33_r140 at h
        subst hv
        exact leafE good0 (F := Tryz.f101) (n := 2000) (ds := [dF, dF, dF, dF, dF, dF, dF, dc k3, dc k4]) (L := [0, 1]) (by kernel_rfl) (by kernel_rfl) (by kernel_rfl) (apc c0 (apc c0 (apc c0 (apc c1 (apc c1 (apc c1 (apc c2 (apc k3 (apc k4 apn)))))))))
def FS84z35_2 (x0 x1 x2 : Int) (rec_ : Int → Int → Int) (y2_0 y2_1 : Int) : Int := (if (y2_0 != Int.ofNat 0 : Bool) = true then (rec_ (y2_1.tmod y2_0) (y2_0)) else ((if wr IntKind.i64 (Int.ofNat 0 - y2_1) > y2_1 then wr IntKind.i64 (Int.ofNat 0 - y2_1) else y2_1)))
def FL84z35_2 (x0 x1 x2 : Int) : Nat → Int → Int → Int
  | 0 => fun _ _ => default
  | n + 1 => FS84z35_2 x0 x1 x2  (FL84z35_2 x0 x1 x2  n)
def PS84z35_2 (x0 x1 x2 : Int) (rec_ : Int → Int → Bool) (y2_0 y2_1 : Int) : Bool := (if (y2_0 != Int.ofNat 0 : Bool) = true then allB [!y2_0 == Int.ofNat 0, rec_ (y2_1.tmod y2_0) (y2_0)] else allB [])
def PL84z35_2 (x0 x1 x2 : Int) : Nat → Int → Int → Bool
  | 0 => fun _ _ => false
  | n + 1 => PS84z35_2 x0 x1 x2  (PL84z35_2 x0 x1 x2  n)
def FS84z35_1 (x0 x1 x2 : Int) (rec_ : Int → Int → Int) (y1_0 y1_1 : Int) : Int := (if (y1_0 != Int.ofNat 0 : Bool) = true then (rec_ (y1_1.tmod y1_0) (y1_0)) else (FL84z35_2 x0 x1 x2  (Int.natAbs (x2) + 1) (x2) (y1_1)))
def FL84z35_1 (x0 x1 x2 : Int) : Nat → Int → Int → Int
  | 0 => fun _ _ => default
  | n + 1 => FS84z35_1 x0 x1 x2  (FL84z35_1 x0 x1 x2  n)
def PS84z35_1 (x0 x1 x2 : Int) (rec_ : Int → Int → Bool) (y1_0 y1_1 : Int) : Bool := (if (y1_0 != Int.ofNat 0 : Bool) = true then allB [!y1_0 == Int.ofNat 0, rec_ (y1_1.tmod y1_0) (y1_0)] else allB [PL84z35_2 x0 x1 x2  (Int.natAbs (x2) + 1) (x2) (y1_1)])
def PL84z35_1 (x0 x1 x2 : Int) : Nat → Int → Int → Bool
  | 0 => fun _ _ => false
  | n + 1 => PS84z35_1 x0 x1 x2  (PL84z35_1 x0 x1 x2  n)
def FS84z35_0 (x0 x1 x2 : Int) (rec_ : Int → Int → Int) (y0_0 y0_1 : Int) : Int := (if (y0_0 != Int.ofNat 0 : Bool) = true then (rec_ (y0_1.tmod y0_0) (y0_0)) else (FL84z35_1 x0 x1 x2  (Int.natAbs (x1) + 1) (x1) (y0_1)))
def FL84z35_0 (x0 x1 x2 : Int) : Nat → Int → Int → Int
  | 0 => fun _ _ => default
  | n + 1 => FS84z35_0 x0 x1 x2  (FL84z35_0 x0 x1 x2  n)
def PS84z35_0 (x0 x1 x2 : Int) (rec_ : Int → Int → Bool) (y0_0 y0_1 : Int) : Bool := (if (y0_0 != Int.ofNat 0 : Bool) = true then allB [!y0_0 == Int.ofNat 0, rec_ (y0_1.tmod y0_0) (y0_0)] else allB [PL84z35_1 x0 x1 x2  (Int.natAbs (x1) + 1) (x1) (y0_1)])
def PL84z35_0 (x0 x1 x2 : Int) : Nat → Int → Int → Bool
  | 0 => fun _ _ => false
  | n + 1 => PS84z35_0 x0 x1 x2  (PL84z35_0 x0 x1 x2  n)
theorem okL84z35_1 : (∀ n, (Todo.head (loopN Tryz.f84 (fun _ => 0) 1).1 n).ok = true) := fun _ => by kernel_rfl
noncomputable def FR84z35_2  : List Fm := (loopN Tryz.f84 (fun i => bif Nat.beq i 0 then 2 else 0) 1).2
noncomputable def FR84z35_1  : List Fm := (loopN Tryz.f84 (fun i => bif Nat.beq i 0 then 3 else 0) 1).2
noncomputable def FR84z35_0  : List Fm := (loopN Tryz.f84 (fun i => bif Nat.beq i 0 then 4 else 0) 1).2
theorem conL84z35_2 (x0 x1 x2 : Int)  : ∀ (n2 : Nat) (y2_0 y2_1 : Int) (jk : Nat → Value) (h : PL84z35_2 x0 x1 x2  n2 y2_0 y2_1 = true), J E0 1 Tryz.f84 (.head (loopN Tryz.f84 (fun _ => 0) 1).1 n2) (FR84z35_2 ) (mkAS [(5, vi (y2_0)), (3, vi (y2_1)), (8, vi (Int.ofNat 2)), (7, vi (Int.ofNat 3)), (6, V.sl 0 0 3 3)] 23 [AObj.cells [vi (x0), vi (x1), vi (x2)] 2] jk) (vi (FL84z35_2 x0 x1 x2  n2 y2_0 y2_1)) ([AObj.cells [vi (x0), vi (x1), vi (x2)] 2]) := by
  intro n2
  induction n2 with
  | zero => intro y2_0 y2_1 jk h; exact absurd (show false = true from h) Bool.false_ne_true
  | succ n2 ih =>
    intro y2_0 y2_1 jk h
    suffices H : ∀ v, FL84z35_2 x0 x1 x2  (n2 + 1) y2_0 y2_1 = v → J E0 1 Tryz.f84 (.head (loopN Tryz.f84 (fun _ => 0) 1).1 (n2 + 1)) (FR84z35_2 ) (mkAS [(5, vi (y2_0)), (3, vi (y2_1)), (8, vi (Int.ofNat 2)), (7, vi (Int.ofNat 3)), (6, V.sl 0 0 3 3)] 23 [AObj.cells [vi (x0), vi (x1), vi (x2)] 2] jk) (vi v) ([AObj.cells [vi (x0), vi (x1), vi (x2)] 2]) from H _ rfl
    intro v hv
    replace hv : FS84z35_2 x0 x1 x2  (FL84z35_2 x0 x1 x2  n2) y2_0 y2_1 = v := hv
    replace h : PS84z35_2 x0 x1 x2  (PL84z35_2 x0 x1 x2  n2) y2_0 y2_1 = true := h
    unfold FS84z35_2 at hv
    unfold PS84z35_2 at h
    by_cases c0 : (y2_0 != Int.ofNat 0 : Bool) = true
    · rw [if_pos c0] at hv h
      subst hv
      obtain ⟨q0, q1, _⟩ := bs_of h
      exact path_ok good0 (k := 1) (F := Tryz.f84) (n := 2000) (ds := dL :: [dT, Dec.stop]) (L := [0]) (ts := [5, 3, 8, 7, 6]) (by kernel_rfl) (apc c0 (apc q0 apn)) (okL84z35_1 _) (by kernel_rfl) (fun jk => ih (y2_1.tmod y2_0) (y2_0) jk q1)
    · rw [if_neg c0] at hv h
      replace c0 := eq_false_of_ne_true c0
      subst hv
      exact pathEnd_ok good0 (k := 1) (F := Tryz.f84) (n := 2000) (ds := dL :: [dF, dL, dL]) (L := [0]) (by kernel_rfl) (apc c0 apn) (okL84z35_1 _) (by kernel_rfl)
theorem conL84z35_1 (x0 x1 x2 : Int)  : ∀ (n1 : Nat) (y1_0 y1_1 : Int) (jk : Nat → Value) (h : PL84z35_1 x0 x1 x2  n1 y1_0 y1_1 = true), J E0 1 Tryz.f84 (.head (loopN Tryz.f84 (fun _ => 0) 1).1 n1) (FR84z35_1 ) (mkAS [(5, vi (y1_0)), (3, vi (y1_1)), (8, vi (Int.ofNat 1)), (7, vi (Int.ofNat 3)), (6, V.sl 0 0 3 3)] 23 [AObj.cells [vi (x0), vi (x1), vi (x2)] 2] jk) (vi (FL84z35_1 x0 x1 x2  n1 y1_0 y1_1)) ([AObj.cells [vi (x0), vi (x1), vi (x2)] 2]) := by
  intro n1
  induction n1 with
  | zero => intro y1_0 y1_1 jk h; exact absurd (show false = true from h) Bool.false_ne_true
  | succ n1 ih =>
    intro y1_0 y1_1 jk h
    suffices H : ∀ v, FL84z35_1 x0 x1 x2  (n1 + 1) y1_0 y1_1 = v → J E0 1 Tryz.f84 (.head (loopN Tryz.f84 (fun _ => 0) 1).1 (n1 + 1)) (FR84z35_1 ) (mkAS [(5, vi (y1_0)), (3, vi (y1_1)), (8, vi (Int.ofNat 1)), (7, vi (Int.ofNat 3)), (6, V.sl 0 0 3 3)] 23 [AObj.cells [vi (x0), vi (x1), vi (x2)] 2] jk) (vi v) ([AObj.cells [vi (x0), vi (x1), vi (x2)] 2]) from H _ rfl
    intro v hv
    replace hv : FS84z35_1 x0 x1 x2  (FL84z35_1 x0 x1 x2  n1) y1_0 y1_1 = v := hv
    replace h : PS84z35_1 x0 x1 x2  (PL84z35_1 x0 x1 x2  n1) y1_0 y1_1 = true := h
    unfold FS84z35_1 at hv
    unfold PS84z35_1 at h
    by_cases c0 : (y1_0 != Int.ofNat 0 : Bool) = true
    · rw [if_pos c0] at hv h
      subst hv
      obtain ⟨q0, q1, _⟩ := bs_of h
      exact path_ok good0 (k := 1) (F := Tryz.f84) (n := 2000) (ds := dL :: [dT, Dec.stop]) (L := [0]) (ts := [5, 3, 8, 7, 6]) (by kernel_rfl) (apc c0 (apc q0 apn)) (okL84z35_1 _) (by kernel_rfl) (fun jk => ih (y1_1.tmod y1_0) (y1_0) jk q1)
    · rw [if_neg c0] at hv h
      replace c0 := eq_false_of_ne_true c0
      subst hv
      obtain ⟨q0, _⟩ := bs_of h
      exact path_ok good0 (k := 1) (F := Tryz.f84) (n := 2000) (ds := dL :: [dF, dL, dL, Dec.turn (Int.natAbs (x2) + 1), Dec.stop]) (L := [0]) (ts := [5, 3, 8, 7, 6]) (by kernel_rfl) (apc c0 (apc (p := (true) = true) rfl (apc (p := (true) = true) rfl apn))) (okL84z35_1 _) (by kernel_rfl) (fun jk => conL84z35_2 x0 x1 x2  _ (x2) (y1_1) jk q0)
theorem conL84z35_0 (x0 x1 x2 : Int)  : ∀ (n0 : Nat) (y0_0 y0_1 : Int) (jk : Nat → Value) (h : PL84z35_0 x0 x1 x2  n0 y0_0 y0_1 = true), J E0 1 Tryz.f84 (.head (loopN Tryz.f84 (fun _ => 0) 1).1 n0) (FR84z35_0 ) (mkAS [(5, vi (y0_0)), (3, vi (y0_1)), (8, v0), (7, vi (Int.ofNat 3)), (6, V.sl 0 0 3 3)] 23 [AObj.cells [vi (x0), vi (x1), vi (x2)] 2] jk) (vi (FL84z35_0 x0 x1 x2  n0 y0_0 y0_1)) ([AObj.cells [vi (x0), vi (x1), vi (x2)] 2]) := by
  intro n0
  induction n0 with
  | zero => intro y0_0 y0_1 jk h; exact absurd (show false = true from h) Bool.false_ne_true
  | succ n0 ih =>
    intro y0_0 y0_1 jk h
    suffices H : ∀ v, FL84z35_0 x0 x1 x2  (n0 + 1) y0_0 y0_1 = v → J E0 1 Tryz.f84 (.head (loopN Tryz.f84 (fun _ => 0) 1).1 (n0 + 1)) (FR84z35_0 ) (mkAS [(5, vi (y0_0)), (3, vi (y0_1)), (8, v0), (7, vi (Int.ofNat 3)), (6, V.sl 0 0 3 3)] 23 [AObj.cells [vi (x0), vi (x1), vi (x2)] 2] jk) (vi v) ([AObj.cells [vi (x0), vi (x1), vi (x2)] 2]) from H _ rfl
    intro v hv
    replace hv : FS84z35_0 x0 x1 x2  (FL84z35_0 x0 x1 x2  n0) y0_0 y0_1 = v := hv
    replace h : PS84z35_0 x0 x1 x2  (PL84z35_0 x0 x1 x2  n0) y0_0 y0_1 = true := h
    unfold FS84z35_0 at hv
    unfold PS84z35_0 at h
    by_cases c0 : (y0_0 != Int.ofNat 0 : Bool) = true
    · rw [if_pos c0] at hv h
      subst hv
      obtain ⟨q0, q1, _⟩ := bs_of h
      exact path_ok good0 (k := 1) (F := Tryz.f84) (n := 2000) (ds := dL :: [dT, Dec.stop]) (L := [0]) (ts := [5, 3, 8, 7, 6]) (by kernel_rfl) (apc c0 (apc q0 apn)) (okL84z35_1 _) (by kernel_rfl) (fun jk => ih (y0_1.tmod y0_0) (y0_0) jk q1)
    · rw [if_neg c0] at hv h
      replace c0 := eq_false_of_ne_true c0
      subst hv
      obtain ⟨q0, _⟩ := bs_of h
      exact path_ok good0 (k := 1) (F := Tryz.f84) (n := 2000) (ds := dL :: [dF, dL, dL, Dec.turn (Int.natAbs (x1) + 1), Dec.stop]) (L := [0]) (ts := [5, 3, 8, 7, 6]) (by kernel_rfl) (apc c0 (apc (p := (true) = true) rfl (apc (p := (true) = true) rfl apn))) (okL84z35_1 _) (by kernel_rfl) (fun jk => conL84z35_1 x0 x1 x2  _ (x1) (y0_1) jk q0)
def F84z35 (x0 x1 x2 : Int) : Int := (FL84z35_0 x0 x1 x2  (Int.natAbs (x0) + 1) (x0) (Int.ofNat 0))
def P84z35 (x0 x1 x2 : Int) : Bool := allB [PL84z35_0 x0 x1 x2  (Int.natAbs (x0) + 1) (x0) (Int.ofNat 0)]
theorem con84z35_v (x0 x1 x2 : Int) (v : Int) (hv : F84z35 x0 x1 x2 = v) (h : P84z35 x0 x1 x2 = true) : Con0 E0 84 [V.sl 0 0 3 3] [AObj.cells [vi x0, vi x1, vi x2] 2] (vi v) ([AObj.cells [vi (x0), vi (x1), vi (x2)] 2]) := by
  unfold F84z35 at hv
  unfold P84z35 at h
  subst hv
  obtain ⟨q0, _⟩ := bs_of h
  exact leafH good0 (F := Tryz.f84) (n := 2000) (ds := [Dec.turn 5, dL, dL, Dec.turn (Int.natAbs (x0) + 1), Dec.stop]) (L := [0]) (ts := [5, 3, 8, 7, 6]) (by kernel_rfl) (by kernel_rfl) (by kernel_rfl) (apc (p := (true) = true) rfl (apc (p := (true) = true) rfl apn)) (fun jk => conL84z35_0 x0 x1 x2  _ (x0) (Int.ofNat 0) jk q0)
def F123z34_r152 (r152 : Int × Int × Int) : Int × Int × Int × Int := ((r152.fst), (r152.snd.fst), (r152.snd.snd), (Int.ofNat 0))
def F123z34_r151 (r150 : Int × Int × Bool) (r151 : Int) : Int × Int × Int × Int := (F123z34_r152  (F93 r150.fst r150.snd.fst r151))
def F123z34_r150 (x0 x2 x3 x5 : Int) (r150 : Int × Int × Bool) : Int × Int × Int × Int := (if (!r150.snd.snd : Bool) = true then ((Int.ofNat 0), (Int.ofNat 0), (Int.ofNat 0), (Int.ofNat 2)) else (F123z34_r151 r150 (F84z35 (wr IntKind.i64 (x0 * x5)) (wr IntKind.i64 (x3 * x2)) (wr IntKind.i64 (x2 * x5)))))
def F123z34 (x0 x1 x2 x3 x4 x5 : Int) : Int × Int × Int × Int := (F123z34_r150 x0 x2 x3 x5 (F100 x0 x1 x2 x3 x4 x5))
def P123z34_r152 (r152 : Int × Int × Int) : Bool := allB []
def P123z34_r151 (r150 : Int × Int × Bool) (r151 : Int) : Bool := (P93 (r150.fst) (r150.snd.fst) (r151) && P123z34_r152  (F93 r150.fst r150.snd.fst r151))
def P123z34_r150 (x0 x2 x3 x5 : Int) (r150 : Int × Int × Bool) : Bool := (if (!r150.snd.snd : Bool) = true then allB [] else (P84z35 (wr IntKind.i64 (x0 * x5)) (wr IntKind.i64 (x3 * x2)) (wr IntKind.i64 (x2 * x5)) && P123z34_r151 r150 (F84z35 (wr IntKind.i64 (x0 * x5)) (wr IntKind.i64 (x3 * x2)) (wr IntKind.i64 (x2 * x5)))))
def P123z34 (x0 x1 x2 x3 x4 x5 : Int) : Bool := (P100 (x0) (x1) (x2) (x3) (x4) (x5) && P123z34_r150 x0 x2 x3 x5 (F100 x0 x1 x2 x3 x4 x5))
theorem con123z34_v (x0 x1 x2 x3 x4 x5 : Int) (v : Int × Int × Int × Int) (hv : F123z34 x0 x1 x2 x3 x4 x5 = v) (h : P123z34 x0 x1 x2 x3 x4 x5 = true) : Con0 E0 123 [V.agg [vi x0, vi x1, vi x2], V.agg [vi x3, vi x4, vi x5]] [] (V.tuple [V.agg [vi v.1, vi v.2.1, vi v.2.2.1], vi v.2.2.2]) ([]) := by
  unfold F123z34 at hv
  unfold P123z34 at h
  obtain ⟨z0, h⟩ := and_parts h
  have k0 := con100 (x0) (x1) (x2) (x3) (x4) (x5) z0
  generalize e0 : F100 x0 x1 x2 x3 x4 x5 = r150 at hv h k0
  unfold F123z34_r150 at hv
  unfold P123z34_r150 at h
  by_cases c1 : (!r150.snd.snd : Bool) = true
  · rw [if_pos c1] at hv h
    subst hv
    exact leafE good0 (F := Tryz.f123) (n := 2000) (ds := [dc k0, dT]) (L := []) (by kernel_rfl) (by kernel_rfl) (by kernel_rfl) (apc k0 (apc c1 apn))
  · rw [if_neg c1] at hv h
    replace c1 := eq_false_of_ne_true c1
    obtain ⟨z2, h⟩ := and_parts h
    have k2 := con84z35_v (wr IntKind.i64 (x0 * x5)) (wr IntKind.i64 (x3 * x2)) (wr IntKind.i64 (x2 * x5)) _ rfl z2
    generalize e2 : F84z35 (wr IntKind.i64 (x0 * x5)) (wr IntKind.i64 (x3 * x2)) (wr IntKind.i64 (x2 * x5)) = r151 at hv h k2
    unfold F123z34_r151 at hv
    unfold P123z34_r151 at h
    obtain ⟨z3, h⟩ := and_parts h
    have k3 := con93 (r150.fst) (r150.snd.fst) (r151) z3
    generalize e3 : F93 r150.fst r150.snd.fst r151 = r152 at hv h k3
    unfold F123z34_r152 at hv
    unfold P123z34_r152 at h
    subst hv
    exact leafE good0 (F := Tryz.f123) (n := 2000) (ds := [dc k0, dF, dc k2, dc k3]) (L := []) (by kernel_rfl) (by kernel_rfl) (by kernel_rfl) (apc k0 (apc c1 (apc k2 (apc k3 apn))))
def F105z29_r154 (r154 : Bool × Int × Int × Int × Int × Int × Int) : Bool × Int × Int × Int × Int × Int × Int := ((r154.fst), (r154.snd.fst), (r154.snd.snd.fst), (r154.snd.snd.snd.fst), (r154.snd.snd.snd.snd.fst), (r154.snd.snd.snd.snd.snd.fst), (r154.snd.snd.snd.snd.snd.snd))
def F105z29_r156 (r156 : Bool × Int × Int × Int × Int × Int × Int) : Bool × Int × Int × Int × Int × Int × Int := ((r156.fst), (r156.snd.fst), (r156.snd.snd.fst), (r156.snd.snd.snd.fst), (r156.snd.snd.snd.snd.fst), (r156.snd.snd.snd.snd.snd.fst), (r156.snd.snd.snd.snd.snd.snd))
def F105z29_r162 (r162 : Bool × Int × Int × Int × Int × Int × Int) : Bool × Int × Int × Int × Int × Int × Int := ((r162.fst), (r162.snd.fst), (r162.snd.snd.fst), (r162.snd.snd.snd.fst), (r162.snd.snd.snd.snd.fst), (r162.snd.snd.snd.snd.snd.fst), (r162.snd.snd.snd.snd.snd.snd))
def F105z29_r161 (x0 x1 x2 x3 x4 x5 x20 x21 x22 x23 : Int) (r161 : Int × Int × Int × Int) : Bool × Int × Int × Int × Int × Int × Int := (F105z29_r162  (F87z8 x0 x1 x2 x3 x4 x5 false (Int.ofNat 0) (Int.ofNat 0) (Int.ofNat 0) r161.fst r161.snd.fst r161.snd.snd.fst r161.snd.snd.snd x20 x21 x22 x23))
def F105z29_r159 (x0 x1 x2 x3 x4 x5 x10 x11 x12 x17 x18 x19 x20 x21 x22 x23 : Int) (r159 : Bool) : Bool × Int × Int × Int × Int × Int × Int := (if (!r159 : Bool) = true then (((true), (Int.ofNat 0), (Int.ofNat 0), (Int.ofNat 0), (Int.ofNat 0), (Int.ofNat 0), (Int.ofNat 0))) else (F105z29_r161 x0 x1 x2 x3 x4 x5 x20 x21 x22 x23 (F123z34 x10 x11 x12 x17 x18 x19)))
def F105z29_r157 (x0 x1 x2 x3 x4 x5 x10 x11 x12 : Int) (x13 : Bool) (x14 x15 x16 x17 x18 x19 x20 x21 x22 x23 : Int) (r157 : Bool) : Bool × Int × Int × Int × Int × Int × Int := (if (!r157 : Bool) = true then (((true), (Int.ofNat 0), (Int.ofNat 0), (Int.ofNat 0), (Int.ofNat 0), (Int.ofNat 0), (Int.ofNat 0))) else (F105z29_r159 x0 x1 x2 x3 x4 x5 x10 x11 x12 x17 x18 x19 x20 x21 x22 x23 (F66z31 x13 x14 x15 x16 x17 x18 x19)))
def F105z29_r155 (x0 x1 x2 x3 x4 x5 : Int) (x6 : Bool) (x7 x8 x9 x10 x11 x12 : Int) (x13 : Bool) (x14 x15 x16 x17 x18 x19 x20 x21 x22 x23 : Int) (r155 : Bool) : Bool × Int × Int × Int × Int × Int × Int := (if (r155 : Bool) = true then (F105z29_r156  (F101z33 x0 x1 x2 x3 x4 x5 x13 x14 x15 x16 x17 x18 x19 x10 x20 x21 x22 x23)) else (F105z29_r157 x0 x1 x2 x3 x4 x5 x10 x11 x12 x13 x14 x15 x16 x17 x18 x19 x20 x21 x22 x23 (F66z31 x6 x7 x8 x9 x10 x11 x12)))
def F105z29_r153 (x0 x1 x2 x3 x4 x5 : Int) (x6 : Bool) (x7 x8 x9 x10 x11 x12 : Int) (x13 : Bool) (x14 x15 x16 x17 x18 x19 x20 x21 x22 x23 : Int) (r153 : Bool) : Bool × Int × Int × Int × Int × Int × Int := (if (r153 : Bool) = true then (F105z29_r154  (F101z33 x0 x1 x2 x3 x4 x5 x6 x7 x8 x9 x10 x11 x12 x17 x20 x21 x22 x23)) else (F105z29_r155 x0 x1 x2 x3 x4 x5 x6 x7 x8 x9 x10 x11 x12 x13 x14 x15 x16 x17 x18 x19 x20 x21 x22 x23 (F67z30 x6 x7 x8 x9 x10 x11 x12)))
def F105z29 (x0 x1 x2 x3 x4 x5 : Int) (x6 : Bool) (x7 x8 x9 x10 x11 x12 : Int) (x13 : Bool) (x14 x15 x16 x17 x18 x19 x20 x21 x22 x23 : Int) : Bool × Int × Int × Int × Int × Int × Int := (F105z29_r153 x0 x1 x2 x3 x4 x5 x6 x7 x8 x9 x10 x11 x12 x13 x14 x15 x16 x17 x18 x19 x20 x21 x22 x23 (F67z30 x13 x14 x15 x16 x17 x18 x19))
def P105z29_r154 (r154 : Bool × Int × Int × Int × Int × Int × Int) : Bool := allB []
def P105z29_r156 (r156 : Bool × Int × Int × Int × Int × Int × Int) : Bool := allB []
def P105z29_r162 (r162 : Bool × Int × Int × Int × Int × Int × Int) : Bool := allB []
def P105z29_r161 (x0 x1 x2 x3 x4 x5 x20 x21 x22 x23 : Int) (r161 : Int × Int × Int × Int) : Bool := (P87z8 (x0) (x1) (x2) (x3) (x4) (x5) (false) (Int.ofNat 0) (Int.ofNat 0) (Int.ofNat 0) (r161.fst) (r161.snd.fst) (r161.snd.snd.fst) (r161.snd.snd.snd) (x20) (x21) (x22) (x23) && P105z29_r162  (F87z8 x0 x1 x2 x3 x4 x5 false (Int.ofNat 0) (Int.ofNat 0) (Int.ofNat 0) r161.fst r161.snd.fst r161.snd.snd.fst r161.snd.snd.snd x20 x21 x22 x23))
def P105z29_r159 (x0 x1 x2 x3 x4 x5 x10 x11 x12 x17 x18 x19 x20 x21 x22 x23 : Int) (r159 : Bool) : Bool := (if (!r159 : Bool) = true then (P44  && allB []) else (P123z34 (x10) (x11) (x12) (x17) (x18) (x19) && P105z29_r161 x0 x1 x2 x3 x4 x5 x20 x21 x22 x23 (F123z34 x10 x11 x12 x17 x18 x19)))
def P105z29_r157 (x0 x1 x2 x3 x4 x5 x10 x11 x12 : Int) (x13 : Bool) (x14 x15 x16 x17 x18 x19 x20 x21 x22 x23 : Int) (r157 : Bool) : Bool := (if (!r157 : Bool) = true then (P44  && allB []) else (P66z31 (x13) (x14) (x15) (x16) (x17) (x18) (x19) && P105z29_r159 x0 x1 x2 x3 x4 x5 x10 x11 x12 x17 x18 x19 x20 x21 x22 x23 (F66z31 x13 x14 x15 x16 x17 x18 x19)))
def P105z29_r155 (x0 x1 x2 x3 x4 x5 : Int) (x6 : Bool) (x7 x8 x9 x10 x11 x12 : Int) (x13 : Bool) (x14 x15 x16 x17 x18 x19 x20 x21 x22 x23 : Int) (r155 : Bool) : Bool := (if (r155 : Bool) = true then (P101z33 (x0) (x1) (x2) (x3) (x4) (x5) (x13) (x14) (x15) (x16) (x17) (x18) (x19) (x10) (x20) (x21) (x22) (x23) && P105z29_r156  (F101z33 x0 x1 x2 x3 x4 x5 x13 x14 x15 x16 x17 x18 x19 x10 x20 x21 x22 x23)) else (P66z31 (x6) (x7) (x8) (x9) (x10) (x11) (x12) && P105z29_r157 x0 x1 x2 x3 x4 x5 x10 x11 x12 x13 x14 x15 x16 x17 x18 x19 x20 x21 x22 x23 (F66z31 x6 x7 x8 x9 x10 x11 x12)))
def P105z29_r153 (x0 x1 x2 x3 x4 x5 : Int) (x6 : Bool) (x7 x8 x9 x10 x11 x12 : Int) (x13 : Bool) (x14 x15 x16 x17 x18 x19 x20 x21 x22 x23 : Int) (r153 : Bool) : Bool := (if (r153 : Bool) = true then (P101z33 (x0) (x1) (x2) (x3) (x4) (x5) (x6) (x7) (x8) (x9) (x10) (x11) (x12) (x17) (x20) (x21) (x22) (x23) && P105z29_r154  (F101z33 x0 x1 x2 x3 x4 x5 x6 x7 x8 x9 x10 x11 x12 x17 x20 x21 x22 x23)) else (P67z30 (x6) (x7) (x8) (x9) (x10) (x11) (x12) && P105z29_r155 x0 x1 x2 x3 x4 x5 x6 x7 x8 x9 x10 x11 x12 x13 x14 x15 x16 x17 x18 x19 x20 x21 x22 x23 (F67z30 x6 x7 x8 x9 x10 x11 x12)))
def P105z29 (x0 x1 x2 x3 x4 x5 : Int) (x6 : Bool) (x7 x8 x9 x10 x11 x12 : Int) (x13 : Bool) (x14 x15 x16 x17 x18 x19 x20 x21 x22 x23 : Int) : Bool := (P67z30 (x13) (x14) (x15) (x16) (x17) (x18) (x19) && P105z29_r153 x0 x1 x2 x3 x4 x5 x6 x7 x8 x9 x10 x11 x12 x13 x14 x15 x16 x17 x18 x19 x20 x21 x22 x23 (F67z30 x13 x14 x15 x16 x17 x18 x19))
theorem con105z29_v (x0 x1 x2 x3 x4 x5 : Int) (x6 : Bool) (x7 x8 x9 x10 x11 x12 : Int) (x13 : Bool) (x14 x15 x16 x17 x18 x19 x20 x21 x22 x23 : Int) (v : Bool × Int × Int × Int × Int × Int × Int) (hv : F105z29 x0 x1 x2 x3 x4 x5 x6 x7 x8 x9 x10 x11 x12 x13 x14 x15 x16 x17 x18 x19 x20 x21 x22 x23 = v) (h : P105z29 x0 x1 x2 x3 x4 x5 x6 x7 x8 x9 x10 x11 x12 x13 x14 x15 x16 x17 x18 x19 x20 x21 x22 x23 = true) : Con0 E0 105 [V.agg [vi x0, vi x1, vi x2, vi x3, vi x4, V.nilSl, V.nilSl, V.sl 0 0 1 1, vi x5], V.agg [V.bool x6, vi x7, vi x8, vi x9, vi x10, vi x11, vi x12], V.agg [V.bool x13, vi x14, vi x15, vi x16, vi x17, vi x18, vi x19]] [vt1_o0, vt1_o1 x20 x21 x22 x23] (V.agg [V.bool v.1, vi v.2.1, vi v.2.2.1, vi v.2.2.2.1, vi v.2.2.2.2.1, vi v.2.2.2.2.2.1, vi v.2.2.2.2.2.2]) ([vt1_o0, vt1_o1 (x20) (x21) (x22) (x23)]) := by
  unfold F105z29 at hv
  unfold P105z29 at h
  obtain ⟨z0, h⟩ := and_parts h
  have k0 := con67z30_v (x13) (x14) (x15) (x16) (x17) (x18) (x19) _ rfl z0
  generalize e0 : F67z30 x13 x14 x15 x16 x17 x18 x19 = r153 at hv h k0
  unfold F105z29_r153 at hv
  unfold P105z29_r153 at h
  by_cases c1 : (r153 : Bool) = true
  · rw [if_pos c1] at hv h
    obtain ⟨z2, h⟩ := and_parts h
    have k2 := con101z33_v (x0) (x1) (x2) (x3) (x4) (x5) (x6) (x7) (x8) (x9) (x10) (x11) (x12) (x17) (x20) (x21) (x22) (x23) _ rfl z2
    generalize e2 : F101z33 x0 x1 x2 x3 x4 x5 x6 x7 x8 x9 x10 x11 x12 x17 x20 x21 x22 x23 = r154 at hv h k2
    unfold F105z29_r154 at hv
    unfold P105z29_r154 at h
    subst hv
    exact leafE good0 (F := Tryz.f105) (n := 2000) (ds := [dc k0, dT, dc k2]) (L := [0, 1]) (by kernel_rfl) (by kernel_rfl) (by kernel_rfl) (apc k0 (apc c1 (apc k2 apn)))
  · rw [if_neg c1] at hv h
    replace c1 := eq_false_of_ne_true c1
    obtain ⟨z2, h⟩ := and_parts h
    have k2 := con67z30_v (x6) (x7) (x8) (x9) (x10) (x11) (x12) _ rfl z2
    generalize e2 : F67z30 x6 x7 x8 x9 x10 x11 x12 = r155 at hv h k2
    unfold F105z29_r155 at hv
    unfold P105z29_r155 at h
    by_cases c3 : (r155 : Bool) = true
    · rw [if_pos c3] at hv h
      obtain ⟨z4, h⟩ := and_parts h
      have k4 := con101z33_v (x0) (x1) (x2) (x3) (x4) (x5) (x13) (x14) (x15) (x16) (x17) (x18) (x19) (x10) (x20) (x21) (x22) (x23) _ rfl z4
      generalize e4 : F101z33 x0 x1 x2 x3 x4 x5 x13 x14 x15 x16 x17 x18 x19 x10 x20 x21 x22 x23 = r156 at hv h k4
      unfold F105z29_r156 at hv
      unfold P105z29_r156 at h
      subst hv
      exact leafE good0 (F := Tryz.f105) (n := 2000) (ds := [dc k0, dF, dc k2, dT, dc k4]) (L := [0, 1]) (by kernel_rfl) (by kernel_rfl) (by kernel_rfl) (apc k0 (apc c1 (apc k2 (apc c3 (apc k4 apn)))))
    · rw [if_neg c3] at hv h
      replace c3 := eq_false_of_ne_true c3
      obtain ⟨z4, h⟩ := and_parts h
      have k4 := con66z31_v (x6) (x7) (x8) (x9) (x10) (x11) (x12) _ rfl z4
      generalize e4 : F66z31 x6 x7 x8 x9 x10 x11 x12 = r157 at hv h k4
      unfold F105z29_r157 at hv
      unfold P105z29_r157 at h
      by_cases c5 : (!r157 : Bool) = true
      · rw [if_pos c5] at hv h
        obtain ⟨z6, h⟩ := and_parts h
        have k6 : Con0 E0 44 [] [] (V.agg [V.bool true, v0, v0, v0, v0, v0, v0]) [] := con44  z6
        subst hv
        exact leafE good0 (F := Tryz.f105) (n := 2000) (ds := [dc k0, dF, dc k2, dF, dc k4, dT, dT, dT, dT, dL, dc k6]) (L := [0, 1]) (by kernel_rfl) (by kernel_rfl) (by kernel_rfl) (apc k0 (apc c1 (apc k2 (apc c3 (apc k4 (apc c5 (apc c5 (apc c5 (apc c5 (apc k6 apn))))))))))
      · rw [if_neg c5] at hv h
        replace c5 := eq_false_of_ne_true c5
        obtain ⟨z6, h⟩ := and_parts h
        have k6 := con66z31_v (x13) (x14) (x15) (x16) (x17) (x18) (x19) _ rfl z6
        generalize e6 : F66z31 x13 x14 x15 x16 x17 x18 x19 = r159 at hv h k6
        unfold F105z29_r159 at hv
        unfold P105z29_r159 at h
        by_cases c7 : (!r159 : Bool) = true
        · rw [if_pos c7] at hv h
          obtain ⟨z8, h⟩ := and_parts h
          have k8 : Con0 E0 44 [] [] (V.agg [V.bool true, v0, v0, v0, v0, v0, v0]) [] := con44  z8
          subst hv
          exact leafE good0 (F := Tryz.f105) (n := 2000) (ds := [dc k0, dF, dc k2, dF, dc k4, dF, dF, dc k6, dF, dF, dT, dc k8]) (L := [0, 1]) (by kernel_rfl) (by kernel_rfl) (by kernel_rfl) (apc k0 (apc c1 (apc k2 (apc c3 (apc k4 (apc c5 (apc c5 (apc k6 (apc c5 (apc c5 (apc c7 (apc k8 apn))))))))))))
        · rw [if_neg c7] at hv h
          replace c7 := eq_false_of_ne_true c7
          obtain ⟨z8, h⟩ := and_parts h
          have k8 := con123z34_v (x10) (x11) (x12) (x17) (x18) (x19) _ rfl z8
          generalize e8 : F123z34 x10 x11 x12 x17 x18 x19 = r161 at hv h k8
          unfold F105z29_r161 at hv
          unfold P105z29_r161 at h
          obtain ⟨z9, h⟩ := and_parts h
          have k9 := con87z8_v (x0) (x1) (x2) (x3) (x4) (x5) (false) (Int.ofNat 0) (Int.ofNat 0) (Int.ofNat 0) (r161.fst) (r161.snd.fst) (r161.snd.snd.fst) (r161.snd.snd.snd) (x20) (x21) (x22) (x23) _ rfl z9
          generalize e9 : F87z8 x0 x1 x2 x3 x4 x5 false (Int.ofNat 0) (Int.ofNat 0) (Int.ofNat 0) r161.fst r161.snd.fst r161.snd.snd.fst r161.snd.snd.snd x20 x21 x22 x23 = r162 at hv h k9
          unfold F105z29_r162 at hv
          unfold P105z29_r162 at h
          subst hv
          exact leafE good0 (F := Tryz.f105) (n := 2000) (ds := [dc k0, dF, dc k2, dF, dc k4, dF, dF, dc k6, dF, dF, dF, dc k8, dc k9]) (L := [0, 1]) (by kernel_rfl) (by kernel_rfl) (by kernel_rfl) (apc k0 (apc c1 (apc k2 (apc c3 (apc k4 (apc c5 (apc c5 (apc k6 (apc c5 (apc c5 (apc c7 (apc k8 (apc k9 apn)))))))))))))
def F65z18_r166 (r166 : Bool × Int × Int × Int × Int × Int × Int) : Bool × Int × Int × Int × Int × Int × Int := ((r166.fst), (r166.snd.fst), (r166.snd.snd.fst), (r166.snd.snd.snd.fst), (r166.snd.snd.snd.snd.fst), (r166.snd.snd.snd.snd.snd.fst), (r166.snd.snd.snd.snd.snd.snd))
def F65z18_r163 (x0 x1 : Int) (x3 : Bool) (x4 x5 x6 x7 x8 x9 x24 x25 x26 x27 : Int) (r163 : Int × Int) : Bool × Int × Int × Int × Int × Int × Int := (((F65z18_r166  (F105z29 x0 (Int.ofNat 1) (Int.ofNat 7) (Int.ofNat 0) (Int.ofNat 0) x1 false (Int.ofNat 0) (Int.ofNat 0) (Int.ofNat 0) r163.fst r163.snd (Int.ofNat 0) x3 x4 x5 x6 x7 x8 x9 x24 x25 x26 x27))))
def F65z18 (x0 x1 x2 : Int) (x3 : Bool) (x4 x5 x6 x7 x8 x9 : Int) (x10 : Bool) (x11 x12 x13 x14 x15 x16 : Int) (x17 : Bool) (x18 x19 x20 x21 x22 x23 x24 x25 x26 x27 : Int) : Bool × Int × Int × Int × Int × Int × Int := (F65z18_r163 x0 x1 x3 x4 x5 x6 x7 x8 x9 x24 x25 x26 x27 (F45z19 x2 x3 x4 x5 x6 x7 x8 x9 x10 x11 x12 x13 x14 x15 x16 x17 x18 x19 x20 x21 x22 x23))
def P65z18_r166 (r166 : Bool × Int × Int × Int × Int × Int × Int) : Bool := allB []
def P65z18_r163 (x0 x1 : Int) (x3 : Bool) (x4 x5 x6 x7 x8 x9 : Int) (x10 : Bool) (x11 x12 x13 x14 x15 x16 : Int) (x17 : Bool) (x18 x19 x20 x21 x22 x23 x24 x25 x26 x27 : Int) (r163 : Int × Int) : Bool := (P45z20 (x3) (x4) (x5) (x6) (x7) (x8) (x9) (x10) (x11) (x12) (x13) (x14) (x15) (x16) (x17) (x18) (x19) (x20) (x21) (x22) (x23) && (P91z21  && (P105z29 (x0) (Int.ofNat 1) (Int.ofNat 7) (Int.ofNat 0) (Int.ofNat 0) (x1) (false) (Int.ofNat 0) (Int.ofNat 0) (Int.ofNat 0) (r163.fst) (r163.snd) (Int.ofNat 0) (x3) (x4) (x5) (x6) (x7) (x8) (x9) (x24) (x25) (x26) (x27) && P65z18_r166  (F105z29 x0 (Int.ofNat 1) (Int.ofNat 7) (Int.ofNat 0) (Int.ofNat 0) x1 false (Int.ofNat 0) (Int.ofNat 0) (Int.ofNat 0) r163.fst r163.snd (Int.ofNat 0) x3 x4 x5 x6 x7 x8 x9 x24 x25 x26 x27))))
def P65z18 (x0 x1 x2 : Int) (x3 : Bool) (x4 x5 x6 x7 x8 x9 : Int) (x10 : Bool) (x11 x12 x13 x14 x15 x16 : Int) (x17 : Bool) (x18 x19 x20 x21 x22 x23 x24 x25 x26 x27 : Int) : Bool := (P45z19 (x2) (x3) (x4) (x5) (x6) (x7) (x8) (x9) (x10) (x11) (x12) (x13) (x14) (x15) (x16) (x17) (x18) (x19) (x20) (x21) (x22) (x23) && P65z18_r163 x0 x1 x3 x4 x5 x6 x7 x8 x9 x10 x11 x12 x13 x14 x15 x16 x17 x18 x19 x20 x21 x22 x23 x24 x25 x26 x27 (F45z19 x2 x3 x4 x5 x6 x7 x8 x9 x10 x11 x12 x13 x14 x15 x16 x17 x18 x19 x20 x21 x22 x23))
theorem con65z18_v (x0 x1 x2 : Int) (x3 : Bool) (x4 x5 x6 x7 x8 x9 : Int) (x10 : Bool) (x11 x12 x13 x14 x15 x16 : Int) (x17 : Bool) (x18 x19 x20 x21 x22 x23 x24 x25 x26 x27 : Int) (v : Bool × Int × Int × Int × Int × Int × Int) (hv : F65z18 x0 x1 x2 x3 x4 x5 x6 x7 x8 x9 x10 x11 x12 x13 x14 x15 x16 x17 x18 x19 x20 x21 x22 x23 x24 x25 x26 x27 = v) (h : P65z18 x0 x1 x2 x3 x4 x5 x6 x7 x8 x9 x10 x11 x12 x13 x14 x15 x16 x17 x18 x19 x20 x21 x22 x23 x24 x25 x26 x27 = true) : Con0 E0 65 [V.agg [vi x0, vi (Int.ofNat 1), vi (Int.ofNat 7), v0, v0, V.nilSl, V.nilSl, V.sl 0 0 1 1, vi x1], V.sl 1 0 7 7, V.agg [vi (Int.ofNat 3), vi (Int.ofNat 12), v0, vi (Int.ofNat 2), vi (Int.ofNat 3), V.int IntKind.i32 (Int.ofNat 0), vi (Int.ofNat 1), v0, V.int IntKind.i32 x2, vi (Int.ofNat 2), v0, V.int IntKind.i32 (Int.ofNat 0), v0, v0, V.int IntKind.i32 (Int.ofNat 0)]] [vt1_o3, vt1_o6 x3 x4 x5 x6 x7 x8 x9 x10 x11 x12 x13 x14 x15 x16 x17 x18 x19 x20 x21 x22 x23, vt1_o1 x24 x25 x26 x27] (V.agg [V.bool v.1, vi v.2.1, vi v.2.2.1, vi v.2.2.2.1, vi v.2.2.2.2.1, vi v.2.2.2.2.2.1, vi v.2.2.2.2.2.2]) ([vt1_o3, vt1_o6 (x3) (x4) (x5) (x6) (x7) (x8) (x9) (x10) (x11) (x12) (x13) (x14) (x15) (x16) (x17) (x18) (x19) (x20) (x21) (x22) (x23), vt1_o1 (x24) (x25) (x26) (x27)]) := by
  unfold F65z18 at hv
  unfold P65z18 at h
  obtain ⟨z0, h⟩ := and_parts h
  have k0 := con45z19_v (x2) (x3) (x4) (x5) (x6) (x7) (x8) (x9) (x10) (x11) (x12) (x13) (x14) (x15) (x16) (x17) (x18) (x19) (x20) (x21) (x22) (x23) _ rfl z0
  generalize e0 : F45z19 x2 x3 x4 x5 x6 x7 x8 x9 x10 x11 x12 x13 x14 x15 x16 x17 x18 x19 x20 x21 x22 x23 = r163 at hv h k0
  unfold F65z18_r163 at hv
  unfold P65z18_r163 at h
  obtain ⟨z1, h⟩ := and_parts h
  have k1 := con45z20_v (x3) (x4) (x5) (x6) (x7) (x8) (x9) (x10) (x11) (x12) (x13) (x14) (x15) (x16) (x17) (x18) (x19) (x20) (x21) (x22) (x23) _ rfl z1
  obtain ⟨z2, h⟩ := and_parts h
  have k2 := con91z21_v  _ rfl z2
  obtain ⟨z3, h⟩ := and_parts h
  have k3 := con105z29_v (x0) (Int.ofNat 1) (Int.ofNat 7) (Int.ofNat 0) (Int.ofNat 0) (x1) (false) (Int.ofNat 0) (Int.ofNat 0) (Int.ofNat 0) (r163.fst) (r163.snd) (Int.ofNat 0) (x3) (x4) (x5) (x6) (x7) (x8) (x9) (x24) (x25) (x26) (x27) _ rfl z3
  generalize e3 : F105z29 x0 (Int.ofNat 1) (Int.ofNat 7) (Int.ofNat 0) (Int.ofNat 0) x1 false (Int.ofNat 0) (Int.ofNat 0) (Int.ofNat 0) r163.fst r163.snd (Int.ofNat 0) x3 x4 x5 x6 x7 x8 x9 x24 x25 x26 x27 = r166 at hv h k3
  unfold F65z18_r166 at hv
  unfold P65z18_r166 at h
  subst hv
  exact leafE good0 (F := Tryz.f65) (n := 2000) (ds := [dc k0, dc k1, dL, dL, dL, dL, dL, dL, dc k2, Dec.turn 20, dL, dL, dL, dL, dL, dL, dL, dL, dL, dc k3]) (L := [0, 1, 2]) (by kernel_rfl) (by kernel_rfl) (by kernel_rfl) (apc k0 (apc k1 (apc (p := (V.sl 1 0 7 7 : V C0) = V.sl 1 0 7 7) rfl (apc (p := (V.sl 1 0 7 7 : V C0) = V.sl 1 0 7 7) rfl (apc k2 (apc (p := (true) = true) rfl (apc (p := (true) = true) rfl (apc (p := (true) = true) rfl (apc (p := (true) = true) rfl (apc (p := (true) = true) rfl (apc (p := (true) = true) rfl (apc k3 apn))))))))))))
def F45z37_r177 (r177 : Bool × Int × Int × Int × Int × Int × Int) : Int × Int := ((r177.snd.snd.snd.snd.fst), (r177.snd.snd.snd.snd.snd.fst))
def F45z37 (x0 : Int) (x1 : Bool) (x2 x3 x4 x5 x6 x7 : Int) (x8 : Bool) (x9 x10 x11 x12 x13 x14 : Int) (x15 : Bool) (x16 x17 x18 x19 x20 x21 : Int) (x22 : Bool) (x23 x24 x25 x26 x27 x28 : Int) : Int × Int := (F45z37_r177  (F43 (wr IntKind.i64 x0)))
def P45z37_r177 (r177 : Bool × Int × Int × Int × Int × Int × Int) : Bool := allB []
def P45z37 (x0 : Int) (x1 : Bool) (x2 x3 x4 x5 x6 x7 : Int) (x8 : Bool) (x9 x10 x11 x12 x13 x14 : Int) (x15 : Bool) (x16 x17 x18 x19 x20 x21 : Int) (x22 : Bool) (x23 x24 x25 x26 x27 x28 : Int) : Bool := (P43 (wr IntKind.i64 x0) && P45z37_r177  (F43 (wr IntKind.i64 x0)))
theorem con45z37_v (x0 : Int) (x1 : Bool) (x2 x3 x4 x5 x6 x7 : Int) (x8 : Bool) (x9 x10 x11 x12 x13 x14 : Int) (x15 : Bool) (x16 x17 x18 x19 x20 x21 : Int) (x22 : Bool) (x23 x24 x25 x26 x27 x28 : Int) (v : Int × Int) (hv : F45z37 x0 x1 x2 x3 x4 x5 x6 x7 x8 x9 x10 x11 x12 x13 x14 x15 x16 x17 x18 x19 x20 x21 x22 x23 x24 x25 x26 x27 x28 = v) (h : P45z37 x0 x1 x2 x3 x4 x5 x6 x7 x8 x9 x10 x11 x12 x13 x14 x15 x16 x17 x18 x19 x20 x21 x22 x23 x24 x25 x26 x27 x28 = true) : Con0 E0 45 [V.sl 0 0 7 7, V.agg [vi (Int.ofNat 1), v0, V.int IntKind.i32 x0]] [vt1_o7 x1 x2 x3 x4 x5 x6 x7 x8 x9 x10 x11 x12 x13 x14 x15 x16 x17 x18 x19 x20 x21 x22 x23 x24 x25 x26 x27 x28] (V.agg [V.bool (false), v0, v0, v0, vi v.1, vi v.2, v0]) ([vt1_o7 (x1) (x2) (x3) (x4) (x5) (x6) (x7) (x8) (x9) (x10) (x11) (x12) (x13) (x14) (x15) (x16) (x17) (x18) (x19) (x20) (x21) (x22) (x23) (x24) (x25) (x26) (x27) (x28)]) := by
  unfold F45z37 at hv
  unfold P45z37 at h
  obtain ⟨z0, h⟩ := and_parts h
  have k0 : Con0 E0 43 [vi (wr IntKind.i64 x0)] [] (V.agg [V.bool false, v0, v0, v0, vi (F43 (wr IntKind.i64 x0)).snd.snd.snd.snd.fst, vi (F43 (wr IntKind.i64 x0)).snd.snd.snd.snd.snd.fst, v0]) [] := con43 (wr IntKind.i64 x0) z0
  generalize e0 : F43 (wr IntKind.i64 x0) = r177 at hv h k0
  unfold F45z37_r177 at hv
  unfold P45z37_r177 at h
  subst hv
  exact leafE good0 (F := Tryz.f45) (n := 2000) (ds := [dL, dc k0]) (L := [0]) (by kernel_rfl) (by kernel_rfl) (by kernel_rfl) (apc k0 apn)
def F45z38 (x0 : Bool) (x1 x2 x3 x4 x5 x6 : Int) (x7 : Bool) (x8 x9 x10 x11 x12 x13 : Int) (x14 : Bool) (x15 x16 x17 x18 x19 x20 : Int) (x21 : Bool) (x22 x23 x24 x25 x26 x27 : Int) : Unit := ()
def P45z38 (x0 : Bool) (x1 x2 x3 x4 x5 x6 : Int) (x7 : Bool) (x8 x9 x10 x11 x12 x13 : Int) (x14 : Bool) (x15 x16 x17 x18 x19 x20 : Int) (x21 : Bool) (x22 x23 x24 x25 x26 x27 : Int) : Bool := allB []
theorem con45z38_v (x0 : Bool) (x1 x2 x3 x4 x5 x6 : Int) (x7 : Bool) (x8 x9 x10 x11 x12 x13 : Int) (x14 : Bool) (x15 x16 x17 x18 x19 x20 : Int) (x21 : Bool) (x22 x23 x24 x25 x26 x27 : Int) (v : Unit) (hv : F45z38 x0 x1 x2 x3 x4 x5 x6 x7 x8 x9 x10 x11 x12 x13 x14 x15 x16 x17 x18 x19 x20 x21 x22 x23 x24 x25 x26 x27 = v) (h : P45z38 x0 x1 x2 x3 x4 x5 x6 x7 x8 x9 x10 x11 x12 x13 x14 x15 x16 x17 x18 x19 x20 x21 x22 x23 x24 x25 x26 x27 = true) : Con0 E0 45 [V.sl 0 0 7 7, V.agg [vi (Int.ofNat 2), vi (Int.ofNat 1), V.int IntKind.i32 (Int.ofNat 0)]] [vt1_o7 x0 x1 x2 x3 x4 x5 x6 x7 x8 x9 x10 x11 x12 x13 x14 x15 x16 x17 x18 x19 x20 x21 x22 x23 x24 x25 x26 x27] (V.agg [V.bool (x7), vi (x8), vi (x9), vi (x10), vi (x11), vi (x12), vi (x13)]) ([vt1_o7 (x0) (x1) (x2) (x3) (x4) (x5) (x6) (x7) (x8) (x9) (x10) (x11) (x12) (x13) (x14) (x15) (x16) (x17) (x18) (x19) (x20) (x21) (x22) (x23) (x24) (x25) (x26) (x27)]) := by
  unfold F45z38 at hv
  unfold P45z38 at h
  subst hv
  exact leafE good0 (F := Tryz.f45) (n := 2000) (ds := [dL]) (L := [0]) (by kernel_rfl) (by kernel_rfl) (by kernel_rfl) (apc (p := (true) = true) rfl (apc (p := (true) = true) rfl apn))
def F65z36_r182 (r182 : Bool × Int × Int × Int × Int × Int × Int) : Bool × Int × Int × Int × Int × Int × Int := ((r182.fst), (r182.snd.fst), (r182.snd.snd.fst), (r182.snd.snd.snd.fst), (r182.snd.snd.snd.snd.fst), (r182.snd.snd.snd.snd.snd.fst), (r182.snd.snd.snd.snd.snd.snd))
def F65z36_r179 (x0 x1 : Int) (x10 : Bool) (x11 x12 x13 x14 x15 x16 x31 x32 x33 x34 : Int) (r179 : Int × Int) : Bool × Int × Int × Int × Int × Int × Int := (((F65z36_r182  (F105z29 x0 (Int.ofNat 1) (Int.ofNat 7) (Int.ofNat 0) (Int.ofNat 0) x1 false (Int.ofNat 0) (Int.ofNat 0) (Int.ofNat 0) r179.fst r179.snd (Int.ofNat 0) x10 x11 x12 x13 x14 x15 x16 x31 x32 x33 x34))))
def F65z36 (x0 x1 x2 : Int) (x3 : Bool) (x4 x5 x6 x7 x8 x9 : Int) (x10 : Bool) (x11 x12 x13 x14 x15 x16 : Int) (x17 : Bool) (x18 x19 x20 x21 x22 x23 : Int) (x24 : Bool) (x25 x26 x27 x28 x29 x30 x31 x32 x33 x34 : Int) : Bool × Int × Int × Int × Int × Int × Int := (F65z36_r179 x0 x1 x10 x11 x12 x13 x14 x15 x16 x31 x32 x33 x34 (F45z37 x2 x3 x4 x5 x6 x7 x8 x9 x10 x11 x12 x13 x14 x15 x16 x17 x18 x19 x20 x21 x22 x23 x24 x25 x26 x27 x28 x29 x30))
def P65z36_r182 (r182 : Bool × Int × Int × Int × Int × Int × Int) : Bool := allB []
def P65z36_r179 (x0 x1 : Int) (x3 : Bool) (x4 x5 x6 x7 x8 x9 : Int) (x10 : Bool) (x11 x12 x13 x14 x15 x16 : Int) (x17 : Bool) (x18 x19 x20 x21 x22 x23 : Int) (x24 : Bool) (x25 x26 x27 x28 x29 x30 x31 x32 x33 x34 : Int) (r179 : Int × Int) : Bool := (P45z38 (x3) (x4) (x5) (x6) (x7) (x8) (x9) (x10) (x11) (x12) (x13) (x14) (x15) (x16) (x17) (x18) (x19) (x20) (x21) (x22) (x23) (x24) (x25) (x26) (x27) (x28) (x29) (x30) && (P91z21  && (P105z29 (x0) (Int.ofNat 1) (Int.ofNat 7) (Int.ofNat 0) (Int.ofNat 0) (x1) (false) (Int.ofNat 0) (Int.ofNat 0) (Int.ofNat 0) (r179.fst) (r179.snd) (Int.ofNat 0) (x10) (x11) (x12) (x13) (x14) (x15) (x16) (x31) (x32) (x33) (x34) && P65z36_r182  (F105z29 x0 (Int.ofNat 1) (Int.ofNat 7) (Int.ofNat 0) (Int.ofNat 0) x1 false (Int.ofNat 0) (Int.ofNat 0) (Int.ofNat 0) r179.fst r179.snd (Int.ofNat 0) x10 x11 x12 x13 x14 x15 x16 x31 x32 x33 x34))))
def P65z36 (x0 x1 x2 : Int) (x3 : Bool) (x4 x5 x6 x7 x8 x9 : Int) (x10 : Bool) (x11 x12 x13 x14 x15 x16 : Int) (x17 : Bool) (x18 x19 x20 x21 x22 x23 : Int) (x24 : Bool) (x25 x26 x27 x28 x29 x30 x31 x32 x33 x34 : Int) : Bool := (P45z37 (x2) (x3) (x4) (x5) (x6) (x7) (x8) (x9) (x10) (x11) (x12) (x13) (x14) (x15) (x16) (x17) (x18) (x19) (x20) (x21) (x22) (x23) (x24) (x25) (x26) (x27) (x28) (x29) (x30) && P65z36_r179 x0 x1 x3 x4 x5 x6 x7 x8 x9 x10 x11 x12 x13 x14 x15 x16 x17 x18 x19 x20 x21 x22 x23 x24 x25 x26 x27 x28 x29 x30 x31 x32 x33 x34 (F45z37 x2 x3 x4 x5 x6 x7 x8 x9 x10 x11 x12 x13 x14 x15 x16 x17 x18 x19 x20 x21 x22 x23 x24 x25 x26 x27 x28 x29 x30))
theorem con65z36_v (x0 x1 x2 : Int) (x3 : Bool) (x4 x5 x6 x7 x8 x9 : Int) (x10 : Bool) (x11 x12 x13 x14 x15 x16 : Int) (x17 : Bool) (x18 x19 x20 x21 x22 x23 : Int) (x24 : Bool) (x25 x26 x27 x28 x29 x30 x31 x32 x33 x34 : Int) (v : Bool × Int × Int × Int × Int × Int × Int) (hv : F65z36 x0 x1 x2 x3 x4 x5 x6 x7 x8 x9 x10 x11 x12 x13 x14 x15 x16 x17 x18 x19 x20 x21 x22 x23 x24 x25 x26 x27 x28 x29 x30 x31 x32 x33 x34 = v) (h : P65z36 x0 x1 x2 x3 x4 x5 x6 x7 x8 x9 x10 x11 x12 x13 x14 x15 x16 x17 x18 x19 x20 x21 x22 x23 x24 x25 x26 x27 x28 x29 x30 x31 x32 x33 x34 = true) : Con0 E0 65 [V.agg [vi x0, vi (Int.ofNat 1), vi (Int.ofNat 7), v0, v0, V.nilSl, V.nilSl, V.sl 0 0 1 1, vi x1], V.sl 1 0 7 7, V.agg [vi (Int.ofNat 3), vi (Int.ofNat 12), v0, vi (Int.ofNat 2), vi (Int.ofNat 4), V.int IntKind.i32 (Int.ofNat 0), vi (Int.ofNat 1), v0, V.int IntKind.i32 x2, vi (Int.ofNat 2), vi (Int.ofNat 1), V.int IntKind.i32 (Int.ofNat 0), v0, v0, V.int IntKind.i32 (Int.ofNat 0)]] [vt1_o3, vt1_o7 x3 x4 x5 x6 x7 x8 x9 x10 x11 x12 x13 x14 x15 x16 x17 x18 x19 x20 x21 x22 x23 x24 x25 x26 x27 x28 x29 x30, vt1_o1 x31 x32 x33 x34] (V.agg [V.bool v.1, vi v.2.1, vi v.2.2.1, vi v.2.2.2.1, vi v.2.2.2.2.1, vi v.2.2.2.2.2.1, vi v.2.2.2.2.2.2]) ([vt1_o3, vt1_o7 (x3) (x4) (x5) (x6) (x7) (x8) (x9) (x10) (x11) (x12) (x13) (x14) (x15) (x16) (x17) (x18) (x19) (x20) (x21) (x22) (x23) (x24) (x25) (x26) (x27) (x28) (x29) (x30), vt1_o1 (x31) (x32) (x33) (x34)]) := by
  unfold F65z36 at hv
  unfold P65z36 at h
  obtain ⟨z0, h⟩ := and_parts h
  have k0 := con45z37_v (x2) (x3) (x4) (x5) (x6) (x7) (x8) (x9) (x10) (x11) (x12) (x13) (x14) (x15) (x16) (x17) (x18) (x19) (x20) (x21) (x22) (x23) (x24) (x25) (x26) (x27) (x28) (x29) (x30) _ rfl z0
  generalize e0 : F45z37 x2 x3 x4 x5 x6 x7 x8 x9 x10 x11 x12 x13 x14 x15 x16 x17 x18 x19 x20 x21 x22 x23 x24 x25 x26 x27 x28 x29 x30 = r179 at hv h k0
  unfold F65z36_r179 at hv
  unfold P65z36_r179 at h
  obtain ⟨z1, h⟩ := and_parts h
  have k1 := con45z38_v (x3) (x4) (x5) (x6) (x7) (x8) (x9) (x10) (x11) (x12) (x13) (x14) (x15) (x16) (x17) (x18) (x19) (x20) (x21) (x22) (x23) (x24) (x25) (x26) (x27) (x28) (x29) (x30) _ rfl z1
  obtain ⟨z2, h⟩ := and_parts h
  have k2 := con91z21_v  _ rfl z2
  obtain ⟨z3, h⟩ := and_parts h
  have k3 := con105z29_v (x0) (Int.ofNat 1) (Int.ofNat 7) (Int.ofNat 0) (Int.ofNat 0) (x1) (false) (Int.ofNat 0) (Int.ofNat 0) (Int.ofNat 0) (r179.fst) (r179.snd) (Int.ofNat 0) (x10) (x11) (x12) (x13) (x14) (x15) (x16) (x31) (x32) (x33) (x34) _ rfl z3
  generalize e3 : F105z29 x0 (Int.ofNat 1) (Int.ofNat 7) (Int.ofNat 0) (Int.ofNat 0) x1 false (Int.ofNat 0) (Int.ofNat 0) (Int.ofNat 0) r179.fst r179.snd (Int.ofNat 0) x10 x11 x12 x13 x14 x15 x16 x31 x32 x33 x34 = r182 at hv h k3
  unfold F65z36_r182 at hv
  unfold P65z36_r182 at h
  subst hv
  exact leafE good0 (F := Tryz.f65) (n := 2000) (ds := [dc k0, dc k1, dL, dL, dL, dL, dL, dL, dc k2, Dec.turn 20, dL, dL, dL, dL, dL, dL, dL, dL, dL, dc k3]) (L := [0, 1, 2]) (by kernel_rfl) (by kernel_rfl) (by kernel_rfl) (apc k0 (apc k1 (apc (p := (V.sl 1 0 7 7 : V C0) = V.sl 1 0 7 7) rfl (apc (p := (V.sl 1 0 7 7 : V C0) = V.sl 1 0 7 7) rfl (apc k2 (apc (p := (true) = true) rfl (apc (p := (true) = true) rfl (apc (p := (true) = true) rfl (apc (p := (true) = true) rfl (apc (p := (true) = true) rfl (apc (p := (true) = true) rfl (apc k3 apn))))))))))))
def F45z40_r195 (r195 : Bool × Int × Int × Int × Int × Int × Int) : Int × Int := ((r195.snd.snd.snd.snd.fst), (r195.snd.snd.snd.snd.snd.fst))
def F45z40 (x0 : Int) (x1 : Bool) (x2 x3 x4 x5 x6 x7 : Int) (x8 : Bool) (x9 x10 x11 x12 x13 x14 : Int) (x15 : Bool) (x16 x17 x18 x19 x20 x21 : Int) (x22 : Bool) (x23 x24 x25 x26 x27 x28 : Int) (x29 : Bool) (x30 x31 x32 x33 x34 x35 : Int) : Int × Int := (F45z40_r195  (F43 (wr IntKind.i64 x0)))
def P45z40_r195 (r195 : Bool × Int × Int × Int × Int × Int × Int) : Bool := allB []
def P45z40 (x0 : Int) (x1 : Bool) (x2 x3 x4 x5 x6 x7 : Int) (x8 : Bool) (x9 x10 x11 x12 x13 x14 : Int) (x15 : Bool) (x16 x17 x18 x19 x20 x21 : Int) (x22 : Bool) (x23 x24 x25 x26 x27 x28 : Int) (x29 : Bool) (x30 x31 x32 x33 x34 x35 : Int) : Bool := (P43 (wr IntKind.i64 x0) && P45z40_r195  (F43 (wr IntKind.i64 x0)))
theorem con45z40_v (x0 : Int) (x1 : Bool) (x2 x3 x4 x5 x6 x7 : Int) (x8 : Bool) (x9 x10 x11 x12 x13 x14 : Int) (x15 : Bool) (x16 x17 x18 x19 x20 x21 : Int) (x22 : Bool) (x23 x24 x25 x26 x27 x28 : Int) (x29 : Bool) (x30 x31 x32 x33 x34 x35 : Int) (v : Int × Int) (hv : F45z40 x0 x1 x2 x3 x4 x5 x6 x7 x8 x9 x10 x11 x12 x13 x14 x15 x16 x17 x18 x19 x20 x21 x22 x23 x24 x25 x26 x27 x28 x29 x30 x31 x32 x33 x34 x35 = v) (h : P45z40 x0 x1 x2 x3 x4 x5 x6 x7 x8 x9 x10 x11 x12 x13 x14 x15 x16 x17 x18 x19 x20 x21 x22 x23 x24 x25 x26 x27 x28 x29 x30 x31 x32 x33 x34 x35 = true) : Con0 E0 45 [V.sl 0 0 7 7, V.agg [vi (Int.ofNat 1), v0, V.int IntKind.i32 x0]] [vt1_o8 x1 x2 x3 x4 x5 x6 x7 x8 x9 x10 x11 x12 x13 x14 x15 x16 x17 x18 x19 x20 x21 x22 x23 x24 x25 x26 x27 x28 x29 x30 x31 x32 x33 x34 x35] (V.agg [V.bool (false), v0, v0, v0, vi v.1, vi v.2, v0]) ([vt1_o8 (x1) (x2) (x3) (x4) (x5) (x6) (x7) (x8) (x9) (x10) (x11) (x12) (x13) (x14) (x15) (x16) (x17) (x18) (x19) (x20) (x21) (x22) (x23) (x24) (x25) (x26) (x27) (x28) (x29) (x30) (x31) (x32) (x33) (x34) (x35)]) := by
  unfold F45z40 at hv
  unfold P45z40 at h
  obtain ⟨z0, h⟩ := and_parts h
  have k0 : Con0 E0 43 [vi (wr IntKind.i64 x0)] [] (V.agg [V.bool false, v0, v0, v0, vi (F43 (wr IntKind.i64 x0)).snd.snd.snd.snd.fst, vi (F43 (wr IntKind.i64 x0)).snd.snd.snd.snd.snd.fst, v0]) [] := con43 (wr IntKind.i64 x0) z0
  generalize e0 : F43 (wr IntKind.i64 x0) = r195 at hv h k0
  unfold F45z40_r195 at hv
  unfold P45z40_r195 at h
  subst hv
  exact leafE good0 (F := Tryz.f45) (n := 2000) (ds := [dL, dc k0]) (L := [0]) (by kernel_rfl) (by kernel_rfl) (by kernel_rfl) (apc k0 apn)
def F45z41 (x0 : Bool) (x1 x2 x3 x4 x5 x6 : Int) (x7 : Bool) (x8 x9 x10 x11 x12 x13 : Int) (x14 : Bool) (x15 x16 x17 x18 x19 x20 : Int) (x21 : Bool) (x22 x23 x24 x25 x26 x27 : Int) (x28 : Bool) (x29 x30 x31 x32 x33 x34 : Int) : Unit := ()
def P45z41 (x0 : Bool) (x1 x2 x3 x4 x5 x6 : Int) (x7 : Bool) (x8 x9 x10 x11 x12 x13 : Int) (x14 : Bool) (x15 x16 x17 x18 x19 x20 : Int) (x21 : Bool) (x22 x23 x24 x25 x26 x27 : Int) (x28 : Bool) (x29 x30 x31 x32 x33 x34 : Int) : Bool := allB []
theorem con45z41_v (x0 : Bool) (x1 x2 x3 x4 x5 x6 : Int) (x7 : Bool) (x8 x9 x10 x11 x12 x13 : Int) (x14 : Bool) (x15 x16 x17 x18 x19 x20 : Int) (x21 : Bool) (x22 x23 x24 x25 x26 x27 : Int) (x28 : Bool) (x29 x30 x31 x32 x33 x34 : Int) (v : Unit) (hv : F45z41 x0 x1 x2 x3 x4 x5 x6 x7 x8 x9 x10 x11 x12 x13 x14 x15 x16 x17 x18 x19 x20 x21 x22 x23 x24 x25 x26 x27 x28 x29 x30 x31 x32 x33 x34 = v) (h : P45z41 x0 x1 x2 x3 x4 x5 x6 x7 x8 x9 x10 x11 x12 x13 x14 x15 x16 x17 x18 x19 x20 x21 x22 x23 x24 x25 x26 x27 x28 x29 x30 x31 x32 x33 x34 = true) : Con0 E0 45 [V.sl 0 0 7 7, V.agg [vi (Int.ofNat 2), vi (Int.ofNat 2), V.int IntKind.i32 (Int.ofNat 0)]] [vt1_o8 x0 x1 x2 x3 x4 x5 x6 x7 x8 x9 x10 x11 x12 x13 x14 x15 x16 x17 x18 x19 x20 x21 x22 x23 x24 x25 x26 x27 x28 x29 x30 x31 x32 x33 x34] (V.agg [V.bool (x14), vi (x15), vi (x16), vi (x17), vi (x18), vi (x19), vi (x20)]) ([vt1_o8 (x0) (x1) (x2) (x3) (x4) (x5) (x6) (x7) (x8) (x9) (x10) (x11) (x12) (x13) (x14) (x15) (x16) (x17) (x18) (x19) (x20) (x21) (x22) (x23) (x24) (x25) (x26) (x27) (x28) (x29) (x30) (x31) (x32) (x33) (x34)]) := by
  unfold F45z41 at hv
  unfold P45z41 at h
  subst hv
  exact leafE good0 (F := Tryz.f45) (n := 2000) (ds := [dL]) (L := [0]) (by kernel_rfl) (by kernel_rfl) (by kernel_rfl) (apc (p := (true) = true) rfl (apc (p := (true) = true) rfl apn))
end Go.Proofs.YtomcbkfnbagekaaGreat
