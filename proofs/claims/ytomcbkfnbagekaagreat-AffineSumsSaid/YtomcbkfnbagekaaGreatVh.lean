/- A part of the proof that the law of the statement is true of all inputs: VHk. -/
import Derived.Test.YtomcbkfnbagekaaGreatVg
/- Hooks for closed runs, by a program of this session. -/
set_option linter.unusedVariables false
set_option maxRecDepth 100000
namespace Go.Proofs.YtomcbkfnbagekaaGreat
open Go Go.Vm
def hk11 : Ex C0 := fun _ ars objs => match ars, objs with
  | [.agg [.int .i64 x0, .int .i64 x1, .int .i64 x2], .int .i64 x3], [] => cond (P11 x0 x1 x2 x3) (some ((V.bool (F11 x0 x1 x2 x3)), [])) none
  | _, _ => none
theorem hk11_ok : ∀ ars objs u os2, hk11 11 ars objs = some (u, os2) → Con0 E0 11 ars objs u os2 := by
  intro ars objs u os2 h
  unfold hk11 at h
  split at h
  · obtain ⟨h1, h2⟩ := cond_none h
    cases h2
    exact con11 _ _ _ _ h1
  · cases h
def hk14 : Ex C0 := fun _ ars objs => match ars, objs with
  | [.int .i32 x0], [] => cond (P14 x0) (some ((V.agg [V.int IntKind.i64 (F14 x0).1, V.int IntKind.i64 (F14 x0).2.1, V.int IntKind.i32 (F14 x0).2.2]), [])) none
  | _, _ => none
theorem hk14_ok : ∀ ars objs u os2, hk14 14 ars objs = some (u, os2) → Con0 E0 14 ars objs u os2 := by
  intro ars objs u os2 h
  unfold hk14 at h
  split at h
  · obtain ⟨h1, h2⟩ := cond_none h
    cases h2
    exact con14 _ h1
  · cases h
def hk15 : Ex C0 := fun _ ars objs => match ars, objs with
  | [.int .i64 x0], [] => cond (P15 x0) (some ((V.agg [V.int IntKind.i64 (F15 x0).1, V.int IntKind.i64 (F15 x0).2.1, V.int IntKind.i32 (F15 x0).2.2]), [])) none
  | _, _ => none
theorem hk15_ok : ∀ ars objs u os2, hk15 15 ars objs = some (u, os2) → Con0 E0 15 ars objs u os2 := by
  intro ars objs u os2 h
  unfold hk15 at h
  split at h
  · obtain ⟨h1, h2⟩ := cond_none h
    cases h2
    exact con15 _ h1
  · cases h
def hk24 : Ex C0 := fun _ ars objs => match ars, objs with
  | [.int .i64 x0, .int .i64 x1, .int .i64 x2], [] => cond (P24 x0 x1 x2) (some ((V.agg [V.int IntKind.i64 (F24 x0 x1 x2).1, V.int IntKind.i64 (F24 x0 x1 x2).2.1, V.int IntKind.i64 (F24 x0 x1 x2).2.2]), [])) none
  | _, _ => none
theorem hk24_ok : ∀ ars objs u os2, hk24 24 ars objs = some (u, os2) → Con0 E0 24 ars objs u os2 := by
  intro ars objs u os2 h
  unfold hk24 at h
  split at h
  · obtain ⟨h1, h2⟩ := cond_none h
    cases h2
    exact con24 _ _ _ h1
  · cases h
def hk25 : Ex C0 := fun _ ars objs => match ars, objs with
  | [], [] => cond (P25 ) (some ((V.agg [V.bool (F25 ).1, V.int IntKind.i64 (F25 ).2.1, V.int IntKind.i64 (F25 ).2.2.1, V.int IntKind.i64 (F25 ).2.2.2.1, V.int IntKind.i64 (F25 ).2.2.2.2.1, V.int IntKind.i64 (F25 ).2.2.2.2.2.1, V.int IntKind.i64 (F25 ).2.2.2.2.2.2]), [])) none
  | _, _ => none
theorem hk25_ok : ∀ ars objs u os2, hk25 25 ars objs = some (u, os2) → Con0 E0 25 ars objs u os2 := by
  intro ars objs u os2 h
  unfold hk25 at h
  split at h
  · obtain ⟨h1, h2⟩ := cond_none h
    cases h2
    exact con25  h1
  · cases h
def hk27 : Ex C0 := fun _ ars objs => match ars, objs with
  | [.int .i64 x0], [] => cond (P27 x0) (some ((V.bool (F27 x0)), [])) none
  | _, _ => none
theorem hk27_ok : ∀ ars objs u os2, hk27 27 ars objs = some (u, os2) → Con0 E0 27 ars objs u os2 := by
  intro ars objs u os2 h
  unfold hk27 at h
  split at h
  · obtain ⟨h1, h2⟩ := cond_none h
    cases h2
    exact con27 _ h1
  · cases h
def hk29 : Ex C0 := fun _ ars objs => match ars, objs with
  | [.agg [.int .i64 x0, .int .i64 x1, .int .i64 x2, .bool x3]], [] => cond (P29 x0 x1 x2 x3) (some ((V.bool (F29 x0 x1 x2 x3)), [])) none
  | _, _ => none
theorem hk29_ok : ∀ ars objs u os2, hk29 29 ars objs = some (u, os2) → Con0 E0 29 ars objs u os2 := by
  intro ars objs u os2 h
  unfold hk29 at h
  split at h
  · obtain ⟨h1, h2⟩ := cond_none h
    cases h2
    exact con29 _ _ _ _ h1
  · cases h
def hk32 : Ex C0 := fun _ ars objs => match ars, objs with
  | [.agg [.int .i64 x0, .int .i64 x1, .int .i64 x2], .int .i64 x3], [] => cond (P32 x0 x1 x2 x3) (some ((V.bool (F32 x0 x1 x2 x3)), [])) none
  | _, _ => none
theorem hk32_ok : ∀ ars objs u os2, hk32 32 ars objs = some (u, os2) → Con0 E0 32 ars objs u os2 := by
  intro ars objs u os2 h
  unfold hk32 at h
  split at h
  · obtain ⟨h1, h2⟩ := cond_none h
    cases h2
    exact con32 _ _ _ _ h1
  · cases h
def hk43 : Ex C0 := fun _ ars objs => match ars, objs with
  | [.int .i64 x0], [] => cond (P43 x0) (some ((V.agg [V.bool (F43 x0).1, V.int IntKind.i64 (F43 x0).2.1, V.int IntKind.i64 (F43 x0).2.2.1, V.int IntKind.i64 (F43 x0).2.2.2.1, V.int IntKind.i64 (F43 x0).2.2.2.2.1, V.int IntKind.i64 (F43 x0).2.2.2.2.2.1, V.int IntKind.i64 (F43 x0).2.2.2.2.2.2]), [])) none
  | _, _ => none
theorem hk43_ok : ∀ ars objs u os2, hk43 43 ars objs = some (u, os2) → Con0 E0 43 ars objs u os2 := by
  intro ars objs u os2 h
  unfold hk43 at h
  split at h
  · obtain ⟨h1, h2⟩ := cond_none h
    cases h2
    exact con43 _ h1
  · cases h
def hk44 : Ex C0 := fun _ ars objs => match ars, objs with
  | [], [] => cond (P44 ) (some ((V.agg [V.bool (F44 ).1, V.int IntKind.i64 (F44 ).2.1, V.int IntKind.i64 (F44 ).2.2.1, V.int IntKind.i64 (F44 ).2.2.2.1, V.int IntKind.i64 (F44 ).2.2.2.2.1, V.int IntKind.i64 (F44 ).2.2.2.2.2.1, V.int IntKind.i64 (F44 ).2.2.2.2.2.2]), [])) none
  | _, _ => none
theorem hk44_ok : ∀ ars objs u os2, hk44 44 ars objs = some (u, os2) → Con0 E0 44 ars objs u os2 := by
  intro ars objs u os2 h
  unfold hk44 at h
  split at h
  · obtain ⟨h1, h2⟩ := cond_none h
    cases h2
    exact con44  h1
  · cases h
def hk54 : Ex C0 := fun _ ars objs => match ars, objs with
  | [.int .i64 x0], [] => cond (P54 x0) (some ((V.agg [V.int IntKind.i64 (F54 x0).1, V.int IntKind.i64 (F54 x0).2.1, V.int IntKind.i64 (F54 x0).2.2]), [])) none
  | _, _ => none
theorem hk54_ok : ∀ ars objs u os2, hk54 54 ars objs = some (u, os2) → Con0 E0 54 ars objs u os2 := by
  intro ars objs u os2 h
  unfold hk54 at h
  split at h
  · obtain ⟨h1, h2⟩ := cond_none h
    cases h2
    exact con54 _ h1
  · cases h
def hk74 : Ex C0 := fun _ ars objs => match ars, objs with
  | [.agg [.bool x0, .int .i64 x1, .int .i64 x2, .int .i64 x3, .int .i64 x4, .int .i64 x5, .int .i64 x6]], [] => cond (P74 x0 x1 x2 x3 x4 x5 x6) (some ((V.bool (F74 x0 x1 x2 x3 x4 x5 x6)), [])) none
  | _, _ => none
theorem hk74_ok : ∀ ars objs u os2, hk74 74 ars objs = some (u, os2) → Con0 E0 74 ars objs u os2 := by
  intro ars objs u os2 h
  unfold hk74 at h
  split at h
  · obtain ⟨h1, h2⟩ := cond_none h
    cases h2
    exact con74 _ _ _ _ _ _ _ h1
  · cases h
def hk79 : Ex C0 := fun _ ars objs => match ars, objs with
  | [], [] => cond (P79 ) (some ((V.int IntKind.i64 (F79 )), [])) none
  | _, _ => none
theorem hk79_ok : ∀ ars objs u os2, hk79 79 ars objs = some (u, os2) → Con0 E0 79 ars objs u os2 := by
  intro ars objs u os2 h
  unfold hk79 at h
  split at h
  · obtain ⟨h1, h2⟩ := cond_none h
    cases h2
    exact con79  h1
  · cases h
def hk81 : Ex C0 := fun _ ars objs => match ars, objs with
  | [.int .i64 x0], [] => cond (P81 x0) (some ((V.bool (F81 x0)), [])) none
  | _, _ => none
theorem hk81_ok : ∀ ars objs u os2, hk81 81 ars objs = some (u, os2) → Con0 E0 81 ars objs u os2 := by
  intro ars objs u os2 h
  unfold hk81 at h
  split at h
  · obtain ⟨h1, h2⟩ := cond_none h
    cases h2
    exact con81 _ h1
  · cases h
def hk88 : Ex C0 := fun _ ars objs => match ars, objs with
  | [.agg [.int .i64 x0, .int .i64 x1, .int .i32 x2]], [] => cond (P88 x0 x1 x2) (some ((V.int IntKind.i64 (F88 x0 x1 x2)), [])) none
  | _, _ => none
theorem hk88_ok : ∀ ars objs u os2, hk88 88 ars objs = some (u, os2) → Con0 E0 88 ars objs u os2 := by
  intro ars objs u os2 h
  unfold hk88 at h
  split at h
  · obtain ⟨h1, h2⟩ := cond_none h
    cases h2
    exact con88 _ _ _ h1
  · cases h
def hk93 : Ex C0 := fun _ ars objs => match ars, objs with
  | [.int .i64 x0, .int .i64 x1, .int .i64 x2], [] => cond (P93 x0 x1 x2) (some ((V.agg [V.int IntKind.i64 (F93 x0 x1 x2).1, V.int IntKind.i64 (F93 x0 x1 x2).2.1, V.int IntKind.i64 (F93 x0 x1 x2).2.2]), [])) none
  | _, _ => none
theorem hk93_ok : ∀ ars objs u os2, hk93 93 ars objs = some (u, os2) → Con0 E0 93 ars objs u os2 := by
  intro ars objs u os2 h
  unfold hk93 at h
  split at h
  · obtain ⟨h1, h2⟩ := cond_none h
    cases h2
    exact con93 _ _ _ h1
  · cases h
def hk96 : Ex C0 := fun _ ars objs => match ars, objs with
  | [.int .i64 x0, .int .i64 x1], [] => cond (P96 x0 x1) (some ((V.int IntKind.i64 (F96 x0 x1)), [])) none
  | _, _ => none
theorem hk96_ok : ∀ ars objs u os2, hk96 96 ars objs = some (u, os2) → Con0 E0 96 ars objs u os2 := by
  intro ars objs u os2 h
  unfold hk96 at h
  split at h
  · obtain ⟨h1, h2⟩ := cond_none h
    cases h2
    exact con96 _ _ h1
  · cases h
def hk103 : Ex C0 := fun _ ars objs => match ars, objs with
  | [.int .i64 x0, .int .u64 x1], [] => cond (P103 x0 x1) (some ((V.int IntKind.i64 (F103 x0 x1)), [])) none
  | _, _ => none
theorem hk103_ok : ∀ ars objs u os2, hk103 103 ars objs = some (u, os2) → Con0 E0 103 ars objs u os2 := by
  intro ars objs u os2 h
  unfold hk103 at h
  split at h
  · obtain ⟨h1, h2⟩ := cond_none h
    cases h2
    exact con103 _ _ h1
  · cases h
def hk128 : Ex C0 := fun _ ars objs => match ars, objs with
  | [.int .i64 x0], [] => cond (P128 x0) (some ((V.int IntKind.u64 (F128 x0)), [])) none
  | _, _ => none
theorem hk128_ok : ∀ ars objs u os2, hk128 128 ars objs = some (u, os2) → Con0 E0 128 ars objs u os2 := by
  intro ars objs u os2 h
  unfold hk128 at h
  split at h
  · obtain ⟨h1, h2⟩ := cond_none h
    cases h2
    exact con128 _ h1
  · cases h
def hk7 : Ex C0 := fun _ ars objs => match ars, objs with
  | [.agg [.int .i64 x0, .int .u32 x1, .int .u16 x2]], [] => cond (P7 x0 x1 x2) (some ((V.agg [V.int IntKind.i64 (F7 x0 x1 x2).1, V.int IntKind.i64 (F7 x0 x1 x2).2.1, V.int IntKind.i64 (F7 x0 x1 x2).2.2]), [])) none
  | _, _ => none
theorem hk7_ok : ∀ ars objs u os2, hk7 7 ars objs = some (u, os2) → Con0 E0 7 ars objs u os2 := by
  intro ars objs u os2 h
  unfold hk7 at h
  split at h
  · obtain ⟨h1, h2⟩ := cond_none h
    cases h2
    exact con7 _ _ _ h1
  · cases h
def hk10 : Ex C0 := fun _ ars objs => match ars, objs with
  | [.agg [.bool x0, .int .i64 x1, .int .i64 x2, .int .i64 x3, .int .i64 x4, .int .i64 x5, .int .i64 x6], .int .i64 x7, .int .i64 x8, .int .i64 x9, .int .i32 x10], [] => cond (P10 x0 x1 x2 x3 x4 x5 x6 x7 x8 x9 x10) (some ((V.bool (F10 x0 x1 x2 x3 x4 x5 x6 x7 x8 x9 x10)), [])) none
  | _, _ => none
theorem hk10_ok : ∀ ars objs u os2, hk10 10 ars objs = some (u, os2) → Con0 E0 10 ars objs u os2 := by
  intro ars objs u os2 h
  unfold hk10 at h
  split at h
  · obtain ⟨h1, h2⟩ := cond_none h
    cases h2
    exact con10 _ _ _ _ _ _ _ _ _ _ _ h1
  · cases h
def hk12 : Ex C0 := fun _ ars objs => match ars, objs with
  | [.int .i64 x0, .int .i64 x1], [] => cond (P12 x0 x1) (some ((V.agg [V.int IntKind.i64 (F12 x0 x1).1, V.int IntKind.i64 (F12 x0 x1).2.1, V.int IntKind.i64 (F12 x0 x1).2.2.1, V.int IntKind.i64 (F12 x0 x1).2.2.2.1, V.int IntKind.i64 (F12 x0 x1).2.2.2.2.1, V.int IntKind.i32 (F12 x0 x1).2.2.2.2.2.1, V.int IntKind.i64 (F12 x0 x1).2.2.2.2.2.2.1, V.int IntKind.i64 (F12 x0 x1).2.2.2.2.2.2.2.1, V.int IntKind.i32 (F12 x0 x1).2.2.2.2.2.2.2.2.1, V.int IntKind.i64 (F12 x0 x1).2.2.2.2.2.2.2.2.2.1, V.int IntKind.i64 (F12 x0 x1).2.2.2.2.2.2.2.2.2.2.1, V.int IntKind.i32 (F12 x0 x1).2.2.2.2.2.2.2.2.2.2.2.1, V.int IntKind.i64 (F12 x0 x1).2.2.2.2.2.2.2.2.2.2.2.2.1, V.int IntKind.i64 (F12 x0 x1).2.2.2.2.2.2.2.2.2.2.2.2.2.1, V.int IntKind.i32 (F12 x0 x1).2.2.2.2.2.2.2.2.2.2.2.2.2.2]), [])) none
  | _, _ => none
theorem hk12_ok : ∀ ars objs u os2, hk12 12 ars objs = some (u, os2) → Con0 E0 12 ars objs u os2 := by
  intro ars objs u os2 h
  unfold hk12 at h
  split at h
  · obtain ⟨h1, h2⟩ := cond_none h
    cases h2
    exact con12 _ _ h1
  · cases h
def hk13 : Ex C0 := fun _ ars objs => match ars, objs with
  | [.int .i64 x0, .int .i64 x1, .agg [.int .i64 x2, .int .i64 x3, .int .i32 x4], .agg [.int .i64 x5, .int .i64 x6, .int .i32 x7]], [] => cond (P13 x0 x1 x2 x3 x4 x5 x6 x7) (some ((V.agg [V.int IntKind.i64 (F13 x0 x1 x2 x3 x4 x5 x6 x7).1, V.int IntKind.i64 (F13 x0 x1 x2 x3 x4 x5 x6 x7).2.1, V.int IntKind.i64 (F13 x0 x1 x2 x3 x4 x5 x6 x7).2.2.1, V.int IntKind.i64 (F13 x0 x1 x2 x3 x4 x5 x6 x7).2.2.2.1, V.int IntKind.i64 (F13 x0 x1 x2 x3 x4 x5 x6 x7).2.2.2.2.1, V.int IntKind.i32 (F13 x0 x1 x2 x3 x4 x5 x6 x7).2.2.2.2.2.1, V.int IntKind.i64 (F13 x0 x1 x2 x3 x4 x5 x6 x7).2.2.2.2.2.2.1, V.int IntKind.i64 (F13 x0 x1 x2 x3 x4 x5 x6 x7).2.2.2.2.2.2.2.1, V.int IntKind.i32 (F13 x0 x1 x2 x3 x4 x5 x6 x7).2.2.2.2.2.2.2.2.1, V.int IntKind.i64 (F13 x0 x1 x2 x3 x4 x5 x6 x7).2.2.2.2.2.2.2.2.2.1, V.int IntKind.i64 (F13 x0 x1 x2 x3 x4 x5 x6 x7).2.2.2.2.2.2.2.2.2.2.1, V.int IntKind.i32 (F13 x0 x1 x2 x3 x4 x5 x6 x7).2.2.2.2.2.2.2.2.2.2.2.1, V.int IntKind.i64 (F13 x0 x1 x2 x3 x4 x5 x6 x7).2.2.2.2.2.2.2.2.2.2.2.2.1, V.int IntKind.i64 (F13 x0 x1 x2 x3 x4 x5 x6 x7).2.2.2.2.2.2.2.2.2.2.2.2.2.1, V.int IntKind.i32 (F13 x0 x1 x2 x3 x4 x5 x6 x7).2.2.2.2.2.2.2.2.2.2.2.2.2.2]), [])) none
  | _, _ => none
theorem hk13_ok : ∀ ars objs u os2, hk13 13 ars objs = some (u, os2) → Con0 E0 13 ars objs u os2 := by
  intro ars objs u os2 h
  unfold hk13 at h
  split at h
  · obtain ⟨h1, h2⟩ := cond_none h
    cases h2
    exact con13 _ _ _ _ _ _ _ _ h1
  · cases h
def hk21 : Ex C0 := fun _ ars objs => match ars, objs with
  | [.int .i64 x0], [] => cond (P21 x0) (some ((V.agg [V.bool (F21 x0).1, V.int IntKind.i64 (F21 x0).2.1, V.int IntKind.i64 (F21 x0).2.2.1, V.int IntKind.i64 (F21 x0).2.2.2.1, V.int IntKind.i64 (F21 x0).2.2.2.2.1, V.int IntKind.i64 (F21 x0).2.2.2.2.2.1, V.int IntKind.i64 (F21 x0).2.2.2.2.2.2]), [])) none
  | _, _ => none
theorem hk21_ok : ∀ ars objs u os2, hk21 21 ars objs = some (u, os2) → Con0 E0 21 ars objs u os2 := by
  intro ars objs u os2 h
  unfold hk21 at h
  split at h
  · obtain ⟨h1, h2⟩ := cond_none h
    cases h2
    exact con21 _ h1
  · cases h
def hk23 : Ex C0 := fun _ ars objs => match ars, objs with
  | [.int .i64 x0, .int .i64 x1], [] => cond (P23 x0 x1) (some ((V.agg [V.bool (F23 x0 x1).1, V.int IntKind.i64 (F23 x0 x1).2.1, V.int IntKind.i64 (F23 x0 x1).2.2.1, V.int IntKind.i64 (F23 x0 x1).2.2.2.1, V.int IntKind.i64 (F23 x0 x1).2.2.2.2.1, V.int IntKind.i64 (F23 x0 x1).2.2.2.2.2.1, V.int IntKind.i64 (F23 x0 x1).2.2.2.2.2.2]), [])) none
  | _, _ => none
theorem hk23_ok : ∀ ars objs u os2, hk23 23 ars objs = some (u, os2) → Con0 E0 23 ars objs u os2 := by
  intro ars objs u os2 h
  unfold hk23 at h
  split at h
  · obtain ⟨h1, h2⟩ := cond_none h
    cases h2
    exact con23 _ _ h1
  · cases h
def hk55 : Ex C0 := fun _ ars objs => match ars, objs with
  | [.int .i64 x0], [] => cond (P55 x0) (some ((V.bool (F55 x0)), [])) none
  | _, _ => none
theorem hk55_ok : ∀ ars objs u os2, hk55 55 ars objs = some (u, os2) → Con0 E0 55 ars objs u os2 := by
  intro ars objs u os2 h
  unfold hk55 at h
  split at h
  · obtain ⟨h1, h2⟩ := cond_none h
    cases h2
    exact con55 _ h1
  · cases h
def hk57 : Ex C0 := fun _ ars objs => match ars, objs with
  | [.int .i64 x0, .int .i64 x1], [] => cond (P57 x0 x1) (some ((V.agg [V.int IntKind.i64 (F57 x0 x1).1, V.int IntKind.i64 (F57 x0 x1).2.1, V.int IntKind.i64 (F57 x0 x1).2.2]), [])) none
  | _, _ => none
theorem hk57_ok : ∀ ars objs u os2, hk57 57 ars objs = some (u, os2) → Con0 E0 57 ars objs u os2 := by
  intro ars objs u os2 h
  unfold hk57 at h
  split at h
  · obtain ⟨h1, h2⟩ := cond_none h
    cases h2
    exact con57 _ _ h1
  · cases h
def hk58 : Ex C0 := fun _ ars objs => match ars, objs with
  | [.agg [.int .i64 x0, .int .i64 x1, .int .i64 x2]], [] => cond (P58 x0 x1 x2) (some ((V.bool (F58 x0 x1 x2)), [])) none
  | _, _ => none
theorem hk58_ok : ∀ ars objs u os2, hk58 58 ars objs = some (u, os2) → Con0 E0 58 ars objs u os2 := by
  intro ars objs u os2 h
  unfold hk58 at h
  split at h
  · obtain ⟨h1, h2⟩ := cond_none h
    cases h2
    exact con58 _ _ _ h1
  · cases h
def hk64 : Ex C0 := fun _ ars objs => match ars, objs with
  | [.agg [.int .i64 x0, .int .i64 x1, .int .i64 x2, .int .i64 x3, .int .i64 x4, .int .i32 x5, .int .i64 x6, .int .i64 x7, .int .i32 x8, .int .i64 x9, .int .i64 x10, .int .i32 x11, .int .i64 x12, .int .i64 x13, .int .i32 x14]], [] => cond (P64 x0 x1 x2 x3 x4 x5 x6 x7 x8 x9 x10 x11 x12 x13 x14) (some ((V.int IntKind.i64 (F64 x0 x1 x2 x3 x4 x5 x6 x7 x8 x9 x10 x11 x12 x13 x14)), [])) none
  | _, _ => none
theorem hk64_ok : ∀ ars objs u os2, hk64 64 ars objs = some (u, os2) → Con0 E0 64 ars objs u os2 := by
  intro ars objs u os2 h
  unfold hk64 at h
  split at h
  · obtain ⟨h1, h2⟩ := cond_none h
    cases h2
    exact con64 _ _ _ _ _ _ _ _ _ _ _ _ _ _ _ h1
  · cases h
def hk70 : Ex C0 := fun _ ars objs => match ars, objs with
  | [.int .i64 x0, .int .i64 x1, .int .i64 x2], [] => cond (P70 x0 x1 x2) (some ((V.tuple [V.agg [V.int IntKind.i64 (F70 x0 x1 x2).1, V.int IntKind.i64 (F70 x0 x1 x2).2.1, V.int IntKind.i64 (F70 x0 x1 x2).2.2.1], V.int IntKind.i64 (F70 x0 x1 x2).2.2.2]), [])) none
  | _, _ => none
theorem hk70_ok : ∀ ars objs u os2, hk70 70 ars objs = some (u, os2) → Con0 E0 70 ars objs u os2 := by
  intro ars objs u os2 h
  unfold hk70 at h
  split at h
  · obtain ⟨h1, h2⟩ := cond_none h
    cases h2
    exact con70 _ _ _ h1
  · cases h
def hk83 : Ex C0 := fun _ ars objs => match ars, objs with
  | [.int .i64 x0, .int .i64 x1, .int .i64 x2], [] => cond (P83 x0 x1 x2) (some ((V.tuple [V.agg [V.int IntKind.i64 (F83 x0 x1 x2).1, V.int IntKind.i64 (F83 x0 x1 x2).2.1, V.int IntKind.i64 (F83 x0 x1 x2).2.2.1], V.int IntKind.i64 (F83 x0 x1 x2).2.2.2]), [])) none
  | _, _ => none
theorem hk83_ok : ∀ ars objs u os2, hk83 83 ars objs = some (u, os2) → Con0 E0 83 ars objs u os2 := by
  intro ars objs u os2 h
  unfold hk83 at h
  split at h
  · obtain ⟨h1, h2⟩ := cond_none h
    cases h2
    exact con83 _ _ _ h1
  · cases h
def hk119 : Ex C0 := fun _ ars objs => match ars, objs with
  | [.int .i64 x0, .int .i64 x1], [] => cond (P119 x0 x1) (some ((V.int IntKind.i64 (F119 x0 x1)), [])) none
  | _, _ => none
theorem hk119_ok : ∀ ars objs u os2, hk119 119 ars objs = some (u, os2) → Con0 E0 119 ars objs u os2 := by
  intro ars objs u os2 h
  unfold hk119 at h
  split at h
  · obtain ⟨h1, h2⟩ := cond_none h
    cases h2
    exact con119 _ _ h1
  · cases h
def hk26 : Ex C0 := fun _ ars objs => match ars, objs with
  | [.agg [.int .i64 x0, .int .i64 x1, .int .i64 x2]], [] => cond (P26 x0 x1 x2) (some ((V.bool (F26 x0 x1 x2)), [])) none
  | _, _ => none
theorem hk26_ok : ∀ ars objs u os2, hk26 26 ars objs = some (u, os2) → Con0 E0 26 ars objs u os2 := by
  intro ars objs u os2 h
  unfold hk26 at h
  split at h
  · obtain ⟨h1, h2⟩ := cond_none h
    cases h2
    exact con26 _ _ _ h1
  · cases h
def hk63 : Ex C0 := fun _ ars objs => match ars, objs with
  | [.int .i64 x0, .int .i64 x1], [] => cond (P63 x0 x1) (some ((V.agg [V.bool (F63 x0 x1).1, V.int IntKind.i64 (F63 x0 x1).2.1, V.int IntKind.i64 (F63 x0 x1).2.2.1, V.int IntKind.i64 (F63 x0 x1).2.2.2.1, V.int IntKind.i64 (F63 x0 x1).2.2.2.2.1, V.int IntKind.i64 (F63 x0 x1).2.2.2.2.2.1, V.int IntKind.i64 (F63 x0 x1).2.2.2.2.2.2]), [])) none
  | _, _ => none
theorem hk63_ok : ∀ ars objs u os2, hk63 63 ars objs = some (u, os2) → Con0 E0 63 ars objs u os2 := by
  intro ars objs u os2 h
  unfold hk63 at h
  split at h
  · obtain ⟨h1, h2⟩ := cond_none h
    cases h2
    exact con63 _ _ h1
  · cases h
def hk98 : Ex C0 := fun _ ars objs => match ars, objs with
  | [.int .i64 x0, .int .i64 x1, .int .i64 x2], [] => cond (P98 x0 x1 x2) (some ((V.agg [V.int IntKind.i64 (F98 x0 x1 x2).1, V.int IntKind.i64 (F98 x0 x1 x2).2.1, V.int IntKind.i64 (F98 x0 x1 x2).2.2.1, V.int IntKind.i64 (F98 x0 x1 x2).2.2.2]), [])) none
  | _, _ => none
theorem hk98_ok : ∀ ars objs u os2, hk98 98 ars objs = some (u, os2) → Con0 E0 98 ars objs u os2 := by
  intro ars objs u os2 h
  unfold hk98 at h
  split at h
  · obtain ⟨h1, h2⟩ := cond_none h
    cases h2
    exact con98 _ _ _ h1
  · cases h
def hk99 : Ex C0 := fun _ ars objs => match ars, objs with
  | [.int .i64 x0, .int .i64 x1], [] => cond (P99 x0 x1) (some ((V.int IntKind.i64 (F99 x0 x1)), [])) none
  | _, _ => none
theorem hk99_ok : ∀ ars objs u os2, hk99 99 ars objs = some (u, os2) → Con0 E0 99 ars objs u os2 := by
  intro ars objs u os2 h
  unfold hk99 at h
  split at h
  · obtain ⟨h1, h2⟩ := cond_none h
    cases h2
    exact con99 _ _ h1
  · cases h
def hk118 : Ex C0 := fun _ ars objs => match ars, objs with
  | [.int .u64 x0, .int .u64 x1], [] => cond (P118 x0 x1) (some ((V.tuple [V.int IntKind.u64 (F118 x0 x1).1, V.int IntKind.u64 (F118 x0 x1).2]), [])) none
  | _, _ => none
theorem hk118_ok : ∀ ars objs u os2, hk118 118 ars objs = some (u, os2) → Con0 E0 118 ars objs u os2 := by
  intro ars objs u os2 h
  unfold hk118 at h
  split at h
  · obtain ⟨h1, h2⟩ := cond_none h
    cases h2
    exact con118 _ _ h1
  · cases h
def hk80 : Ex C0 := fun _ ars objs => match ars, objs with
  | [.agg [.int .i64 x0, .int .i64 x1, .int .i64 x2], .agg [.int .i64 x3, .int .i64 x4, .int .i64 x5]], [] => cond (P80 x0 x1 x2 x3 x4 x5) (some ((V.agg [V.int IntKind.i64 (F80 x0 x1 x2 x3 x4 x5).1, V.int IntKind.i64 (F80 x0 x1 x2 x3 x4 x5).2.1, V.int IntKind.i64 (F80 x0 x1 x2 x3 x4 x5).2.2.1, V.int IntKind.i64 (F80 x0 x1 x2 x3 x4 x5).2.2.2]), [])) none
  | _, _ => none
theorem hk80_ok : ∀ ars objs u os2, hk80 80 ars objs = some (u, os2) → Con0 E0 80 ars objs u os2 := by
  intro ars objs u os2 h
  unfold hk80 at h
  split at h
  · obtain ⟨h1, h2⟩ := cond_none h
    cases h2
    exact con80 _ _ _ _ _ _ h1
  · cases h
def hk121 : Ex C0 := fun _ ars objs => match ars, objs with
  | [.int .i64 x0, .int .i64 x1], [] => cond (P121 x0 x1) (some ((V.tuple [V.int IntKind.i64 (F121 x0 x1).1, V.bool (F121 x0 x1).2]), [])) none
  | _, _ => none
theorem hk121_ok : ∀ ars objs u os2, hk121 121 ars objs = some (u, os2) → Con0 E0 121 ars objs u os2 := by
  intro ars objs u os2 h
  unfold hk121 at h
  split at h
  · obtain ⟨h1, h2⟩ := cond_none h
    cases h2
    exact con121 _ _ h1
  · cases h
def hk56 : Ex C0 := fun _ ars objs => match ars, objs with
  | [.agg [.int .i64 x0, .int .i64 x1, .int .i64 x2, .bool x3], .agg [.int .i64 x4, .int .i64 x5, .int .i64 x6]], [] => cond (P56 x0 x1 x2 x3 x4 x5 x6) (some ((V.agg [V.int IntKind.i64 (F56 x0 x1 x2 x3 x4 x5 x6).1, V.int IntKind.i64 (F56 x0 x1 x2 x3 x4 x5 x6).2.1, V.int IntKind.i64 (F56 x0 x1 x2 x3 x4 x5 x6).2.2.1, V.bool (F56 x0 x1 x2 x3 x4 x5 x6).2.2.2]), [])) none
  | _, _ => none
theorem hk56_ok : ∀ ars objs u os2, hk56 56 ars objs = some (u, os2) → Con0 E0 56 ars objs u os2 := by
  intro ars objs u os2 h
  unfold hk56 at h
  split at h
  · obtain ⟨h1, h2⟩ := cond_none h
    cases h2
    exact con56 _ _ _ _ _ _ _ h1
  · cases h
def hk100 : Ex C0 := fun _ ars objs => match ars, objs with
  | [.agg [.int .i64 x0, .int .i64 x1, .int .i64 x2], .agg [.int .i64 x3, .int .i64 x4, .int .i64 x5]], [] => cond (P100 x0 x1 x2 x3 x4 x5) (some ((V.tuple [V.int IntKind.i64 (F100 x0 x1 x2 x3 x4 x5).1, V.int IntKind.i64 (F100 x0 x1 x2 x3 x4 x5).2.1, V.bool (F100 x0 x1 x2 x3 x4 x5).2.2]), [])) none
  | _, _ => none
theorem hk100_ok : ∀ ars objs u os2, hk100 100 ars objs = some (u, os2) → Con0 E0 100 ars objs u os2 := by
  intro ars objs u os2 h
  unfold hk100 at h
  split at h
  · obtain ⟨h1, h2⟩ := cond_none h
    cases h2
    exact con100 _ _ _ _ _ _ h1
  · cases h
def hk84a : Ex C0 := fun _ ars objs => match ars, objs with
  | [.sl 0 0 1 1], [.cells [.int .i64 x0] 2] => cond (P84a x0) (some ((V.int IntKind.i64 (F84a x0).1), ([AObj.cells [V.int IntKind.i64 (F84a x0).2] 2]))) none
  | _, _ => none
theorem hk84a_ok : ∀ ars objs u os2, hk84a 84 ars objs = some (u, os2) → Con0 E0 84 ars objs u os2 := by
  intro ars objs u os2 h
  unfold hk84a at h
  split at h
  · obtain ⟨h1, h2⟩ := cond_none h
    cases h2
    exact con84a _ h1
  · cases h
def hk84b : Ex C0 := fun _ ars objs => match ars, objs with
  | [.sl 0 0 2 2], [.cells [.int .i64 x0, .int .i64 x1] 2] => cond (P84b x0 x1) (some ((V.int IntKind.i64 (F84b x0 x1).1), ([AObj.cells [V.int IntKind.i64 (F84b x0 x1).2.1, V.int IntKind.i64 (F84b x0 x1).2.2] 2]))) none
  | _, _ => none
theorem hk84b_ok : ∀ ars objs u os2, hk84b 84 ars objs = some (u, os2) → Con0 E0 84 ars objs u os2 := by
  intro ars objs u os2 h
  unfold hk84b at h
  split at h
  · obtain ⟨h1, h2⟩ := cond_none h
    cases h2
    exact con84b _ _ h1
  · cases h
def hk82 : Ex C0 := fun _ ars objs => match ars, objs with
  | [.agg [.int .i64 x0, .int .i64 x1, .int .i64 x2], .int .i64 x3], [] => cond (P82 x0 x1 x2 x3) (some ((V.tuple [V.agg [V.int IntKind.i64 (F82 x0 x1 x2 x3).1, V.int IntKind.i64 (F82 x0 x1 x2 x3).2.1, V.int IntKind.i64 (F82 x0 x1 x2 x3).2.2.1], V.int IntKind.i64 (F82 x0 x1 x2 x3).2.2.2]), [])) none
  | _, _ => none
theorem hk82_ok : ∀ ars objs u os2, hk82 82 ars objs = some (u, os2) → Con0 E0 82 ars objs u os2 := by
  intro ars objs u os2 h
  unfold hk82 at h
  split at h
  · obtain ⟨h1, h2⟩ := cond_none h
    cases h2
    exact con82 _ _ _ _ h1
  · cases h
def hk60 : Ex C0 := fun _ ars objs => match ars, objs with
  | [.agg [.int .i64 x0, .int .i64 x1, .int .i64 x2], .agg [.int .i64 x3, .int .i64 x4, .int .i64 x5]], [] => cond (P60 x0 x1 x2 x3 x4 x5) (some ((V.tuple [V.agg [V.int IntKind.i64 (F60 x0 x1 x2 x3 x4 x5).1, V.int IntKind.i64 (F60 x0 x1 x2 x3 x4 x5).2.1, V.int IntKind.i64 (F60 x0 x1 x2 x3 x4 x5).2.2.1], V.int IntKind.i64 (F60 x0 x1 x2 x3 x4 x5).2.2.2]), [])) none
  | _, _ => none
theorem hk60_ok : ∀ ars objs u os2, hk60 60 ars objs = some (u, os2) → Con0 E0 60 ars objs u os2 := by
  intro ars objs u os2 h
  unfold hk60 at h
  split at h
  · obtain ⟨h1, h2⟩ := cond_none h
    cases h2
    exact con60 _ _ _ _ _ _ h1
  · cases h
def hk59 : Ex C0 := fun _ ars objs => match ars, objs with
  | [.int .i64 x0, .int .i64 x1], [] => cond (P59 x0 x1) (some ((V.tuple [V.agg [V.int IntKind.i64 (F59 x0 x1).1, V.int IntKind.i64 (F59 x0 x1).2.1, V.int IntKind.i64 (F59 x0 x1).2.2.1], V.bool (F59 x0 x1).2.2.2]), [])) none
  | _, _ => none
theorem hk59_ok : ∀ ars objs u os2, hk59 59 ars objs = some (u, os2) → Con0 E0 59 ars objs u os2 := by
  intro ars objs u os2 h
  unfold hk59 at h
  split at h
  · obtain ⟨h1, h2⟩ := cond_none h
    cases h2
    exact con59 _ _ h1
  · cases h
def hka84 : Ex C0 := fun g ars objs => match hk84a g ars objs with | some r => some r | none => match hk84b g ars objs with | some r => some r | none => none
theorem hka84_ok : ∀ ars objs u os2, hka84 84 ars objs = some (u, os2) → Con0 E0 84 ars objs u os2 := by
  intro ars objs u os2 h
  unfold hka84 at h
  split at h
  · rename_i r hr; cases h; exact hk84a_ok _ _ _ _ hr
  split at h
  · rename_i r hr; cases h; exact hk84b_ok _ _ _ _ hr
  cases h
noncomputable def hkT : T (Ex C0) := (.node (.node (.node (.node (.node (.node (.node .nil (some hk63) .nil) none .nil) (some hk15) (.node (.node .nil (some hk79) .nil) none .nil)) (some hk7) (.node (.node .nil none (.node .nil (some hk103) .nil)) (some hk23) (.node .nil (some hk55) (.node .nil (some hk119) .nil)))) none (.node (.node (.node .nil none (.node .nil (some hk99) .nil)) none (.node (.node .nil (some hk83) .nil) none .nil)) (some hk11) (.node (.node .nil (some hk43) .nil) (some hk27) (.node .nil (some hk59) .nil)))) none (.node (.node (.node .nil none (.node (.node .nil (some hk81) .nil) none .nil)) none (.node .nil (some hk25) (.node .nil (some hk57) (.node .nil (some hk121) .nil)))) none (.node (.node .nil (some hk21) .nil) (some hk13) (.node .nil (some hk29) (.node (.node .nil (some hk93) .nil) none .nil))))) none (.node (.node (.node (.node (.node (.node (.node .nil (some hk128) .nil) (some hk64) .nil) (some hk32) (.node .nil (some hk96) .nil)) none (.node (.node .nil (some hk80) .nil) none .nil)) none (.node .nil (some hk24) (.node (.node .nil (some hk88) .nil) (some hk56) .nil))) none (.node (.node (.node .nil none (.node .nil (some hk100) .nil)) none (.node (.node .nil (some hka84) .nil) none .nil)) (some hk12) (.node (.node .nil (some hk44) .nil) none (.node .nil (some hk60) .nil)))) none (.node (.node (.node (.node .nil none (.node .nil (some hk98) .nil)) none (.node (.node .nil (some hk82) .nil) none .nil)) (some hk10) (.node (.node (.node .nil (some hk74) .nil) none .nil) (some hk26) (.node .nil (some hk58) .nil))) none (.node (.node (.node (.node .nil (some hk70) .nil) none .nil) none (.node .nil (some hk54) (.node .nil (some hk118) .nil))) (some hk14) .nil))))
noncomputable def hooks : Ex C0 := fun g ars objs => match hkT.get g with | some h => h g ars objs | none => none
theorem hkT_l : hkT.list 1 0 = [(7, hk7), (15, hk15), (63, hk63), (79, hk79), (23, hk23), (103, hk103), (55, hk55), (119, hk119), (11, hk11), (99, hk99), (83, hk83), (27, hk27), (43, hk43), (59, hk59), (81, hk81), (25, hk25), (57, hk57), (121, hk121), (13, hk13), (21, hk21), (29, hk29), (93, hk93), (32, hk32), (64, hk64), (128, hk128), (96, hk96), (80, hk80), (24, hk24), (56, hk56), (88, hk88), (12, hk12), (100, hk100), (84, hka84), (44, hk44), (60, hk60), (10, hk10), (98, hk98), (82, hk82), (26, hk26), (74, hk74), (58, hk58), (14, hk14), (70, hk70), (54, hk54), (118, hk118)] := by kernel_rfl
theorem hooks_ok : ExOk E0 hooks := by
  intro g ars objs u os2 h
  unfold hooks at h
  split at h
  · rename_i hk hg
    have hm := T.mem_list' hg
    have hall : ∀ p ∈ hkT.list 1 0, ∀ ars objs u os2, p.2 p.1 ars objs = some (u, os2) → Con0 E0 p.1 ars objs u os2 := by
      rw [hkT_l]
      simp only [List.forall_mem_cons]
      exact ⟨hk7_ok, hk15_ok, hk63_ok, hk79_ok, hk23_ok, hk103_ok, hk55_ok, hk119_ok, hk11_ok, hk99_ok, hk83_ok, hk27_ok, hk43_ok, hk59_ok, hk81_ok, hk25_ok, hk57_ok, hk121_ok, hk13_ok, hk21_ok, hk29_ok, hk93_ok, hk32_ok, hk64_ok, hk128_ok, hk96_ok, hk80_ok, hk24_ok, hk56_ok, hk88_ok, hk12_ok, hk100_ok, hka84_ok, hk44_ok, hk60_ok, hk10_ok, hk98_ok, hk82_ok, hk26_ok, hk74_ok, hk58_ok, hk14_ok, hk70_ok, hk54_ok, hk118_ok, fun p hp => by cases hp⟩
    exact hall _ hm _ _ _ _ h
  · cases h
end Go.Proofs.YtomcbkfnbagekaaGreat
