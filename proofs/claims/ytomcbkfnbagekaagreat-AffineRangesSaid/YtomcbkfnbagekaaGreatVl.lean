/- A part of the proof that the law of the statement is true of all inputs: VFin. -/
import Derived.Test.YtomcbkfnbagekaaGreatRows
import Derived.ProofKit
import Derived.Test.YtomcbkfnbagekaaGreatVk
/- The statement on ranges: it holds. -/
set_option linter.unusedVariables false
set_option maxRecDepth 100000
namespace Go.Proofs.YtomcbkfnbagekaaGreat
open Go Go.Vm Go.ChangeShapes Go.WideShapes Go.ChangeAt Go.RowKit
theorem ranges_calls (a b g lo : Int) (st n : Int) (wa : (Lit.int .i8 a).wf = true) (wb : (Lit.int .i8 b).wf = true) (wg : (Lit.int .i8 g).wf = true) (ws : (Lit.int .u32 st).wf = true) (wn : (Lit.int .u16 n).wf = true) (w : World) :
    Calls Tryz.prog 3 #[.agg #[.int .i8 a, .int .i8 b, .int .i8 g, .int .i64 lo, .int .u32 st, .int .u16 n]] w fun e w' => e = .returned (.bool true) ∧ Below w.heap.size w w' := by
  obtain ⟨hf, hp⟩ := law_t a b g lo st n (bounds_i8 wa) (bounds_i8 wb) (bounds_i8 wg) (bounds_u32 ws).1 (bounds_u16 wn).1
  have h := con3 a b g lo st n hp
  rw [hf] at h
  exact law_calls h (.cons (.agg (.cons (.int _ _) (.cons (.int _ _) (.cons (.int _ _) (.cons (.int _ _) (.cons (.int _ _) (.cons (.int _ _) .nil))))))) .nil) w
theorem ranges_own : ownKnob Tryz.prog.godebug = none := by kernel_rfl
theorem ranges_laid : laidOutB Tryz.prog = true := by kernel_rfl
theorem ranges_lifted (os : Os) (started : os.Started) (H : Type) (enc : TypeId × Value → H) :
    ReturnsInHanded {} Tryz.checked os 3 .any (Rows.affineRangesSpec.pre6 enc Tryz.prog Tryz.f3 Rows.affineRangesRow.domain false) (Rows.affineRangesSpec.post enc Tryz.prog Tryz.f3 false true false false) := by
  refine returnsInHanded_of_change (C := Tryz.checked) ranges_own started (by kernel_rfl) Tryz.func3
    (ChangeSpec.witness6 (enc := enc) (C := Tryz.checked) false ⟨#[], #[.agg #[.int .i8 0, .int .i8 0, .int .i8 0, .int .i64 0, .int .u32 0, .int .u16 0]], []⟩ 8 (by kernel_rfl) (by kernel_rfl) (by kernel_rfl) (by kernel_rfl)) ?_
  intro W base args ds gs before hval0 hW hcnd _
  have hval : ∀ (j : Nat) t v, Tryz.f3.params[j]? = some t → args[j]? = some v → Value.okWide Tryz.prog W .any base t v := hval0
  have hW' := hW
  obtain ⟨p, q, hA0, hV, rfl, hfz, hnd⟩ := hW
  obtain ⟨rfl, rfl⟩ := trodVars_none hV
  simp only [List.append_nil] at hW'
  have hA1 : DataW.TrodAll enc Tryz.prog W 0 (fun _ => true) true Tryz.f3.params.toList args.toList ds p := hA0
  have hA : DataW.TrodAll enc Tryz.prog W 0 (fun _ => true) true Tryz.f3.params.toList args.toList ds p := hA0
  rw [Tryz.params3] at hA hval
  obtain ⟨v0, vs0, d0, ds0, p0, q0, hargs, rfl, rfl, h0, r0⟩ := trodAll_cons hA
  obtain ⟨rfl, rfl, rfl⟩ := trodAll_nil r0
  obtain rfl : args = #[v0] := by cases args; simp_all
  obtain ⟨cs, rfl, hsz⟩ := okWide_struct Tryz.underlying28 (hval 0 28 v0 rfl rfl)
  obtain ⟨fuel, hf⟩ := h0
  have hk := flatT_ok 9 28 [.int .i8, .int .i8, .int .i8, .int .i64, .int .u32, .int .u16] fuel cs.toList _ (by kernel_rfl) hf
  obtain ⟨l⟩ := cs
  have hk : SKs [.int .i8, .int .i8, .int .i8, .int .i64, .int .u32, .int .u16] l := hk
  obtain ⟨v1, l1, rfl, ⟨n1, rfl, w1⟩, hk1⟩ := SKs.uncons hk
  obtain ⟨v2, l2, rfl, ⟨n2, rfl, w2⟩, hk2⟩ := SKs.uncons hk1
  obtain ⟨v3, l3, rfl, ⟨n3, rfl, w3⟩, hk3⟩ := SKs.uncons hk2
  obtain ⟨v4, l4, rfl, ⟨n4, rfl, w4⟩, hk4⟩ := SKs.uncons hk3
  obtain ⟨v5, l5, rfl, ⟨n5, rfl, w5⟩, hk5⟩ := SKs.uncons hk4
  obtain ⟨v6, l6, rfl, ⟨n6, rfl, w6⟩, hk6⟩ := SKs.uncons hk5
  obtain rfl := SKs.unnil hk6
  refine (ranges_calls n1 n2 n3 n4 n5 n6 w1 w2 w3 w5 w6 W).mono fun e W' ⟨he, hg⟩ => ?_
  subst he
  exact ⟨_, rfl, law_post (tb := 4) ranges_laid hg rfl hW' hA1 (by kernel_rfl) Tryz.underlying4 (by rw [Tryz.params3]; intro t ht; simp at ht; subst ht; exact ⟨by kernel_rfl, of_decide_eq_true (by kernel_rfl)⟩) rfl⟩
theorem ranges_over : Rows.affineRangesRow.holds Tryz.pinned (OpenSpec.ofChange Rows.affineRangesSpec) :=
  OpenClaim.holds_of_wide 3 Tryz.f3 rfl rfl rfl rfl rfl rfl rfl ⟨rfl, rfl, rfl, rfl, rfl⟩ rfl rfl rfl rfl rfl (by kernel_rfl) Tryz.func3 (by kernel_rfl)
    (of_decide_eq_true (by kernel_rfl)) (by unfold Func.isWrapper; first | (rw [if_pos (by decide +kernel)]; kernel_rfl) | (rw [if_neg (by decide +kernel)]; exact ⟨rfl, rfl⟩))
    (fun os started H enc _ => ranges_lifted os started H enc)
theorem ranges_holds : Rows.AffineRangesSaid := ranges_over
#print axioms ranges_holds
end Go.Proofs.YtomcbkfnbagekaaGreat
