/- A part of the proof that the law of the statement is true of all inputs: VFin4. -/
import Derived.Test.YtomcbkfnbagekaaGreatRows
import Derived.ProofKit
import Derived.Test.YtomcbkfnbagekaaGreatVq
/- The statement on sums: it holds. -/
set_option linter.unusedVariables false
set_option maxRecDepth 100000
namespace Go.Proofs.YtomcbkfnbagekaaGreat
open Go Go.Vm Go.ChangeShapes Go.WideShapes Go.ChangeAt Go.RowKit
theorem sums_calls (a b c d g n : Int) (wa : (Lit.int .i8 a).wf = true) (wb : (Lit.int .i8 b).wf = true) (wc : (Lit.int .i8 c).wf = true) (wd : (Lit.int .i8 d).wf = true) (wg : (Lit.int .u8 g).wf = true) (wn : (Lit.int .u8 n).wf = true) (w : World) :
    Calls Tryz.prog 4 #[.agg #[.int .i8 a, .int .i8 b, .int .i8 c, .int .i8 d], .int .u8 g, .int .u8 n] w fun e w' => e = .returned (.bool true) ∧ Below w.heap.size w w' := by
  obtain ⟨hf, hp⟩ := sums_t a b c d g n (bounds_i8 wa) (bounds_i8 wb) (bounds_i8 wc) (bounds_i8 wd) (bounds_u8 wg).1 (bounds_u8 wn).1
  have h := con4_v a b c d g n _ hf hp
  exact law_calls h (.cons (.agg (.cons (.int _ _) (.cons (.int _ _) (.cons (.int _ _) (.cons (.int _ _) .nil))))) (.cons (.int _ _) (.cons (.int _ _) .nil))) w
theorem sums_own : ownKnob Tryz.prog.godebug = none := by kernel_rfl
theorem sums_laid : laidOutB Tryz.prog = true := by kernel_rfl
theorem okWide_arr {P : Program} {w : World} {r : Reach} {base m : Nat} {t e : TypeId} {v : Value} (ht : P.underlying t = some (.array m e)) (h : Value.okWide P w r base t v) : ∃ cs, v = .agg cs ∧ cs.size = P.cellsOf t := by
  simp only [Value.okWide, ht] at h
  obtain ⟨cs, h1, h2, _⟩ := h
  exact ⟨cs, h1, h2⟩
theorem sums_lifted (os : Os) (started : os.Started) (H : Type) (enc : TypeId × Value → H) :
    ReturnsInHanded {} Tryz.checked os 4 .any (Rows.affineSumsSpec.pre6 enc Tryz.prog Tryz.f4 Rows.affineSumsRow.domain false) (Rows.affineSumsSpec.post enc Tryz.prog Tryz.f4 false true false false) := by
  refine returnsInHanded_of_change (C := Tryz.checked) sums_own started (by kernel_rfl) Tryz.func4
    (ChangeSpec.witness6 (enc := enc) (C := Tryz.checked) false ⟨#[], #[.agg #[.int .i8 0, .int .i8 0, .int .i8 0, .int .i8 0], .int .u8 0, .int .u8 0], []⟩ 8 (by kernel_rfl) (by kernel_rfl) (by kernel_rfl) (by kernel_rfl)) ?_
  intro W base args ds gs before hval0 hW hcnd _
  have hval : ∀ (j : Nat) t v, Tryz.f4.params[j]? = some t → args[j]? = some v → Value.okWide Tryz.prog W .any base t v := hval0
  have hW' := hW
  obtain ⟨p, q, hA0, hV, rfl, hfz, hnd⟩ := hW
  obtain ⟨rfl, rfl⟩ := trodVars_none hV
  simp only [List.append_nil] at hW'
  have hA1 : DataW.TrodAll enc Tryz.prog W 0 (fun _ => true) true Tryz.f4.params.toList args.toList ds p := hA0
  have hA : DataW.TrodAll enc Tryz.prog W 0 (fun _ => true) true Tryz.f4.params.toList args.toList ds p := hA0
  rw [Tryz.params4] at hA hval
  obtain ⟨v0, vs0, d0, ds0, p0, q0, hargs, rfl, rfl, h0, r0⟩ := trodAll_cons hA
  obtain ⟨v1, vs1, d1, ds1, p1, q1, rfl, rfl, rfl, h1, r1⟩ := trodAll_cons r0
  obtain ⟨v2, vs2, d2, ds2, p2, q2, rfl, rfl, rfl, h2, r2⟩ := trodAll_cons r1
  obtain ⟨rfl, rfl, rfl⟩ := trodAll_nil r2
  obtain rfl : args = #[v0, v1, v2] := by cases args; simp_all
  obtain ⟨cs, rfl, hsz⟩ := okWide_arr Tryz.underlying54 (hval 0 54 v0 rfl rfl)
  obtain ⟨g, rfl, rfl, rfl, wg⟩ := open_int Tryz.underlying5 (hval 1 5 v1 rfl rfl) h1
  obtain ⟨n, rfl, rfl, rfl, wn⟩ := open_int Tryz.underlying5 (hval 2 5 v2 rfl rfl) h2
  obtain ⟨fuel, hf⟩ := h0
  have hk := flatT_ok 9 54 [.int .i8, .int .i8, .int .i8, .int .i8] fuel cs.toList _ (by kernel_rfl) hf
  obtain ⟨l⟩ := cs
  have hk : SKs [.int .i8, .int .i8, .int .i8, .int .i8] l := hk
  obtain ⟨u1, l1, rfl, ⟨n1, rfl, w1⟩, hk1⟩ := SKs.uncons hk
  obtain ⟨u2, l2, rfl, ⟨n2, rfl, w2⟩, hk2⟩ := SKs.uncons hk1
  obtain ⟨u3, l3, rfl, ⟨n3, rfl, w3⟩, hk3⟩ := SKs.uncons hk2
  obtain ⟨u4, l4, rfl, ⟨n4, rfl, w4⟩, hk4⟩ := SKs.uncons hk3
  obtain rfl := SKs.unnil hk4
  refine (sums_calls n1 n2 n3 n4 g n w1 w2 w3 w4 wg wn W).mono fun e W' ⟨he, hg⟩ => ?_
  subst he
  exact ⟨_, rfl, law_post (tb := 4) sums_laid hg rfl hW' hA1 (by kernel_rfl) Tryz.underlying4 (by rw [Tryz.params4]; intro t ht; simp at ht; rcases ht with rfl | rfl <;> exact ⟨by kernel_rfl, of_decide_eq_true (by kernel_rfl)⟩) rfl⟩
theorem sums_over : Rows.affineSumsRow.holds Tryz.pinned (OpenSpec.ofChange Rows.affineSumsSpec) :=
  OpenClaim.holds_of_wide 4 Tryz.f4 rfl rfl rfl rfl rfl rfl rfl ⟨rfl, rfl, rfl, rfl, rfl⟩ rfl rfl rfl rfl rfl (by kernel_rfl) Tryz.func4 (by kernel_rfl)
    (of_decide_eq_true (by kernel_rfl)) (by unfold Func.isWrapper; first | (rw [if_pos (by decide +kernel)]; kernel_rfl) | (rw [if_neg (by decide +kernel)]; exact ⟨rfl, rfl⟩))
    (fun os started H enc _ => sums_lifted os started H enc)
theorem sums_holds : Rows.AffineSumsSaid := sums_over
#print axioms sums_holds
end Go.Proofs.YtomcbkfnbagekaaGreat
