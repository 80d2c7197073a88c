/- A part of the proof that the law of the statement is true of all inputs: VmH, VmI, VmJ, VmK, VmL, VmM, VmN, VmO, VmP, VmQ. -/
import Derived.Laws.StructEq
import Derived.Laws.BytesArg
import Derived.Calls
import Derived.Tactics
import Derived.Deep.LoopGhost
import Derived.Scope
import Derived.Test.YtomcbkfnbagekaaGreatVa
/- A generic text: operations, held against the model's (3): new lists, stores. No program. -/
set_option linter.unusedVariables false
set_option linter.unusedSimpArgs false
namespace Go.Vm
open Go
variable {C : Nat → Type}
section
variable {K : Codec C} {P : Program} {ρ ρ' : Ren} {H : AStore C} {w : World}
theorem absorb1_same {k : Option Bool} {v u : V C} {H1 : AStore C} (hv : v.refs1 = []) (h : absorb1 K H k v = some (u, H1)) : u = v ∧ H1 = H := by
  unfold absorb1 at h
  split at h
  · cases h; exact ⟨rfl, rfl⟩
  · simp [V.refs1] at hv
  · cases h; exact ⟨rfl, rfl⟩
  · simp [V.refs1] at hv
  · simp [V.refs1] at hv
  · cases h; exact ⟨rfl, rfl⟩
theorem absorb_same : ∀ {ks : List (Option Bool)} {vs us : List (V C)} {H H1 : AStore C}, (∀ v ∈ vs, v.refs1 = []) → absorb K ks vs H = some (us, H1) → us = vs ∧ H1 = H
  | ks, [], us, H, H1, hv, h => by
    cases ks <;> (simp only [absorb, Option.some.injEq, Prod.mk.injEq] at h; exact ⟨h.1.symm, h.2.symm⟩)
  | [], v :: vs, us, H, H1, hv, h => by simp [absorb] at h
  | k :: ks, v :: vs, us, H, H1, hv, h => by
    simp only [absorb] at h
    split at h
    · rename_i u H2 h1
      split at h
      · rename_i us' H3 h2
        cases h
        obtain ⟨rfl, rfl⟩ := absorb1_same (hv v (by simp)) h1
        obtain ⟨rfl, rfl⟩ := absorb_same (fun x hx => hv x (by simp [hx])) h2
        exact ⟨rfl, rfl⟩
      · cases h
    · cases h
theorem Coes.append : ∀ {a b c d : List (V C)}, Coes K a b → Coes K c d → Coes K (a ++ c) (b ++ d)
  | _, _, _, _, .nil, k => k
  | _, _, _, _, .cons h t, k => .cons h (Coes.append t k)
theorem Coes.replicate {cid : Nat} {z : List (V C)} {x : C cid} (h : Coes K z (K.enc cid x)) : ∀ n, Coes K (List.replicate n z).flatten (K.flat cid (List.replicate n x))
  | 0 => .nil
  | n + 1 => by
    rw [List.replicate_succ, List.replicate_succ, List.flatten_cons, flat_cons]
    exact Coes.append h (Coes.replicate h n)
theorem nils_flatten {α β : Type} (l : List α) : (l.map fun _ => ([] : List β)).flatten = [] := by induction l with | nil => rfl | cons _ _ ih => simp [ih]
end
section
variable {E : Env C} {ρ : Ren} {s : AS C} {a : Act} {w : World} {o : Oper} {u : V C} {H' : AStore C} {cs : List Bool}
theorem makeSlice_sound (hE : EnvOk E) (hF : RelF E.K ρ s a) (hS : RelS E.K E.P ρ s.H w) {t : TypeId} {l c : Operand} (ho : o.op = .makeSlice t l c) (h : aop_makeSlice E s.val t l c s.H = some (u, H', cs)) (hc : Conds cs) (W : Cells) :
    OpRes E.K E.P ρ s.H w (execOp a.eval o) u H' W := by
  unfold aop_makeSlice at h
  split at h
  · rename_i ln cn e _ _ _ _ hl hcn hi
    split at h
    · rename_i ei hei
      split at h
      · rename_i hz0
        have hei' := hE.ti _ _ hei
        obtain ⟨f, z, f1, f2, f3, f4, f5⟩ := hei'.info
        have hzr := (toVal_rel (K := E.K) (ρ := ρ) 99).2 _ _ f5
        have hzref := toVals_refs 99 _ _ f5
        have main : ∀ {ln cn : Int}, 0 ≤ ln → ln ≤ cn → cn * ei.bytes ≤ 281474976710656 → cn ≤ 9223372036854775807 → (Instr.makeSlice t (.int .i64 ln) (.int .i64 cn)).run E.P w = .ok (.slice (some ⟨w.heap.size, 0, none⟩) ln.toNat cn.toNat) (w.alloc (.cells (madeCells z.cells (cn.toNat * ei.size)) e)) := by
          intro ln cn c1 c2 c4 c3
          have hr := run_make (P := E.P) w t e f z (hE.ti _ _ hi).under f1 f4 .i64 .i64 ln cn c1 c2 (by rw [f3, Int.mul_comm]; exact c4) c3
          rw [f2] at hr
          exact hr
        have hval : ∀ {k n} {x : Operand}, s.val x = some (.int k n) → a.eval x = .int k n := fun hx => (val_rel hF hx).int_inv
        have hm : ∀ n, RelL E.K ρ (List.replicate n ei.zero).flatten (madeCells z.cells (n * ei.size)).toList := fun n => by
          have := made_rel (K := E.K) (ρ := ρ) hzr n
          rwa [hz0.1] at this
        have bigl : ∀ n : Int, n * ei.bytes ≤ 281474976710656 → n ≤ 9223372036854775807 := by
          intro n hn
          have hb : (1 : Int) ≤ ei.bytes := by have := hz0.2; omega
          rcases Int.lt_or_le n 0 with h0 | h0
          · omega
          · have := Int.mul_le_mul_of_nonneg_left hb h0
            omega
        split at h
        · simp only [Option.some.injEq, Prod.mk.injEq] at h
          obtain ⟨rfl, rfl, rfl⟩ := h
          obtain ⟨c1, hc⟩ := hc.cons
          obtain ⟨c2, hc⟩ := hc.cons
          obtain ⟨c3, _⟩ := hc.cons
          have c1 : 0 ≤ ln := by simpa using c1
          have c2 : ln ≤ cn := by simpa using c2
          have c3 : cn * ei.bytes ≤ 281474976710656 := by simpa using c3
          refine newRow_res hS (ob := .cells _ e) (q := 0) (cs := madeCells z.cells (cn.toNat * ei.size)) rfl (fun h => (by cases h)) (hm cn.toNat) (v := .slice (some ⟨w.heap.size, 0, none⟩) ln.toNat cn.toNat) ?_ (slice_new hE hei (Ren.setM_same ρ s.H.n _) (by omega) (size_madeCells _ _)) W
          simp only [execOp, ho, hval hl, hval hcn, Sem.run_bind, main c1 c2 c3 (bigl _ c3), Result.andThen_ok, Sem.run_pure]
        · rename_i cid hcid
          obtain ⟨hty, h⟩ := cond_none h
          have hty' := Nat.eq_of_beq_eq_true hty
          split at h
          · rename_i row H1 hab
            obtain ⟨hok, h⟩ := cond_some h
            simp only [Prod.mk.injEq] at h
            obtain ⟨rfl, rfl, rfl⟩ := h
            obtain ⟨c1, hc⟩ := hc.cons
            obtain ⟨c2, hc⟩ := hc.cons
            obtain ⟨c3, _⟩ := hc.cons
            have c1 : 0 ≤ ln := by simpa using c1
            have c2 : ln = cn := by simpa using c2
            have c3 : ln * ei.bytes ≤ 281474976710656 := by simpa using c3
            subst c2
            obtain ⟨rfl, _⟩ := absorb_same hzref hab
            have hcn' := hE.cid _ _ hcid
            have hco := Coes.replicate (hE.codec.okd cid hcn' _ hok) ln.toNat
            have hcs := (RelCs.of_vals (w := w) (hm ln.toNat)).coe hco
            obtain ⟨ρ2, q1, q2, q3⟩ := hS.pushOwn (W := W) (T := Touched ρ W) (q := (List.replicate ln.toNat (E.K.dec cid ei.zero)).length) (cs := madeCells z.cells (ln.toNat * ei.size)) (rows_flat' hcn' (List.replicate ln.toNat (E.K.dec cid ei.zero))) (fun _ => rfl) hcs (fun i v hv => by rwa [Array.getElem?_toList] at hv) (by rw [nils_flatten]; exact Floats.nil) w rfl rfl rfl rfl
            rw [hty', List.length_replicate] at q1
            rw [hty'] at q2 q3
            refine ⟨ρ2, _, _, .slice (some ⟨w.heap.size, 0, none⟩) ln.toNat ln.toNat, ?_, .inl rfl, rsw_new hE hei q1 (Nat.le_refl _) (by rw [size_madeCells]; exact Nat.le_refl _), q2, q3⟩
            simp only [execOp, ho, hval hl, hval hcn, Sem.run_bind, main c1 (Int.le_refl _) c3 (bigl _ c3), Result.andThen_ok, Sem.run_pure]
          · cases h
      · cases h
    · cases h
  · cases h
end
section
variable {K : Codec C} {P : Program} {ρ ρ' : Ren} {H : AStore C} {w : World}
theorem getD_mem {gs : List (List Nat)} {i b : Nat} (hb : b ∈ gs.getD i []) : b ∈ gs.flatten ∧ i < gs.length := by
  simp only [List.getD_eq_getElem?_getD] at hb
  cases hg : gs[i]? with
  | none => rw [hg] at hb; cases hb
  | some g => rw [hg] at hb; exact ⟨List.mem_flatten.2 ⟨g, List.mem_of_getElem? hg, hb⟩, (List.getElem?_eq_some_iff.1 hg).1⟩
theorem getD_uniq : ∀ {l : List (List Nat)}, l.flatten.Nodup → ∀ i i' b, b ∈ l.getD i [] → b ∈ l.getD i' [] → i = i'
  | [], _, i, i', b, hb, _ => by simp at hb
  | g :: l, hn, i, i', b, hb, hb' => by
    rw [List.flatten_cons, List.nodup_append] at hn
    cases i with
    | zero =>
      cases i' with
      | zero => rfl
      | succ i' => exact absurd rfl (hn.2.2 b (by simpa using hb) b (getD_mem (i := i') (by simpa using hb')).1)
    | succ i =>
      cases i' with
      | zero => exact absurd rfl (hn.2.2 b (by simpa using hb') b (getD_mem (i := i) (by simpa using hb)).1)
      | succ i' => rw [getD_uniq hn.2.1 i i' b (by simpa using hb) (by simpa using hb')]
theorem getD_nodup : ∀ {l : List (List Nat)}, l.flatten.Nodup → ∀ i, (l.getD i []).Nodup
  | [], _, i => by simp
  | g :: l, hn, i => by
    rw [List.flatten_cons, List.nodup_append] at hn
    cases i with
    | zero => simpa using hn.1
    | succ i => simpa using getD_nodup hn.2.1 i
/-- cells are written -/
theorem store_at (hS : RelS K P ρ H w) {r b sh k z q off : Nat} {ob ob' : AObj C} {c c' us : List (V C)} {vs : List Value} {gs : List (List Nat)} {t : TypeId} (e : ρ.m r = .to b sh k z q) (hg : H.get r = some ob) (hf : ob.flat K = some (c, t)) (hf' : ob'.flat K = some (c', t)) (hq : ob'.isRows = true → q = ob'.count)
    {W : Cells} {T : Nat → Prop} (hr : RelCs K ρ w us vs gs) (hF : Floats ρ w T gs.flatten) (hfit : off + us.length ≤ c.length) (hlen : c'.length = c.length) (hcc : ∀ (p : Nat) (v : V C), c'[p]? = some v → ∃ u, (putAt c off us)[p]? = some u ∧ Coe K u v) (hone : ∀ v ∈ vs, v.oneCell' = true) (h0 : 0 < us.length)
    (hW : ∀ i, off ≤ i → i < off + us.length → W r i) (hT : T b) :
    ∃ ρ' w', (storeCells ⟨b, sh + off, none⟩ vs).run P w = .ok () w' ∧ RelS K P ρ' (H.upd r ob') w' ∧ Ext ρ ρ' H.n W T w w' := by
  obtain ⟨hl1, hl2⟩ := hr.length
  obtain ⟨_, cs, L⟩ := (hS.blk r b sh k z q ob e hg).lies hf
  have hz := L.size
  have hfz := L.fits
  have hfit' : sh + off + vs.length ≤ cs.size := by omega
  have hrun := run_storeCells_at P b (sh + off) t vs 0 cs w L.heap (by omega) hone
  simp only [Nat.add_zero] at hrun
  have key := hS.write (g := fun i => if off ≤ i ∧ i < off + us.length then gs.getD (i - off) [] else ρ.f r i) (cs' := putV cs (sh + off) vs) (W := W) (T := T) e hg hf hf' hq (by rw [size_putV hfit', hz]) (by omega)
    (fun i b' hb' => ?_) (fun i i' b' h1 h2 => ?_) (fun i => ?_) (fun i v hv => ?_) (fun cs1 h1 i hi => ?_) (fun i hi => ?_) hT (fun i b' hb' => ?_)
  · exact ⟨_, _, hrun, key.1, key.2⟩
  · split at hb'
    · have := (getD_mem hb').1
      exact .inr ⟨hF.free _ this, hF.lt _ this⟩
    · exact .inl hb'
  · split at h1
    · rename_i c1
      split at h2
      · rename_i c2
        have := getD_uniq hF.nod _ _ _ h1 h2
        omega
      · exact absurd h2 (hF.free _ (getD_mem h1).1 (.cell r i'))
    · split at h2
      · exact absurd h1 (hF.free _ (getD_mem h2).1 (.cell r i))
      · have := hS.names.uniq b' (.cell r i) (.cell r i') h1 h2
        cases this; rfl
  · split
    · exact getD_nodup hF.nod _
    · exact hS.names.nod r i
  · obtain ⟨u, h1, h2⟩ := hcc i v hv
    rw [getElem?_putAt hfit] at h1
    rw [getElem?_putV hfit']
    by_cases c1 : off ≤ i ∧ i < off + us.length
    · rw [if_neg (by omega), if_pos c1.2] at h1
      rw [if_neg (by omega), if_pos (by omega), if_pos c1, show sh + i - (sh + off) = i - off by omega]
      obtain ⟨x, g, g1, g2, g3⟩ := hr.get _ _ h1
      have hgd : gs.getD (i - off) [] = g := by simp [List.getD_eq_getElem?_getD, g2]
      rw [hgd]
      exact ⟨x, g1, fun w' hw' => (g3.mono (Ren.le_setF _ _ _) hw').coe h2⟩
    · have h1' : c[i]? = some u := by
        by_cases c2 : i < off
        · rwa [if_pos c2] at h1
        · rwa [if_neg c2, if_neg (by omega)] at h1
      obtain ⟨x, g1, g2⟩ := L.rel i u h1'
      rw [if_neg c1]
      have hx : (if sh + i < sh + off then cs[sh + i]? else if sh + i < sh + off + vs.length then vs[sh + i - (sh + off)]? else cs[sh + i]?) = cs[sh + i]? := by
        by_cases c2 : i < off
        · rw [if_pos (by omega)]
        · rw [if_neg (by omega), if_neg (by omega)]
      rw [hx]
      exact ⟨x, g1, fun w' hw' => (g2.mono (Ren.le_setF _ _ _) hw').coe h2⟩
  · rw [L.heap] at h1; cases h1
    rw [getElem?_putV hfit']
    have : ¬ (off ≤ i ∧ i < off + us.length) := fun hc => hi (hW i hc.1 hc.2)
    by_cases c2 : i < off
    · rw [if_pos (by omega)]
    · rw [if_neg (by omega), if_neg (by omega)]
  · rw [if_neg fun hc => hi (hW i hc.1 hc.2)]
  · split at hb'
    · exact .inr (hF.t _ (getD_mem hb').1)
    · exact .inl hb'
/-- the same object, told again -/
theorem RelS.again (hS : RelS K P ρ H w) {r : Nat} {ob : AObj C} (hg : H.get r = some ob) : RelS K P ρ (H.upd r ob) w := by
  have get : ∀ r' o, (H.upd r ob).get r' = some o → H.get r' = some o := by
    intro r' o h
    rw [AStore.get_upd] at h
    split at h
    · rename_i er; subst er; rw [hg]; exact h
    · exact h
  exact ⟨hS.names, fun r' b s k z q o e g => hS.blk r' b s k z q o e (get _ _ g), fun r' o e g => hS.emp r' o e (get _ _ g), fun r' o e g => hS.dead r' o e (get _ _ g), hS.frz⟩
end
section
variable {E : Env C} {ρ : Ren} {s : AS C} {a : Act} {w : World} {o : Oper} {u : V C} {H' : AStore C} {cs : List Bool}
theorem one_vals {K : Codec C} {us : List (V C)} (h : us.all V.one = true) : ∀ v ∈ us, v.isOwn = false := fun v hv => V.one_own (List.all_eq_true.1 h v hv)
theorem cell1_coe {K : Codec C} {u v : V C} (h : Coe K u v) (hv : v.cell1 = true) : u.cell1 = true := by
  cases h <;> first | exact hv | rfl
theorem RelC.cell1_ {K : Codec C} {u : V C} {v : Value} {g : List Nat} (h : RelC K ρ w u v g) (k : u.cell1 = true) : v.oneCell' = true := by
  cases h with
  | val h => exact h.cell1_ k
  | _ => rfl
theorem store_sound (hE : EnvOk E) (hF : RelF E.K ρ s a) (hS : RelS E.K E.P ρ s.H w) {t : TypeId} {x y : Operand} (ho : o.op = .store t x y) (h : aop_store E s.val t x y s.H = some (u, H', cs)) (hc : Conds cs)
    {W : Cells} (hWp : ∀ r off uu, s.val x = some (.ptr r off) → s.val y = some uu → ∀ i, off ≤ i → i < off + uu.cells.length → W r i) (hWe : ∀ r i' j, s.val x = some (.eptr r i' j) → ∀ i, W r i) (hWr : ∀ r i' j uu, s.val x = some (.eptr r i' j) → s.val y = some uu → ∀ r' ∈ uu.refs, ∀ i, W r' i) :
    OpRes E.K E.P ρ s.H w (execOp a.eval o) u H' W := by
  have exec : ∀ (i : TI C) (q : Addr) (w' : World), E.ti t = some i → a.eval x = .pointer (some q) → (a.eval y).cells.toList.length = i.size → (storeCells q (a.eval y).cells.toList).run E.P w = .ok () w' → (execOp a.eval o).run E.P w = .ok .skip w' := by
    intro i q w' hi hq hlen hrun
    have hm : (storeVar t q (a.eval y)).run E.P w = (storeCells q (a.eval y).cells.toList).run E.P w := by
      unfold storeVar
      simp only [Sem.run_bind, run_sizeOf (hE.ti t i hi), Result.andThen_ok]
      rw [if_neg (by simp only [ne_eq, Decidable.not_not]; rw [← Array.length_toList]; exact hlen)]
    simp only [execOp, ho, Sem.run_bind, Instr.storeAt, hq, Instr.sureAddr, Sem.run_pure, Result.andThen_ok, hm, hrun]
  unfold aop_store at h
  split at h
  · cases h
  · -- cells
    rename_i r off uu i hraw hx hy ht
    split at h
    · rename_i c t' hg
      split at h
      · rename_i hcond
        obtain ⟨hc1, hc2⟩ := hcond
        obtain ⟨hc3, h⟩ := cond_some h
        cases h
        rcases (val_rel hF hx).ptr_inv with ⟨b, sh, k, z, q, e, hv⟩ | ⟨e, _⟩
        · have hR := (val_rel hF hy).cells fun z ez => hraw z ez
          have hlen := hR.length
          have hone := hR.one_ hc3
          by_cases h0 : uu.cells.length = 0
          · have hv0 : (a.eval y).cells.toList = [] := List.length_eq_zero_iff.1 (by omega)
            have hu0 : uu.cells = [] := List.length_eq_zero_iff.1 h0
            have hput : putAt c off uu.cells = c := by rw [hu0]; simp [putAt]
            rw [hput]
            refine ⟨ρ, w, .skip, undef, exec i _ w ht hv (by omega) (by rw [hv0]; rfl), .inr ⟨rfl, rfl⟩, RelV.undef_, hS.again hg, Ext.refl _ _ _ _ _⟩
          · obtain ⟨ρ', w', k1, k2, k3⟩ := store_at (T := Touched ρ W) (W := W) hS e hg (ob' := .cells (putAt c off uu.cells) t') rfl rfl (fun h => (by cases h)) (RelCs.of_vals (w := w) hR) (by rw [nils_flatten]; exact Floats.nil) hc2 (putAt_length hc2) (fun p v hv => ⟨v, hv, .refl v⟩) hone (by omega) (hWp r off uu hx hy) (.inl ⟨r, sh, k, z, q, off, e, hWp r off uu hx hy off (Nat.le_refl _) (by omega)⟩)
            exact ⟨ρ', w', .skip, undef, exec i _ w' ht hv (by omega) k1, .inr ⟨rfl, rfl⟩, RelV.undef_, k2, k3⟩
        · have := hS.dead _ _ e hg; cases this
      · cases h
    · cases h
  · -- a list's element
    rename_i r i' j uu i hraw hx hy ht
    have hR := (val_rel hF hy).cells fun z ez => hraw z ez
    have hlen := hR.length
    split at h
    · rename_i hsz
      split at h
      · rename_i cid0 l0 hg0
        split at h
        · rename_i us H1 hab
          obtain ⟨ρ1, gs, a1, a0, a2, a3, a4, _, _, _⟩ := absorb_ok (w := w) hE.codec _ _ _ _ ρ s.H H1 [] hS hR hab (fun b h => (by cases h)) (W := W) (T := Touched ρ W) (fun v hv r' hr' => hWr r i' j uu hx hy r' (V.refs_cells hv r' hr')) (fun _ h => h)
          split at h
          · rename_i cid l hg
            split at h
            · rename_i hj
              obtain ⟨hok, h⟩ := cond_some h
              cases h
              obtain ⟨c1, _⟩ := hc.cons
              have hi' : i' < l.length := by simpa using c1
              rcases ((val_rel hF hx).mono a2.le).eptr_inv with ⟨b, sh, k, z, q, e, hv⟩ | ⟨e, _⟩
              · obtain ⟨hcid, hf⟩ := rows_flat (a1.blk _ _ _ _ _ _ _ e hg)
                obtain ⟨hq, csr, L⟩ := a1.lies (s := { tm := .nil, sz := 0, H := H1, j := fun _ => .tuple [] }) e hg hf
                have hk : k = E.K.k cid := L.k.trans (hE.codec.size cid hcid).symm
                subst hk
                obtain ⟨gl1, gl2⟩ := a3.length
                have hrl : (rowAt E.K cid l i').length = E.K.k cid := hE.codec.len cid hcid _
                have hput : (putAt (rowAt E.K cid l i') j us).length = E.K.k cid := by rw [putAt_length (by omega), hrl]
                have hco := hE.codec.okd cid hcid _ hok
                have htl : (E.K.flat cid (l.take i')).length = i' * E.K.k cid := by rw [flat_length hE.codec hcid, List.length_take, Nat.min_eq_left (by omega)]
                have hfl := flat_length hE.codec hcid l
                have hle : (i' + 1) * E.K.k cid ≤ l.length * E.K.k cid := Nat.mul_le_mul_right _ hi'
                rw [Nat.add_mul, Nat.one_mul] at hle
                have hsplit := flat_split hE.codec hcid l i' hi'
                have hset := flat_set hE.codec hcid l i' (E.K.dec cid (putAt (rowAt E.K cid l i') j us)) hi'
                have hel : (E.K.enc cid (E.K.dec cid (putAt (rowAt E.K cid l i') j us))).length = E.K.k cid := hE.codec.len cid hcid _
                have hone : ∀ v ∈ (a.eval y).cells.toList, v.oneCell' = true := by
                  intro v hv
                  obtain ⟨m, hm⟩ := List.mem_iff_getElem?.1 hv
                  have hm1 : m < us.length := by rw [gl1]; exact (List.getElem?_eq_some_iff.1 hm).1
                  obtain ⟨x', g, g1, g2, g3⟩ := a3.get m us[m] (List.getElem?_eq_getElem hm1)
                  rw [hm] at g1; cases g1
                  refine g3.cell1_ ?_
                  have hp : (putAt (rowAt E.K cid l i') j us)[j + m]? = some us[m] := by
                    rw [getElem?_putAt (by omega), if_neg (by omega), if_pos (by omega), Nat.add_sub_cancel_left]
                    exact List.getElem?_eq_getElem hm1
                  have hlt : j + m < (E.K.enc cid (E.K.dec cid (putAt (rowAt E.K cid l i') j us))).length := by rw [hel]; omega
                  obtain ⟨u', f1, f2⟩ := hco.get _ _ (List.getElem?_eq_getElem hlt)
                  rw [hp] at f1; cases f1
                  exact cell1_coe f2 (hE.codec.cell cid hcid _ _ (List.getElem_mem hlt))
                by_cases h0 : uu.cells.length = 0
                · -- nothing is written
                  have hv0 : (a.eval y).cells.toList = [] := List.length_eq_zero_iff.1 (by omega)
                  have hu0 : us = [] := List.length_eq_zero_iff.1 (by rw [gl1, hv0]; rfl)
                  subst hu0
                  have hpn : putAt (rowAt E.K cid l i') j [] = rowAt E.K cid l i' := by simp [putAt]
                  rw [hpn] at hco hset ⊢
                  have hwr := a1.write (W := W) (T := Touched ρ W) (g := ρ1.f r) (o' := .rows cid (l.set i' (E.K.dec cid (rowAt E.K cid l i')))) (cs' := csr) e hg hf (rows_flat' hcid _) (fun _ => by simp only [AObj.count, List.length_set]; exact hq rfl) L.size (by rw [flat_length hE.codec hcid, List.length_set, ← hfl]; exact L.fits)
                    (fun _ b' h => .inl h) (fun i1 i2 b' h1 h2 => by have := a1.names.uniq b' (.cell r i1) (.cell r i2) h1 h2; cases this; rfl) (a1.names.nod r) (fun p v hv => by
                      rw [hset] at hv
                      have : ∃ u', (E.K.flat cid l)[p]? = some u' ∧ Coe E.K u' v := by
                        rw [hsplit]
                        rw [List.append_assoc, List.getElem?_append, htl] at hv ⊢
                        by_cases c1 : p < i' * E.K.k cid
                        · rw [if_pos c1] at hv ⊢; exact ⟨v, hv, .refl v⟩
                        · rw [if_neg c1] at hv ⊢
                          rw [List.getElem?_append, hE.codec.len cid hcid] at hv
                          rw [List.getElem?_append, hrl]
                          by_cases c2 : p - i' * E.K.k cid < E.K.k cid
                          · rw [if_pos c2] at hv ⊢
                            exact hco.get _ _ hv
                          · rw [if_neg c2] at hv ⊢; exact ⟨v, hv, .refl v⟩
                      obtain ⟨u', f1, f2⟩ := this
                      obtain ⟨v', f3, f4⟩ := L.rel p u' f1
                      exact ⟨v', f3, fun w' hw' => (f4.mono (Ren.le_setF _ _ _) hw').coe f2⟩) (fun cs1 h1 i hi => by rw [L.heap] at h1; cases h1; rfl) (fun i hi => rfl) (touched_later a1.names a2 (fun _ h => h) b (.inl ⟨r, sh, _, z, q, 0, e, hWe r i' j hx 0⟩)) (fun i b' h => .inl h)
                  rw [setRow_self w b csr _ _ L.heap] at hwr
                  refine ⟨_, w, .skip, undef, exec i _ w ht hv (by omega) (by rw [hv0]; rfl), .inr ⟨rfl, rfl⟩, RelV.undef_, hwr.1, a2.trans hS.names (by rw [a0]; exact Nat.le_refl _) hwr.2 (fun _ _ h => .inl h) (fun _ _ h => h)⟩
                · obtain ⟨ρ', w', k1, k2, k3⟩ := store_at (T := Touched ρ W) (W := W) (off := i' * E.K.k cid + j) a1 e hg (ob' := .rows cid (l.set i' (E.K.dec cid (putAt (rowAt E.K cid l i') j us)))) hf (rows_flat' hcid _) (fun _ => by simp only [AObj.count, List.length_set]; exact hq rfl) a3 a4 (by omega)
                    (by rw [flat_length hE.codec hcid, List.length_set, hfl]) (fun p v hv => by
                      rw [hset] at hv
                      rw [getElem?_putAt (by omega), hsplit]
                      rw [List.append_assoc, List.getElem?_append, htl] at hv ⊢
                      by_cases c1 : p < i' * E.K.k cid
                      · rw [if_pos c1] at hv
                        rw [if_pos (by omega), if_pos c1]; exact ⟨v, hv, .refl v⟩
                      · rw [if_neg c1] at hv
                        rw [List.getElem?_append, hE.codec.len cid hcid] at hv
                        rw [if_neg c1, List.getElem?_append, hrl]
                        by_cases c2 : p - i' * E.K.k cid < E.K.k cid
                        · rw [if_pos c2] at hv
                          obtain ⟨u', f1, f2⟩ := hco.get _ _ hv
                          rw [getElem?_putAt (by omega)] at f1
                          refine ⟨u', ?_, f2⟩
                          rw [if_pos c2]
                          by_cases c3 : p - i' * E.K.k cid < j
                          · rw [if_pos c3] at f1
                            rw [if_pos (by omega)]; exact f1
                          · rw [if_neg c3] at f1
                            rw [if_neg (by omega)]
                            by_cases c4 : p - i' * E.K.k cid < j + us.length
                            · rw [if_pos c4] at f1
                              rw [if_pos (by omega), show p - (i' * E.K.k cid + j) = p - i' * E.K.k cid - j by omega]; exact f1
                            · rw [if_neg c4] at f1
                              rw [if_neg (by omega)]; exact f1
                        · rw [if_neg c2] at hv
                          rw [if_neg c2, if_neg (by omega), if_neg (by omega)]
                          exact ⟨v, hv, .refl v⟩) hone (by omega) (fun i _ _ => hWe r i' j hx i) (touched_later a1.names a2 (fun _ h => h) b (.inl ⟨r, sh, _, z, q, 0, e, hWe r i' j hx 0⟩))
                  rw [← Nat.add_assoc] at k1
                  rw [← Nat.add_assoc] at hv
                  exact ⟨ρ', w', .skip, undef, exec i _ w' ht hv (by omega) k1, .inr ⟨rfl, rfl⟩, RelV.undef_, k2, a2.trans hS.names (by rw [a0]; exact Nat.le_refl _) k3 (fun _ _ h => .inl h) (fun _ _ h => h)⟩
              · have := a1.dead _ _ e hg; cases this
            · cases h
          · cases h
        · cases h
      · -- a row that is open
        rename_i cid l hh row hg
        split at h
        · rename_i hj
          obtain ⟨hone, h⟩ := cond_some h
          cases h
          obtain ⟨c1, _⟩ := hc.cons
          have hi' : i' = hh := Nat.eq_of_beq_eq_true c1
          subst hi'
          rcases (val_rel hF hx).eptr_inv with ⟨b, sh, k, z, q, e, hv⟩ | ⟨e, _⟩
          · obtain ⟨⟨hcid, hi', hrl⟩, hf⟩ := hole_flat (hS.blk _ _ _ _ _ _ _ e hg)
            obtain ⟨hq, csr, L⟩ := hS.lies e hg hf
            have hk : k = E.K.k cid := L.k.trans (hE.codec.size cid hcid).symm
            subst hk
            have htl : (E.K.flat cid (l.take i')).length = i' * E.K.k cid := by rw [flat_length hE.codec hcid, List.length_take, Nat.min_eq_left (by omega)]
            have hf' : (AObj.hole cid l i' (putAt row j uu.cells) : AObj C).flat E.K = some (E.K.flat cid (l.take i') ++ putAt row j uu.cells ++ E.K.flat cid (l.drop (i' + 1)), E.K.ty cid) := if_pos ⟨hcid, hi', by rw [putAt_length hj]; exact hrl⟩
            have hpl := putAt_length hj
            have hcc : ∀ p : Nat, (E.K.flat cid (l.take i') ++ putAt row j uu.cells ++ E.K.flat cid (l.drop (i' + 1)))[p]? = (putAt (E.K.flat cid (l.take i') ++ row ++ E.K.flat cid (l.drop (i' + 1))) (i' * E.K.k cid + j) uu.cells)[p]? := by
              intro p
              rw [getElem?_putAt (by simp only [List.length_append, htl]; omega)]
              simp only [List.append_assoc, List.getElem?_append, htl, hpl]
              by_cases c1 : p < i' * E.K.k cid
              · rw [if_pos c1, if_pos (show p < i' * E.K.k cid + j by omega), if_pos c1]
              · simp only [if_neg c1]
                by_cases c2 : p - i' * E.K.k cid < row.length
                · simp only [if_pos c2]
                  rw [getElem?_putAt hj]
                  by_cases c3 : p - i' * E.K.k cid < j
                  · rw [if_pos c3, if_pos (show p < i' * E.K.k cid + j by omega)]
                  · rw [if_neg c3, if_neg (show ¬ p < i' * E.K.k cid + j by omega)]
                    by_cases c4 : p - i' * E.K.k cid < j + uu.cells.length
                    · rw [if_pos c4, if_pos (show p < i' * E.K.k cid + j + uu.cells.length by omega), show p - (i' * E.K.k cid + j) = p - i' * E.K.k cid - j by omega]
                    · rw [if_neg c4, if_neg (show ¬ p < i' * E.K.k cid + j + uu.cells.length by omega)]
                · simp only [if_neg c2]
                  rw [if_neg (show ¬ p < i' * E.K.k cid + j by omega), if_neg (show ¬ p < i' * E.K.k cid + j + uu.cells.length by omega)]
            by_cases h0 : uu.cells.length = 0
            · have hv0 : (a.eval y).cells.toList = [] := List.length_eq_zero_iff.1 (by omega)
              have hu0 : uu.cells = [] := List.length_eq_zero_iff.1 h0
              have hput : putAt row j uu.cells = row := by rw [hu0]; simp [putAt]
              rw [hput]
              exact ⟨ρ, w, .skip, undef, exec i _ w ht hv (by omega) (by rw [hv0]; rfl), .inr ⟨rfl, rfl⟩, RelV.undef_, hS.again hg, Ext.refl _ _ _ _ _⟩
            · obtain ⟨ρ', w', k1, k2, k3⟩ := store_at (T := Touched ρ W) (W := W) (off := i' * E.K.k cid + j) hS e hg (ob' := .hole cid l i' (putAt row j uu.cells)) hf hf' (fun _ => hq rfl) (RelCs.of_vals (w := w) hR) (by rw [nils_flatten]; exact Floats.nil) (by simp only [List.length_append, htl]; omega) (by simp only [List.length_append, hpl]) (fun p v hv => ⟨v, by rw [← hcc]; exact hv, .refl v⟩) (hR.one_ hone) (by omega) (fun i _ _ => hWe r i' j hx i) (.inl ⟨r, sh, _, z, q, 0, e, hWe r i' j hx 0⟩)
              rw [← Nat.add_assoc] at k1
              rw [← Nat.add_assoc] at hv
              exact ⟨ρ', w', .skip, undef, exec i _ w' ht hv (by omega) k1, .inr ⟨rfl, rfl⟩, RelV.undef_, k2, k3⟩
          · have := hS.dead _ _ e hg; cases this
        · cases h
      · cases h
    · cases h
  · cases h
end
end Go.Vm
/- A generic text: operations, held against the model's (4): slices, comparisons, numbers. No program. -/
set_option linter.unusedVariables false
set_option linter.unusedSimpArgs false
namespace Go.Vm
open Go
variable {C : Nat → Type}
section
variable {E : Env C} {ρ : Ren} {s : AS C} {a : Act} {w : World} {o : Oper} {u : V C} {H' : AStore C} {cs : List Bool}
theorem Conds.app {l m : List Bool} (h : Conds (l ++ m)) : Conds l ∧ Conds m := ⟨fun b hb => h b (by simp [hb]), fun b hb => h b (by simp [hb])⟩
theorem bound_run (hF : RelF E.K ρ s a) {P : Program} {x : Option Operand} {m : Option Int} (h : bound s.val x = some m) (y : Nat) (code : BoundsCode) :
    (x.map a.eval = none ∧ m = none) ∨ (∃ v n, x.map a.eval = some v ∧ m = some n ∧ (0 ≤ n → n ≤ (y : Int) → (Instr.sliceBound v y code).run P w = .ok n.toNat w)) := by
  unfold bound at h
  split at h
  · cases h; exact .inl ⟨rfl, rfl⟩
  · rename_i x
    split at h
    · rename_i k n hx
      cases h
      refine .inr ⟨_, _, rfl, rfl, fun h0 hy => ?_⟩
      rw [(val_rel hF hx).int_inv]
      simp only [Instr.sliceBound, asIntOf, Sem.run_bind, Sem.run_pure, Result.andThen_ok]
      rw [if_pos ⟨h0, by omega⟩]
      rfl
    · cases h
theorem sliceBounds_run (hF : RelF E.K ρ s a) {P : Program} {lo hi : Option Operand} {l? h? : Option Int} (hl : bound s.val lo = some l?) (hh : bound s.val hi = some h?) (b : Bool) (n c : Nat)
    (k0 : 0 ≤ l?.getD 0) (k1 : h?.isSome = true → h?.getD n ≤ (c : Int)) (k2 : l?.getD 0 ≤ h?.getD n) :
    (Instr.sliceBounds b n c (lo.map a.eval) (hi.map a.eval) none).run P w = .ok ((l?.getD 0).toNat, (h?.getD n).toNat, c) w := by
  unfold Instr.sliceBounds
  rcases bound_run (P := P) (w := w) hF hh c (if b then .sliceAcap else .sliceAlen) with ⟨e2, rfl⟩ | ⟨vh, nh, e2, rfl, r2⟩
  · rcases bound_run (P := P) (w := w) hF hl n .sliceB with ⟨e3, rfl⟩ | ⟨vl, nl, e3, rfl, r3⟩
    · simp [e2, e3]
    · have := r3 k0 k2
      simp [e2, e3, this]
  · have h2 := r2 (Int.le_trans k0 k2) (k1 rfl)
    have hnn : 0 ≤ nh := Int.le_trans k0 k2
    rcases bound_run (P := P) (w := w) hF hl nh.toNat .sliceB with ⟨e3, rfl⟩ | ⟨vl, nl, e3, rfl, r3⟩
    · simp [e2, e3, h2]
    · have := r3 k0 (by have : nl ≤ nh := k2; omega)
      simp [e2, e3, this, h2]
theorem flat_cut {K : Codec C} {P : Program} (hK : CodecOk P K) {cid : Nat} (hc : cid < K.n) (l : List (C cid)) (o n : Nat) : K.flat cid (cut l o n) = ((K.flat cid l).drop (o * K.k cid)).take (n * K.k cid) := by
  unfold cut
  rw [flat_drop hK hc, flat_take hK hc]
theorem window_cut {cs : Array Value} {b m n o : Nat} (h : o + n ≤ m) : (((cs.toList.drop b).take m).drop o).take n = (cs.toList.drop (b + o)).take n := by
  rw [List.drop_take, List.take_take, List.drop_drop, Nat.min_eq_left (by omega)]
/-- a part of a frozen list -/
theorem fz_cut (hE : EnvOk E) {nn : Bool} {cid : Nat} {ls : List (C cid)} {q : Option Addr} {m c' : Nat} (h : RelV E.K ρ (.fz nn cid ls) (.slice q m c')) {l n : Nat} {size : Nat} (hs : cid < E.K.n → size = E.K.k cid) (hln : l + n ≤ ls.length) :
    RelV E.K ρ (.fz nn cid (cut ls l n)) (.slice (if c' = l then q else q.map (·.add (l * size))) n (c' - l)) := by
  have hcl : (cut ls l n).length = n := by unfold cut; rw [List.length_take, List.length_drop]; omega
  have hempty : n = 0 → cut ls l n = [] := fun h => List.length_eq_zero_iff.1 (by rw [hcl, h])
  cases h with
  | fz p1 p2 p3 p4 p5 p6 p7 p8 =>
    rename_i b sh csr us vs
    subst p6 p7 p8
    have hs' := hs p2
    subst hs'
    by_cases hc : c' = l
    · have hn0 : n = 0 := by omega
      rw [if_pos hc, hempty hn0, hn0]
      exact .fzEmp _ _ _ _
    · rw [if_neg hc, Option.map_some, Addr.add_lit]
      have hm : (c' - l) * E.K.k cid + l * E.K.k cid = c' * E.K.k cid := by rw [← Nat.add_mul]; congr 1; omega
      have hlen : l * E.K.k cid + n * E.K.k cid ≤ ls.length * E.K.k cid := by rw [← Nat.add_mul]; exact Nat.mul_le_mul_right _ hln
      refine .fz (us := E.K.flat cid (cut ls l n)) (vs := (csr.toList.drop (sh + l * E.K.k cid)).take (n * E.K.k cid)) p1 p2 (by omega) (by omega) ?_ rfl rfl hcl.symm
      have := (p5.drop (l * E.K.k cid)).take (n * E.K.k cid)
      rw [window_cut hlen, ← flat_cut hE.codec p2] at this
      exact this
  | fzEmp =>
    have hl0 : l = 0 := by simp at hln; omega
    have hn0 : n = 0 := by simp at hln; omega
    subst hl0 hn0
    rw [hempty rfl]
    by_cases hc : c' = 0
    · rw [if_pos hc]; exact .fzEmp _ _ _ _
    · rw [if_neg hc]; exact .fzEmp _ _ _ _
  | fzNil =>
    have hl0 : l = 0 := by simp at hln; omega
    have hn0 : n = 0 := by simp at hln; omega
    subst hl0 hn0
    rw [hempty rfl]
    exact .fzNil _
theorem lcond_spec {l? : Option Int} {m : List Bool} (hc : Conds (lcond l? ++ m)) : 0 ≤ l?.getD 0 ∧ Conds m := by
  obtain ⟨c1, c2⟩ := hc.app
  refine ⟨?_, c2⟩
  cases l? with
  | none => exact Int.le_refl 0
  | some l => simpa [lcond] using c1.cons.1
theorem slice_sound (hE : EnvOk E) (hF : RelF E.K ρ s a) (hS : RelS E.K E.P ρ s.H w) {t : TypeId} {x : Operand} {lo hi mx : Option Operand} (ho : o.op = .slice t x lo hi mx) (h : aop_slice E s.val o t x lo hi mx s.H = some (u, H', cs)) (hc : Conds cs) :
    OpPure E.K E.P ρ s.H w (execOp a.eval o) u H' := by
  unfold aop_slice at h
  split at h
  · rename_i e _ _ _ _ xv l? h? ht hx hl hh
    split at h
    · rename_i ei hei
      have hu := (hE.ti _ _ ht).under
      have e1 : (Go.underlying t).run E.P w = .ok (.slice e) w := run_underlying hu w
      have hv := val_rel hF hx
      have hei' := hE.ti _ _ hei
      have hrun : ∀ (q : Option Addr) (n c' : Nat), 0 ≤ l?.getD 0 → (h?.isSome = true → h?.getD n ≤ (c' : Int)) → l?.getD 0 ≤ h?.getD n → a.eval x = .slice q n c' → (execOp a.eval o).run E.P w = .ok (.value (.slice (if c' = (l?.getD 0).toNat then q else q.map (·.add ((l?.getD 0).toNat * ei.size))) ((h?.getD n).toNat - (l?.getD 0).toNat) (c' - (l?.getD 0).toNat))) w := by
        intro q n c' k0 k1 k2 hq
        have hb := sliceBounds_run (P := E.P) (w := w) hF hl hh true n c' k0 k1 k2
        simp only [execOp, ho, Instr.sliceAt, Instr.slice, Sem.run_bind, e1, Result.andThen_ok, hq, hb, run_sizeOf hei', Sem.run_pure, Option.map_none]
      unfold aslice at h
      split at h
      · -- a slice of cells
        rename_i r off n c
        split at h
        · rename_i c0 t' hg
          obtain ⟨hte, h⟩ := cond_some h
          have hte := Nat.eq_of_beq_eq_true hte
          cases h
          obtain ⟨k0, hc⟩ := lcond_spec hc
          obtain ⟨c1, hc⟩ := hc.cons
          obtain ⟨c2, hc⟩ := hc.cons
          obtain ⟨c3, _⟩ := hc.cons
          have c1 : l?.getD 0 ≤ h?.getD n := by simpa using c1
          have c2 : h?.getD n ≤ (c : Int) := by simpa using c2
          generalize hev : a.eval x = v at hv
          cases hv with
          | sl q p1 p2 p3 =>
            rename_i b sh k z q' c'
            obtain ⟨_, csr, L⟩ := hS.lies q hg (c := c0) (t := t') rfl
            have hk : k = ei.size := L.k.trans (by rw [hte]; exact hE.size hei)
            subst hk
            refine OpPure.mk_ (hrun _ _ _ k0 (by intro _; omega) c1 hev) ?_
            by_cases hml : c' = (l?.getD 0).toNat
            · rw [if_pos hml]
              have z1 : (h?.getD n).toNat - (l?.getD 0).toNat = 0 := by omega
              have z2 : c - (l?.getD 0).toNat = 0 := by omega
              have z3 : c' - (l?.getD 0).toNat = 0 := by omega
              rw [z1, z2, z3]
              exact .slEmp _ _ _
            · rw [if_neg hml, Option.map_some, Addr.add_lit, Nat.add_assoc]
              have m1 : (c' - (l?.getD 0).toNat) * ei.size + (l?.getD 0).toNat * ei.size = c' * ei.size := by rw [← Nat.add_mul]; congr 1; omega
              exact .sl q (by omega) (by omega) (by omega)
          | slDead q => have := hS.dead _ _ q hg; cases this
          | slEmp =>
            have h0 : (l?.getD 0).toNat = 0 := by omega
            have h1 : (h?.getD ((0 : Nat) : Int)).toNat = 0 := by omega
            have := hrun _ _ _ k0 (by intro _; omega) c1 hev
            rw [h1, h0] at this ⊢
            refine OpPure.mk_ this ?_
            split <;> exact .slEmp _ _ _
        · cases h
      · -- a whole list
        rename_i r
        split at h
        · rename_i cid ls hg
          obtain ⟨hty, h⟩ := cond_some h
          have hty := Nat.eq_of_beq_eq_true hty
          cases h
          obtain ⟨k0, hc⟩ := lcond_spec hc
          obtain ⟨c1, hc⟩ := hc.cons
          obtain ⟨c2, _⟩ := hc.cons
          have c1 : l?.getD 0 ≤ h?.getD (ls.length : Int) := by simpa using c1
          have c2 : h?.getD (ls.length : Int) ≤ (ls.length : Int) := by simpa using c2
          generalize hev : a.eval x = v at hv
          cases hv with
          | rsw q p1 p2 =>
            rename_i b sh k z q' c'
            have hB := hS.blk _ _ _ _ _ _ _ q hg
            obtain ⟨hcid, hf⟩ := rows_flat hB
            obtain ⟨h1, csr, L⟩ := hB.lies hf
            have hq : q' = ls.length := h1 rfl
            subst hq
            have hk : k = ei.size := L.k.trans (by rw [hty]; exact hE.size hei)
            subst hk
            refine OpPure.mk_ (hrun _ _ _ k0 (by intro _; omega) c1 hev) ?_
            by_cases hml : c' = (l?.getD 0).toNat
            · rw [if_pos hml]
              have z1 : (h?.getD (ls.length : Int)).toNat - (l?.getD 0).toNat = 0 := by omega
              have z2 : ls.length - (l?.getD 0).toNat = 0 := by omega
              have z3 : c' - (l?.getD 0).toNat = 0 := by omega
              rw [z1, z2, z3]
              exact .rslEmp _ _ _
            · rw [if_neg hml, Option.map_some, Addr.add_lit]
              have m1 : ((l?.getD 0).toNat + (c' - (l?.getD 0).toNat)) * ei.size = c' * ei.size := by congr 1; omega
              exact .rsl q (by omega) (by omega) (by omega) (by omega)
          | rswDead q => have := hS.dead _ _ q hg; cases this
          | rswEmp q =>
            rename_i ad
            obtain ⟨cid', _, h1⟩ := hS.emp _ _ q hg
            injection h1 with e1 e2
            subst e1
            cases e2
            simp only [List.length_nil] at c1 c2 ⊢
            have h0 : (l?.getD 0).toNat = 0 := by omega
            have h1 : (h?.getD ((0 : Nat) : Int)).toNat = 0 := by omega
            have := hrun _ _ _ k0 (by intro _; omega) c1 hev
            rw [h1, h0] at this ⊢
            refine OpPure.mk_ this ?_
            rw [if_pos rfl]
            cases ad with
            | none => exact .rslNil _ _
            | some ad => exact .rslEmp _ _ _
        · cases h
      · -- a part of a list
        rename_i r off n c
        split at h
        · rename_i cid ls hg
          obtain ⟨hty, h⟩ := cond_some h
          have hty := Nat.eq_of_beq_eq_true hty
          cases h
          obtain ⟨k0, hc⟩ := lcond_spec hc
          obtain ⟨c1, hc⟩ := hc.cons
          obtain ⟨c2, hc⟩ := hc.cons
          have c1 : l?.getD 0 ≤ h?.getD n := by simpa using c1
          have c2 : h?.getD n ≤ (c : Int) := by simpa using c2
          generalize hev : a.eval x = v at hv
          have zero : c = 0 → n = 0 → (l?.getD 0).toNat = 0 ∧ (h?.getD (n : Int)).toNat = 0 := by intro e1 e2; subst e1 e2; omega
          cases hv with
          | rsl q p1 p2 p3 p4 =>
            rename_i b sh k z q' c'
            have hB := hS.blk _ _ _ _ _ _ _ q hg
            obtain ⟨hcid, hf⟩ := rows_flat hB
            obtain ⟨h1, csr, L⟩ := hB.lies hf
            have hk : k = ei.size := L.k.trans (by rw [hty]; exact hE.size hei)
            subst hk
            refine OpPure.mk_ (hrun _ _ _ k0 (by intro _; omega) c1 hev) ?_
            by_cases hml : c' = (l?.getD 0).toNat
            · rw [if_pos hml]
              have z1 : (h?.getD n).toNat - (l?.getD 0).toNat = 0 := by omega
              have z2 : c - (l?.getD 0).toNat = 0 := by omega
              have z3 : c' - (l?.getD 0).toNat = 0 := by omega
              rw [z1, z2, z3]
              exact .rslEmp _ _ _
            · rw [if_neg hml, Option.map_some, Addr.add_lit]
              have m1 : ((l?.getD 0).toNat + off + (c' - (l?.getD 0).toNat)) * ei.size = (off + c') * ei.size := by congr 1; omega
              have m2 : sh + off * ei.size + (l?.getD 0).toNat * ei.size = sh + ((l?.getD 0).toNat + off) * ei.size := by rw [Nat.add_mul]; omega
              rw [m2]
              exact .rsl q (by omega) (by omega) (by omega) (by omega)
          | rslDead q => have := hS.dead _ _ q hg; cases this
          | rslEmp =>
            obtain ⟨h0, h1⟩ := zero rfl rfl
            have := hrun _ _ _ k0 (by intro _; omega) c1 hev
            rw [h1, h0] at this ⊢
            refine OpPure.mk_ this ?_
            split <;> exact .rslEmp _ _ _
          | rslNil =>
            obtain ⟨h0, h1⟩ := zero rfl rfl
            have := hrun _ _ _ k0 (by intro _; omega) c1 hev
            rw [h1, h0] at this ⊢
            refine OpPure.mk_ this ?_
            rw [if_pos rfl]; exact .rslNil _ _
        · cases h
      · -- a frozen list
        rename_i nn cid ls
        obtain ⟨hty, h⟩ := cond_none h
        have hty := Nat.eq_of_beq_eq_true hty
        have hsz : cid < E.K.n → ei.size = E.K.k cid := fun hcid => by rw [hE.codec.size cid hcid, hty, hE.size hei]
        have hshape : ∃ q c', ls.length ≤ c' ∧ a.eval x = .slice q ls.length c' := by
          generalize hev : a.eval x = v at hv
          cases hv with
          | fz p1 p2 p3 p4 p5 p6 p7 p8 => subst p8; exact ⟨_, _, p3, rfl⟩
          | fzEmp => exact ⟨_, _, Nat.zero_le _, rfl⟩
          | fzNil => exact ⟨_, _, Nat.zero_le _, rfl⟩
        obtain ⟨q, c', hcc, hev⟩ := hshape
        rw [hev] at hv
        split at h
        · rename_i hh' ll _
          cases h
          obtain ⟨c0, hc⟩ := hc.cons
          obtain ⟨c1, hc⟩ := hc.cons
          obtain ⟨c2, hc⟩ := hc.cons
          have c0 : 0 ≤ ll := by simpa using c0
          have c1 : ll ≤ hh' := by simpa using c1
          have c2 : hh' ≤ (ls.length : Int) := by simpa using c2
          exact OpPure.mk_ (hrun _ _ _ c0 (by intro _; show hh' ≤ (c' : Int); omega) c1 hev) (fz_cut hE hv hsz (by show ll.toNat + (hh'.toNat - ll.toNat) ≤ _; omega))
        · rename_i hh' _
          cases h
          obtain ⟨c1, hc⟩ := hc.cons
          obtain ⟨c2, hc⟩ := hc.cons
          have c1 : 0 ≤ hh' := by simpa using c1
          have c2 : hh' ≤ (ls.length : Int) := by simpa using c2
          have := fz_cut hE hv hsz (l := 0) (n := hh'.toNat) (by omega)
          have e0 : cut ls 0 hh'.toNat = ls.take hh'.toNat := by simp [cut]
          rw [e0] at this
          exact OpPure.mk_ (hrun _ _ _ (Int.le_refl _) (by intro _; show hh' ≤ (c' : Int); omega) c1 hev) (by simpa using this)
        · rename_i ll _
          cases h
          obtain ⟨c0, hc⟩ := hc.cons
          obtain ⟨c1, hc⟩ := hc.cons
          have c0 : 0 ≤ ll := by simpa using c0
          have c1 : ll ≤ (ls.length : Int) := by simpa using c1
          have := fz_cut hE hv hsz (l := ll.toNat) (n := ls.length - ll.toNat) (by omega)
          have e0 : cut ls ll.toNat (ls.length - ll.toNat) = ls.drop ll.toNat := by
            unfold cut; rw [List.take_of_length_le (by rw [List.length_drop]; exact Nat.le_refl _)]
          rw [e0] at this
          refine OpPure.mk_ (hrun _ _ _ c0 (by intro h; cases h) c1 hev) ?_
          simpa using this
        · obtain ⟨rfl, rfl⟩ := some__inj h
          have := hrun _ _ _ (Int.le_refl _) (by intro h; cases h) (by simp) hev
          refine OpPure.mk_ this ?_
          have := fz_cut hE hv hsz (l := 0) (n := ls.length) (by omega)
          have e0 : cut ls 0 ls.length = ls := by simp [cut]
          rw [e0] at this
          simpa using this
      · -- nil
        cases h
        obtain ⟨k0, hc⟩ := lcond_spec hc
        obtain ⟨c1, hc⟩ := hc.cons
        obtain ⟨c2, _⟩ := hc.cons
        have c1 : l?.getD 0 ≤ h?.getD 0 := by simpa using c1
        have c2 : h?.getD 0 ≤ 0 := by simpa using c2
        generalize hev : a.eval x = v at hv
        cases hv
        have h0 : (l?.getD 0).toNat = 0 := by omega
        have h1 : (h?.getD ((0 : Nat) : Int)).toNat = 0 := by have : h?.getD ((0 : Nat) : Int) = h?.getD 0 := rfl; omega
        have := hrun none 0 0 k0 (by intro _; exact c2) c1 hev
        rw [h1, h0] at this
        refine OpPure.mk_ this ?_
        rw [if_pos rfl]; exact .nilSl
      · cases h
    · cases h
  · exact plain_sound hF h

/-! ### binary operators -/
theorem ibin2_run {op : BinOp} {k : IntKind} {x y : Int} {P : Program} (h : ibin2 op k x y = some (u, cs)) (hc : Conds cs) (t : TypeId) : ∃ v, (Go.binOp op t (.int k x) (.int k y)).run P w = .ok v w ∧ RelV E.K ρ u v := by
  cases op <;> simp only [ibin2] at h <;> first
    | (simp only [Option.some.injEq, Prod.mk.injEq] at h; obtain ⟨rfl, rfl⟩ := h; refine ⟨_, by simp [Go.binOp, Op.intArith, Op.intBits, Op.intCmp, wr_eq]; rfl, ?_⟩; first | exact .int _ _ | exact .bool _ | (simp only [wr_eq]; exact .int _ _))
    | (simp only [Option.some.injEq, Prod.mk.injEq] at h
       obtain ⟨rfl, rfl⟩ := h
       have h0 : y ≠ 0 := by have := hc.cons.1; simpa using this
       refine ⟨_, by simp [Go.binOp, Op.intDiv, h0, wr_eq]; rfl, ?_⟩
       first | exact .int _ _ | (simp only [wr_eq]; exact .int _ _))
    | cases h
theorem ibin_run {op : BinOp} {k k' : IntKind} {x y : Int} {P : Program} (h : ibin op k x k' y = some (u, cs)) (hc : Conds cs) (t : TypeId) : ∃ v, (Go.binOp op t (.int k x) (.int k' y)).run P w = .ok v w ∧ RelV E.K ρ u v := by
  have h2 : ∀ n : Nat, (2 : Int) ^ n = Int.ofNat (Nat.pow 2 n) := fun n => by
    show (2 : Int) ^ n = ((2 ^ n : Nat) : Int)
    rw [Int.natCast_pow]; rfl
  cases op <;> simp only [ibin] at h
  case shl =>
    simp only [Option.some.injEq, Prod.mk.injEq] at h
    obtain ⟨rfl, rfl⟩ := h
    have h0 : 0 ≤ y := by simpa using hc.cons.1
    refine ⟨_, ?_, .int _ _⟩
    simp only [Go.binOp, Op.shift]
    rw [if_neg (by omega), show pow2 k y = (2 : Int) ^ min y.toNat k.bits from (h2 _).symm, wr_eq]
    rfl
  case shr =>
    simp only [Option.some.injEq, Prod.mk.injEq] at h
    obtain ⟨rfl, rfl⟩ := h
    have h0 : 0 ≤ y := by simpa using hc.cons.1
    refine ⟨_, ?_, .int _ _⟩
    simp only [Go.binOp, Op.shift]
    rw [if_neg (by omega), show pow2 k y = (2 : Int) ^ min y.toNat k.bits from (h2 _).symm]
    rfl
  all_goals
    obtain ⟨hk, h'⟩ := cond_none h
    have := sameKind_eq hk
    subst this
    exact ibin2_run h' hc t
theorem scalarEq_rel {K : Codec C} {k : CK} {x y : V C} {x' y' : Value} {b : Bool} (h : scalarEq k x y = some b) (hx : RelV K ρ x x') (hy : RelV K ρ y y') : scalarEqV k x' y' = some b := by
  unfold scalarEq at h
  split at h
  · rw [hx.int_inv, hy.int_inv]; exact h
  · rw [hx.bool_inv, hy.bool_inv]; exact h
  · cases hx; cases hy; exact h
  · cases h
theorem cellsEq_rel {K : Codec C} : ∀ {ks : List CK} {xs ys : List (V C)} {xs' ys' : List Value} {b : Bool}, cellsEq ks xs ys = some b → RelL K ρ xs xs' → RelL K ρ ys ys' → cellsEqV ks xs' ys' = some b
  | [], [], [], _, _, b, h, .nil, .nil => h
  | [], _ :: _, _, _, _, b, h, _, _ => by simp [cellsEq] at h
  | [], [], _ :: _, _, _, b, h, _, _ => by simp [cellsEq] at h
  | k :: ks, [], _, _, _, b, h, _, _ => by simp [cellsEq] at h
  | k :: ks, _ :: _, [], _, _, b, h, _, _ => by simp [cellsEq] at h
  | k :: ks, x :: xs, y :: ys, _, _, b, h, .cons hx hxs, .cons hy hys => by
    simp only [cellsEq] at h
    split at h
    · rename_i b1 b2 e1 e2
      cases h
      simp only [cellsEqV, scalarEq_rel e1 hx hy, cellsEq_rel e2 hxs hys]
    · cases h
theorem run_eql_nil {P : Program} {t e : TypeId} (e1 : (Go.underlying t).run P w = .ok (.slice e) w) (ad : Option Addr) (n c : Nat) : (Op.equalIn (9999 + 1) t (.slice ad n c) (.slice none 0 0)).run P w = .ok ad.isNone w := by
  unfold Op.equalIn
  cases ad <;> simp only [Sem.run_bind, e1, Result.andThen_ok, Sem.run_pure] <;> rfl
theorem binOp_sound (hE : EnvOk E) (hF : RelF E.K ρ s a) {op : BinOp} {t : TypeId} {x y : Operand} {q : _} (ho : o.op = .binOp op t x y q) (h : aop_binOp E s.val o op t x y s.H = some (u, H', cs)) (hc : Conds cs) :
    OpPure E.K E.P ρ s.H w (execOp a.eval o) u H' := by
  unfold aop_binOp at h
  split at h
  · rename_i k n k' m hx hy
    cases hv : ibin (C := C) op k n k' m with
    | none => rw [hv] at h; cases h
    | some p =>
      rw [hv] at h
      obtain ⟨p1, p2⟩ := p
      simp only [Option.map_some, Option.some.injEq, Prod.mk.injEq] at h
      obtain ⟨rfl, rfl, rfl⟩ := h
      obtain ⟨v, hr, hR⟩ := ibin_run (w := w) (E := E) (ρ := ρ) (P := E.P) hv hc t
      refine OpPure.mk_ ?_ hR
      have hg : (eqGuard op t x y (.int k n) (.int k' m)).run E.P w = .ok () w := by cases op <;> simp [eqGuard]
      simp only [execOp, ho, (val_rel hF hx).int_inv, (val_rel hF hy).int_inv, Sem.run_bind, hg, hr, Result.andThen_ok, Sem.run_pure]
  · rename_i xs ys hx hy
    obtain ⟨xs', hex, hxl⟩ := (val_rel hF hx).agg_inv
    obtain ⟨ys', hey, hyl⟩ := (val_rel hF hy).agg_inv
    split at h
    · rename_i ks ht
      obtain ⟨b, hcb, h⟩ := Option.bind_eq_some_iff.1 h
      obtain ⟨rfl, rfl⟩ := some__inj h
      have hT := hE.ti _ _ ht
      have hfl := hT.flat _ rfl w xs' ys' b (cellsEq_rel hcb hxl hyl)
      refine OpPure.mk_ (v := .bool b) ?_ (.bool _)
      have hg := run_eqGuard_agg (P := E.P) w .eql t x y ⟨xs'⟩ ⟨ys'⟩ (hT.guard _ rfl)
      have he : (Go.binOp .eql t (.agg ⟨xs'⟩) (.agg ⟨ys'⟩)).run E.P w = .ok (.bool b) w := by
        simp only [Go.binOp, Sem.run_bind, hfl, Result.andThen_ok, Sem.run_pure]
      simp only [execOp, ho, hex, hey, Sem.run_bind, hg, he, Result.andThen_ok, Sem.run_pure]
    · rename_i ks ht
      obtain ⟨b, hcb, h⟩ := Option.bind_eq_some_iff.1 h
      obtain ⟨rfl, rfl⟩ := some__inj h
      have hT := hE.ti _ _ ht
      have hfl := hT.flat _ rfl w xs' ys' b (cellsEq_rel hcb hxl hyl)
      refine OpPure.mk_ (v := .bool !b) ?_ (.bool _)
      have hg := run_eqGuard_agg (P := E.P) w .neq t x y ⟨xs'⟩ ⟨ys'⟩ (hT.guard _ rfl)
      have he : (Go.binOp .neq t (.agg ⟨xs'⟩) (.agg ⟨ys'⟩)).run E.P w = .ok (.bool !b) w := by
        simp only [Go.binOp, Sem.run_bind, hfl, Result.andThen_ok, Sem.run_pure]
      simp only [execOp, ho, hex, hey, Sem.run_bind, hg, he, Result.andThen_ok, Sem.run_pure]
    · exact plain_sound hF h
  · rename_i xv hx hy
    have hxv := val_rel hF hx
    have hey : a.eval y = .slice none 0 0 := by
      have := val_rel hF hy
      generalize a.eval y = v at this
      cases this; rfl
    have shape : ∀ b, isNilSl xv = some b → ∃ ad n c, a.eval x = .slice ad n c ∧ ad.isNone = b := by
      intro b hb
      generalize a.eval x = v at hxv
      unfold isNilSl at hb
      split at hb
      · cases hb; cases hxv; exact ⟨_, _, _, rfl, rfl⟩
      · cases hb; cases hxv <;> exact ⟨_, _, _, rfl, rfl⟩
      · cases hb; cases hxv <;> exact ⟨_, _, _, rfl, rfl⟩
      · cases hb
    split at h
    · rename_i e _ _ _ _ b ht hb
      obtain ⟨rfl, rfl⟩ := some__inj h
      obtain ⟨ad, n, c, hex, had⟩ := shape _ hb
      have e1 : (Go.underlying t).run E.P w = .ok (.slice e) w := run_underlying (hE.ti _ _ ht).under w
      refine OpPure.mk_ (v := .bool b) ?_ (.bool _)
      have hg : (eqGuard .eql t x y (.slice ad n c) (.slice none 0 0)).run E.P w = .ok () w := by simp [eqGuard]
      have he : (Go.binOp .eql t (.slice ad n c) (.slice none 0 0)).run E.P w = .ok (.bool b) w := by
        show ((do pure (.bool ((← Op.equalIn (9999 + 1) t (.slice ad n c) (.slice none 0 0)))) : Sem Value)).run E.P w = _
        rw [Sem.run_bind, run_eql_nil e1, had]
        rfl
      simp only [execOp, ho, hex, hey, Sem.run_bind, hg, he, Result.andThen_ok, Sem.run_pure]
    · rename_i e _ _ _ _ b ht hb
      obtain ⟨rfl, rfl⟩ := some__inj h
      obtain ⟨ad, n, c, hex, had⟩ := shape _ hb
      have e1 : (Go.underlying t).run E.P w = .ok (.slice e) w := run_underlying (hE.ti _ _ ht).under w
      refine OpPure.mk_ (v := .bool !b) ?_ (.bool _)
      have hg : (eqGuard .neq t x y (.slice ad n c) (.slice none 0 0)).run E.P w = .ok () w := by simp [eqGuard]
      have he : (Go.binOp .neq t (.slice ad n c) (.slice none 0 0)).run E.P w = .ok (.bool !b) w := by
        show ((do pure (.bool (!(← Op.equalIn (9999 + 1) t (.slice ad n c) (.slice none 0 0)))) : Sem Value)).run E.P w = _
        rw [Sem.run_bind, run_eql_nil e1, had]
        rfl
      simp only [execOp, ho, hex, hey, Sem.run_bind, hg, he, Result.andThen_ok, Sem.run_pure]
    · cases h
  · exact plain_sound hF h
theorem len_sound (hE : EnvOk E) (hF : RelF E.K ρ s a) (hS : RelS E.K E.P ρ s.H w) {c : Call} {x : Operand} {t : TypeId} (hc : c.callee = .builtin .len) (hca : c.args = #[x]) (hct : c.argTypes = #[t]) (ho : o.op = .call c) (h : aop_len E s.val o x t s.H = some (u, H', cs)) :
    OpPure E.K E.P ρ s.H w (execOp a.eval o) u H' := by
  unfold aop_len at h
  split at h
  · rename_i xv e _ _ _ _ hx ht
    split at h
    · rename_i n hn
      obtain ⟨rfl, rfl⟩ := some__inj h
      have hu := (hE.ti _ _ ht).under
      have hel : E.P.elem t = e := by unfold Program.elem; rw [hu]
      have hrun : ∀ q n c', a.eval x = .slice q n c' → (execOp a.eval o).run E.P w = .ok (.value (.int .i64 n)) w := by
        intro q n c' hq
        have := run_len_slice (P := E.P) w t o.type q n c' (by rw [hel]; exact hu)
        simp only [execOp, ho, resolve, hc, hca, hct, Sem.run_bind, Sem.run_pure, Result.andThen_ok, invoke, builtin]
        simp only [List.map_toArray, List.map_cons, List.map_nil, hq, this, Result.andThen_ok]
        rfl
      have hshape : ∃ q c', a.eval x = .slice q n c' := by
        have hv := val_rel hF hx
        generalize a.eval x = v at hv
        unfold lenOf at hn
        split at hn
        all_goals first
          | (cases hn; done)
          | skip
        · cases hn; cases hv <;> exact ⟨_, _, rfl⟩
        · cases hn; cases hv <;> exact ⟨_, _, rfl⟩
        · cases hn
          cases hv with
          | fz p1 p2 p3 p4 p5 p6 p7 p8 => subst p8; exact ⟨_, _, rfl⟩
          | fzEmp => exact ⟨_, _, rfl⟩
          | fzNil => exact ⟨_, _, rfl⟩
        · cases hn; cases hv; exact ⟨_, _, rfl⟩
        · rename_i r
          have go : ∀ (cid : Nat) (l : List (C cid)) (ob : AObj C), s.H.get r = some ob → (ob = .rows cid l ∨ ∃ i row, ob = .hole cid l i row) → ∃ q c', v = .slice q l.length c' := by
            intro cid l ob hg hob
            cases hv with
            | rsw q p1 p2 =>
              rename_i b sh kk z q' c'
              have hB := hS.blk _ _ _ _ _ _ _ q hg
              have hq : q' = l.length := by
                rcases hob with rfl | ⟨i', row, rfl⟩
                · obtain ⟨hcid, hf⟩ := rows_flat hB
                  exact (hB.lies hf).1 rfl
                · obtain ⟨hcid, hf⟩ := hole_flat hB
                  exact (hB.lies hf).1 rfl
              subst hq
              exact ⟨_, _, rfl⟩
            | rswDead q =>
              have := hS.dead _ _ q hg
              rcases hob with rfl | ⟨i', row, rfl⟩ <;> cases this
            | rswEmp q =>
              obtain ⟨cid', _, h1⟩ := hS.emp _ _ q hg
              rcases hob with rfl | ⟨i', row, rfl⟩
              · injection h1 with e1 e2
                subst e1
                cases e2
                exact ⟨_, _, rfl⟩
              · cases h1
          split at hn
          · rename_i cid l hg; cases hn; exact go cid l _ hg (.inl rfl)
          · rename_i cid l i row hg; cases hn; exact go cid l _ hg (.inr ⟨i, row, rfl⟩)
          · cases hn
      obtain ⟨q, c', hq⟩ := hshape
      exact OpPure.mk_ (hrun _ _ _ hq) (.int _ _)
    · cases h
  · exact plain_sound hF h
theorem cap_sound (hE : EnvOk E) (hF : RelF E.K ρ s a) {c : Call} {x : Operand} {t : TypeId} (hc : c.callee = .builtin .cap) (hca : c.args = #[x]) (hct : c.argTypes = #[t]) (ho : o.op = .call c) (h : aop_cap E s.val x t s.H = some (u, H', cs)) :
    OpPure E.K E.P ρ s.H w (execOp a.eval o) u H' := by
  unfold aop_cap at h
  split at h
  · rename_i e _ _ _ _ hx ht
    obtain ⟨rfl, rfl⟩ := some__inj h
    have hu := (hE.ti _ _ ht).under
    have hv := val_rel hF hx
    generalize hev : a.eval x = v at hv
    cases hv
    refine OpPure.mk_ (v := .int .i64 0) ?_ (.int _ _)
    simp only [execOp, ho, resolve, hc, hca, hct, Sem.run_bind, Sem.run_pure, Result.andThen_ok, invoke, builtin]
    have : (Builtin.cap_ #[t] o.type #[.slice none 0 0]).run E.P w = .ok (.int .i64 0) w := by
      simp [Builtin.cap_, run_underlying hu, goInt]
    simp only [List.map_toArray, List.map_cons, List.map_nil, hev, this, Result.andThen_ok]
  · cases h
theorem min_sound (hF : RelF E.K ρ s a) {c : Call} {x y : Operand} (hc : c.callee = .builtin .min) (hca : c.args = #[x, y]) (ho : o.op = .call c) (h : aop_min E s.val o x y s.H = some (u, H', cs)) :
    OpPure E.K E.P ρ s.H w (execOp a.eval o) u H' := by
  unfold aop_min at h
  split at h
  · rename_i k p k' q hx hy
    obtain ⟨rfl, rfl⟩ := some__inj h
    refine OpPure.mk_ (v := .int k (if q < p then q else p)) ?_ (.int _ _)
    simp only [execOp, ho, resolve, hc, hca, Sem.run_bind, Sem.run_pure, Result.andThen_ok, invoke, builtin]
    simp only [List.map_toArray, List.map_cons, List.map_nil, (val_rel hF hx).int_inv, (val_rel hF hy).int_inv, Builtin.min_, List.foldlM_cons, List.foldlM_nil, Builtin.min2, pure_bind, Sem.run_pure, Result.andThen_ok]
  · exact plain_sound hF h
theorem max_sound (hF : RelF E.K ρ s a) {c : Call} {x y : Operand} (hc : c.callee = .builtin .max) (hca : c.args = #[x, y]) (ho : o.op = .call c) (h : aop_max E s.val o x y s.H = some (u, H', cs)) :
    OpPure E.K E.P ρ s.H w (execOp a.eval o) u H' := by
  unfold aop_max at h
  split at h
  · rename_i k p k' q hx hy
    obtain ⟨rfl, rfl⟩ := some__inj h
    refine OpPure.mk_ (v := .int k (if q > p then q else p)) ?_ (.int _ _)
    simp only [execOp, ho, resolve, hc, hca, Sem.run_bind, Sem.run_pure, Result.andThen_ok, invoke, builtin]
    simp only [List.map_toArray, List.map_cons, List.map_nil, (val_rel hF hx).int_inv, (val_rel hF hy).int_inv, Builtin.max_, List.foldlM_cons, List.foldlM_nil, Builtin.max2, pure_bind, Sem.run_pure, Result.andThen_ok]
  · exact plain_sound hF h
theorem not_sound (hF : RelF E.K ρ s a) {t : TypeId} {x : Operand} (ho : o.op = .unOp .not t x) (h : aop_not s.val x s.H = some (u, H', cs)) : OpPure E.K E.P ρ s.H w (execOp a.eval o) u H' := by
  unfold aop_not at h
  split at h
  · rename_i b hx
    obtain ⟨rfl, rfl⟩ := some__inj h
    refine OpPure.mk_ (v := .bool !b) ?_ (.bool _)
    simp only [execOp, ho, (val_rel hF hx).bool_inv, Op.unary, Sem.run_bind, Sem.run_pure, Result.andThen_ok]
  · cases h
theorem neg_sound (hF : RelF E.K ρ s a) {t : TypeId} {x : Operand} (ho : o.op = .unOp .neg t x) (h : aop_neg s.val x s.H = some (u, H', cs)) : OpPure E.K E.P ρ s.H w (execOp a.eval o) u H' := by
  unfold aop_neg at h
  split at h
  · rename_i k n hx
    obtain ⟨rfl, rfl⟩ := some__inj h
    refine OpPure.mk_ (v := .int k (wr k (0 - n))) ?_ (.int _ _)
    simp only [execOp, ho, (val_rel hF hx).int_inv, Op.unary, Op.intArith, Sem.run_bind, Sem.run_pure, Result.andThen_ok, wr_eq]
  · cases h
/-- the bytes of a list -/
theorem bytes_run (hE : EnvOk E) {cid : Nat} (hcid : cid < E.K.n) (hst : E.K.isStr cid = true) {l : List (C cid)} {b sh n c' : Nat} {src dst e : TypeId} (hs : E.P.underlying src = some (.slice e)) (hd : E.P.underlying dst = some .string) (hty : E.K.ty cid = e) (hn : n = l.length)
    (hcell : ∀ (i : Nat) (u : V C), (E.K.flat cid l)[i]? = some u → u.isOwn = false → ∃ v, w.cell? ⟨b, sh + i, none⟩ = some v ∧ RelV E.K ρ u v) : (Go.convert src dst (.slice (some ⟨b, sh, none⟩) n c')).run E.P w = .ok (.string (E.K.str cid l)) w := by
  obtain ⟨h1, hk, h2⟩ := hE.codec.str cid hcid hst
  obtain ⟨ns, h3, h4⟩ := h2 l
  have hlen : ns.length = l.length := by
    have := flat_length hE.codec hcid l
    rw [h3, List.length_map, hk, Nat.mul_one] at this
    exact this
  subst hn
  rw [h4, run_convert_bytes_arg w src e hs (by rw [← hty]; exact h1) b sh l.length c' ns hlen (fun i hi => ?_) dst hd]
  · rfl
  · have hg : (E.K.flat cid l)[i]? = some (.int .u8 (ns.getD i 0)) := by
      rw [h3, List.getElem?_map, List.getElem?_eq_getElem (by omega)]
      simp [List.getD, List.getElem?_eq_getElem (show i < ns.length by omega)]
    obtain ⟨v, e1, e2⟩ := hcell i _ hg rfl
    rw [e1, e2.int_inv]
theorem bytes_none (hE : EnvOk E) {cid : Nat} (hcid : cid < E.K.n) (hst : E.K.isStr cid = true) {q : Option Addr} {c' : Nat} {src dst e : TypeId} (hs : E.P.underlying src = some (.slice e)) (hd : E.P.underlying dst = some .string) (hty : E.K.ty cid = e) : (Go.convert src dst (.slice q 0 c')).run E.P w = .ok (.string (E.K.str cid [])) w := by
  obtain ⟨h1, hk, h2⟩ := hE.codec.str cid hcid hst
  obtain ⟨ns, h3, h4⟩ := h2 []
  have hn : ns = [] := by
    have : (ns.map (V.int (C := C) .u8)).length = 0 := by rw [← h3]; rfl
    exact List.length_eq_zero_iff.1 (by simpa using this)
  subst hn
  rw [h4]
  subst hty
  cases q with
  | none => exact run_convert_bytes_nil w src _ hs h1 0 c' dst hd
  | some q =>
    rw [run_convert_bytes_string w src dst _ (some q) 0 c' hs h1 hd]
    have := run_loadCells_list (P := E.P) w q [] (fun j v hj => by simp at hj)
    exact run_bytesToString w q 0 c' [] this
theorem convert_sound (hE : EnvOk E) (hF : RelF E.K ρ s a) (hS : RelS E.K E.P ρ s.H w) {t d : TypeId} {x : Operand} (ho : o.op = .convert t d x) (h : aop_convert E s.val o t d x s.H = some (u, H', cs)) : OpPure E.K E.P ρ s.H w (execOp a.eval o) u H' := by
  unfold aop_convert at h
  split at h
  · rename_i k n i k' _ _ _ _ hx hs hd
    obtain ⟨rfl, rfl⟩ := some__inj h
    have hdu : E.P.underlying d = some (.int k') := (hE.ti _ _ hd).under
    have hik : E.P.intKind d = k' := by unfold Program.intKind; rw [hdu]
    refine OpPure.mk_ (v := .int k' (wr k' n)) ?_ (.int _ _)
    simp only [execOp, ho, (val_rel hF hx).int_inv, Sem.run_bind, run_convert_int w t d k n (by rw [(hE.ti _ _ hs).under]; rfl) (by rw [hik]; exact hdu), hik, Sem.run_pure, Result.andThen_ok, wr_eq]
  · rename_i nn cid l e _ _ _ _ _ _ _ _ hx hs hd
    obtain ⟨hb, h⟩ := cond_none h
    simp only [Bool.and_eq_true] at hb
    obtain ⟨rfl, rfl⟩ := some__inj h
    have hty := Nat.eq_of_beq_eq_true hb.2
    have hsu := (hE.ti _ _ hs).under
    have hdu := (hE.ti _ _ hd).under
    have fin : ∀ {q : Option Addr} {n c' : Nat}, a.eval x = .slice q n c' → (Go.convert t d (.slice q n c')).run E.P w = .ok (.string (E.K.str cid l)) w → OpPure E.K E.P ρ s.H w (execOp a.eval o) (.str (E.K.str cid l)) s.H := by
      intro q n c' hq hr
      refine OpPure.mk_ (v := .string (E.K.str cid l)) ?_ (.str _)
      simp only [execOp, ho, hq, Sem.run_bind, hr, Result.andThen_ok, Sem.run_pure]
    have hv := val_rel hF hx
    generalize hev : a.eval x = v at hv
    cases hv with
    | fz p1 p2 p3 p4 p5 p6 p7 p8 =>
      rename_i b sh n c' csr us vs
      obtain ⟨fr, hh⟩ := hS.frz _ _ _ p1
      subst p6 p7
      refine fin hev (bytes_run (ρ := ρ) hE p2 hb.1.2 hsu hdu hty p8 fun i u hu _ => ?_)
      obtain ⟨v', h1, h2⟩ := p5.get i u hu
      have hi : i < n * E.K.k cid := by
        have := (List.getElem?_eq_some_iff.1 h1).1
        rw [List.length_take] at this; omega
      rw [window_get hi] at h1
      exact ⟨v', by rw [cell_of_row w b _ csr _ _ hh]; exact h1, h2⟩
    | fzEmp =>
      have hcid : cid < E.K.n := by simpa using hb.1.1
      exact fin hev (bytes_none hE hcid hb.1.2 hsu hdu hty)
    | fzNil =>
      have hcid : cid < E.K.n := by simpa using hb.1.1
      exact fin hev (bytes_none hE hcid hb.1.2 hsu hdu hty)
  · rename_i r e _ _ _ _ _ _ _ _ hx hs hd
    split at h
    · rename_i cid l hg
      obtain ⟨hb, h⟩ := cond_none h
      simp only [Bool.and_eq_true] at hb
      obtain ⟨rfl, rfl⟩ := some__inj h
      have hty := Nat.eq_of_beq_eq_true hb.2
      have hsu := (hE.ti _ _ hs).under
      have hdu := (hE.ti _ _ hd).under
      have fin : ∀ {q : Option Addr} {n c' : Nat}, a.eval x = .slice q n c' → (Go.convert t d (.slice q n c')).run E.P w = .ok (.string (E.K.str cid l)) w → OpPure E.K E.P ρ s.H w (execOp a.eval o) (.str (E.K.str cid l)) s.H := by
        intro q n c' hq hr
        refine OpPure.mk_ (v := .string (E.K.str cid l)) ?_ (.str _)
        simp only [execOp, ho, hq, Sem.run_bind, hr, Result.andThen_ok, Sem.run_pure]
      have hv := val_rel hF hx
      generalize hev : a.eval x = v at hv
      cases hv with
      | rsw q p1 p2 =>
        rename_i b sh k z q' c'
        have hB := hS.blk _ _ _ _ _ _ _ q hg
        obtain ⟨hcid, hf⟩ := rows_flat hB
        obtain ⟨h1, csr, L⟩ := hB.lies hf
        have hq : q' = l.length := h1 rfl
        refine fin hev (bytes_run (ρ := ρ) hE hcid hb.1.2 hsu hdu hty hq fun i u hu hu' => ?_)
        obtain ⟨v', h1, h2⟩ := L.rel i u hu
        exact ⟨v', by rw [cell_of_row w b _ csr _ _ L.heap]; exact h1, (h2.val_of hu').1⟩
      | rswDead q => have := hS.dead _ _ q hg; cases this
      | rswEmp q =>
        obtain ⟨cid', _, h1⟩ := hS.emp _ _ q hg
        injection h1 with e1 e2
        subst e1
        cases e2
        exact fin hev (bytes_none hE (by simpa using hb.1.1) hb.1.2 hsu hdu hty)
    · cases h
  · exact plain_sound hF h
end
end Go.Vm
/- A generic text: appends. No program. -/
set_option linter.unusedVariables false
set_option linter.unusedSimpArgs false
namespace Go.Vm
open Go
variable {C : Nat → Type}
section
variable {K : Codec C} {P : Program} {ρ ρ' : Ren} {H : AStore C} {w : World}
theorem RelS.congr (h : RelS K P ρ H w) {H' : AStore C} (hn : H'.n = H.n) (hg : ∀ r, H'.get r = H.get r) : RelS K P ρ H' w :=
  ⟨by rw [hn]; exact h.names, fun r b s k z q o e g => h.blk r b s k z q o e (by rw [← hg]; exact g), fun r o e g => h.emp r o e (by rw [← hg]; exact g), fun r o e g => h.dead r o e (by rw [← hg]; exact g), h.frz⟩
theorem get_swap (H : AStore C) {r : Nat} (hr : r < H.n) (o : AObj C) (m : Nat) : ((H.push o).upd r .dead).get m = ((H.upd r .dead).push o).get m := by
  rw [AStore.get_upd, AStore.get_push, AStore.get_push, AStore.get_upd]
  show (if m = r then _ else if m = H.n then _ else _) = (if m = H.n then _ else if m = r then _ else _)
  by_cases e1 : m = r
  · subst e1; rw [if_pos rfl, if_neg (by omega), if_pos rfl]
  · rw [if_neg e1]
    by_cases e2 : m = H.n
    · rw [if_pos e2, if_pos e2]
    · rw [if_neg e2, if_neg e2, if_neg e1]
theorem Floats.less {T : Nat → Prop} {g : List Nat} (h : Floats ρ w T g) (hl : Less ρ ρ') : Floats ρ' w T g := ⟨fun b hb => hl.free (h.free b hb), h.lt, h.nod, h.t⟩
/-- what an append answers, onto a block that lives -/
structure Appended (K : Codec C) (P : Program) (ρ : Ren) (H : AStore C) (w : World) (W : Cells) (T : Nat → Prop) (m : Sem Value) (r : Nat) (ob : AObj C) (k n : Nat) : Prop where
  out : ∃ ρ' w' b' s' z' c', m.run P w = .ok (.slice (some ⟨b', s', none⟩) n c') w' ∧ RelS K P ρ' ((H.push ob).upd r .dead) w' ∧ Ext ρ ρ' H.n W T w w' ∧ ρ'.m H.n = .to b' s' k z' n ∧ n ≤ c' ∧ s' + c' * k ≤ z'
theorem append_to {r b sh k z q wo n m c' size bytes : Nat} {ob ob' : AObj C} {c us : List (V C)} {L : List Value} {gs : List (List Nat)} {t st ty : TypeId} {i : TypeInfo} {zv y : Value} {W : Cells} {T : Nat → Prop} (hS : RelS K P ρ H w) (e : ρ.m r = .to b sh k z q) (hg : H.get r = some ob) (hf : ob.flat K = some (c, t))
    (hst : P.underlying st = some (.slice t)) (hi : P.info? t = some i) (hzv : i.zero = some zv) (hsz : i.size = size) (hzs : zv.cells.size = size) (hb : i.bytes = bytes) (hpos : 0 < size) (hW : ∀ i, W r i) (hT : ∀ b, Touched ρ W b → T b)
    (hwo : wo + n * size ≤ c.length) (hn : n ≤ c') (hcap : sh + wo + c' * k ≤ z) (hr : RelCs K ρ w us L gs) (hF : Floats ρ w T gs.flatten) (hL : L.length = m * size) (hone : ∀ v ∈ L, v.oneCell' = true) (hm : 0 < m) (hsrc : Src P i.size st y m L w)
    (hbig : (n + m) * bytes ≤ 140737488355328) (hb0 : 0 < bytes) (hf' : ob'.flat K = some ((c.drop wo).take (n * size) ++ us, t)) (hq : ob'.isRows = true → n + m = ob'.count) :
    Appended K P ρ H w W T (Builtin.append_ #[st, st] ty #[.slice (some ⟨b, sh + wo, none⟩) n c', y]) r ob' k (n + m) := by
  obtain ⟨csr, r1, r2, r3, r4, r5, r6, r7, r8, r9, r10, r11, r12, r13⟩ := hS.release e hg hf hW hT
  have hk : k = size := by rw [r2]; simp [Program.cellsOf, hi, hsz]
  subst hk
  have hrn : r < H.n := hS.names.root_lt e
  obtain ⟨hl1, hl2⟩ := hr.length
  have hlen : ((c.drop wo).take (n * k)).length = n * k := by rw [List.length_take, List.length_drop]; omega
  -- what lies there
  have hfit : sh + wo + n * k ≤ csr.size := by rw [r3]; have : n * k ≤ c' * k := Nat.mul_le_mul_right _ hn; omega
  have holds : RelCs K (ρ.kill r) w ((c.drop wo).take (n * k)) ((csr.toList.drop (sh + wo)).take (n * k)) ((List.range ((c.drop wo).take (n * k)).length).map fun i => ρ.f r (wo + i)) := by
    refine relCs_of _ _ (fun i => ρ.f r (wo + i)) (by rw [hlen, window_length hfit]) fun i u hu => ?_
    have hi := (List.getElem?_eq_some_iff.1 hu).1
    rw [List.getElem?_take, if_pos (by omega), List.getElem?_drop] at hu
    obtain ⟨v', g1, g2⟩ := r13 _ u hu
    exact ⟨v', by rw [window_get (by omega), Nat.add_assoc]; exact g1, g2⟩
  have hF0 : Floats (ρ.kill r) w T ((List.range ((c.drop wo).take (n * k)).length).map fun i => ρ.f r (wo + i)).flatten := by
    refine ⟨fun b hb => ?_, fun b hb => ?_, flatten_map_nodup (fun i => (r10 _).nod) (fun i j b h1 h2 => by have := r11 _ _ b h1 h2; omega) _, fun b hb => ?_⟩
    · obtain ⟨i, _, h2⟩ := flatten_map_mem.1 hb; exact (r10 _).free _ h2
    · obtain ⟨i, _, h2⟩ := flatten_map_mem.1 hb; exact (r10 _).lt _ h2
    · obtain ⟨i, _, h2⟩ := flatten_map_mem.1 hb; exact (r10 _).t _ h2
  have hF1 : Floats (ρ.kill r) w T gs.flatten := hF.less (Less.kill ρ r)
  have hdis : ∀ b, b ∈ ((List.range ((c.drop wo).take (n * k)).length).map fun i => ρ.f r (wo + i)).flatten → b ∉ gs.flatten := by
    intro b hb hb'
    obtain ⟨i, _, h2⟩ := flatten_map_mem.1 hb
    exact hF.free b hb' (.cell r _) h2
  have hbgs : b ∉ gs.flatten := fun hb => hF.free b hb (.root r) ⟨_, _, _, _, e⟩
  have hall := holds.append (hr.mono r6.le fun _ _ => rfl)
  have hFall : Floats (ρ.kill r) w T (((List.range ((c.drop wo).take (n * k)).length).map fun i => ρ.f r (wo + i)) ++ gs).flatten := by
    rw [List.flatten_append]; exact Floats.append hF0 hF1 hdis
  by_cases hroom : n + m ≤ c'
  · -- in place
    have hfit2 : sh + wo + n * k + L.length ≤ csr.size := by
      have : (n + m) * k ≤ c' * k := Nat.mul_le_mul_right _ hroom
      rw [Nat.add_mul] at this
      rw [r3, hL]; omega
    have hst' := run_storeCells_at P b (sh + wo + n * k) t L 0 csr w r1 (by omega) hone
    simp only [Nat.add_zero] at hst'
    have hrun : (Builtin.append_ #[st, st] ty #[.slice (some ⟨b, sh + wo, none⟩) n c', y]).run P w = .ok (.slice (some ⟨b, sh + wo, none⟩) (n + m) c') (w.setRow b (putV csr (sh + wo + n * k) L)) := by
      have hlen := hsrc.len
      have hcells := hsrc.cells
      rw [hsz] at hcells
      simp [Builtin.append_, run_underlying hst, sizeOf, typeInfo, hi, hsz, hlen, hroom, hcells, Addr.add_lit, hst', putV]
    obtain ⟨xl1, xl2⟩ := hall.length
    have key := r5.place (w' := w.setRow b (putV csr (sh + wo + n * k) L)) (b := b) (s := sh + wo) (z := z) (q := n + m) (W := W) (T := T) (g := fun i => (((List.range ((c.drop wo).take (n * k)).length).map fun i => ρ.f r (wo + i)) ++ gs).getD i []) hf' hq r7 (by simpa using r8)
      (fun i b' hb' => ⟨hFall.free _ (getD_mem hb').1, hFall.lt _ (getD_mem hb').1, by
        rintro rfl
        have := (getD_mem hb').1
        rw [List.flatten_append, List.mem_append] at this
        rcases this with h1 | h1
        · obtain ⟨i, _, h2⟩ := flatten_map_mem.1 h1; exact r12 _ h2
        · exact hbgs h1⟩) (fun i i' b' => getD_uniq hFall.nod i i' b') (getD_nodup hFall.nod) (setRow_heap w b csr _ t _ r1) (by rw [size_putV hfit2, r3]) (by rw [List.length_append, hlen, hl1, hL, ← Nat.add_mul]; have : (n + m) * k ≤ c' * k := Nat.mul_le_mul_right _ hroom; omega) (by simp) (fun b' _ hne => setRow_other w b b' _ hne) rfl rfl rfl (fun j v hv => ?_) (fun _ => r9) (fun i b' hb' => hFall.t _ (getD_mem hb').1)
    · have hcong := key.1.congr (H' := (H.push ob').upd r .dead) rfl (fun m => get_swap H hrn ob' m)
      rw [← r2] at key hcong
      exact ⟨_, _, b, sh + wo, z, c', hrun, hcong, r6.trans hS.names (Nat.le_refl _) key.2 (fun _ _ h => .inl h) (fun _ _ h => h), Ren.setM_same _ _ _, hroom, by omega⟩
    · obtain ⟨x, g, h1, h2, h3⟩ := hall.get j v hv
      have hj : j < n * k + L.length := by
        have := (List.getElem?_eq_some_iff.1 hv).1
        rw [List.length_append, hlen] at this; omega
      have hgd : (((List.range ((c.drop wo).take (n * k)).length).map fun i => ρ.f r (wo + i)) ++ gs).getD j [] = g := by simp only [List.getD_eq_getElem?_getD, h2, Option.getD_some]
      refine ⟨x, ?_, ?_⟩
      · rw [getElem?_putV hfit2]
        rw [List.getElem?_append, window_length hfit] at h1
        by_cases c1 : j < n * k
        · rw [if_pos c1, window_get c1] at h1
          rw [if_pos (by omega)]; exact h1
        · rw [if_neg c1] at h1
          rw [if_neg (by omega), if_pos (by omega), show sh + wo + j - (sh + wo + n * k) = j - n * k by omega]; exact h1
      · show RelC K _ _ v x ((((List.range ((c.drop wo).take (n * k)).length).map fun i => ρ.f r (wo + i)) ++ gs).getD j [])
        rw [hgd]
        refine h3.mono (Ren.le_trans (Ren.le_setM _ (r5.names.dom H.n (Nat.le_refl _)).1) (Ren.le_setF _ _ _)) fun b' hb' => setRow_other w b b' _ ?_
        rintro rfl
        have hb2 : b' ∈ (((List.range ((c.drop wo).take (n * k)).length).map fun i => ρ.f r (wo + i)) ++ gs).flatten := List.mem_flatten.2 ⟨g, List.mem_of_getElem? h2, hb'⟩
        rw [List.flatten_append, List.mem_append] at hb2
        rcases hb2 with h4 | h4
        · obtain ⟨i, _, h5⟩ := flatten_map_mem.1 h4; exact r12 _ h5
        · exact hbgs h4
  · -- a new block
    have hlt : c' < n + m := by omega
    have hreads : ∀ (j : Nat) (x : Value), ((csr.toList.drop (sh + wo)).take (n * k))[j]? = some x → w.cell? ((⟨b, sh + wo, none⟩ : Addr).add j) = some x := by
      intro j x hx
      have hj : j < n * k := by have := (List.getElem?_eq_some_iff.1 hx).1; rw [window_length hfit] at this; exact this
      rw [window_get hj] at hx
      rw [Addr.add_lit, cell_of_row w b _ csr t _ r1]; exact hx
    have hbytes : (n + m) * i.bytes ≤ 140737488355328 := by rw [hb]; exact hbig
    have hnm : n + m ≤ 9223372036854775807 := by
      have : (n + m) * 1 ≤ (n + m) * bytes := Nat.mul_le_mul_left _ hb0
      omega
    have hr2 := run_append_grow_src w st st ty t i zv hst hi hzv (some ⟨b, sh + wo, none⟩) n c' ((csr.toList.drop (sh + wo)).take (n * k)) (run_firstCells_some w.drew i.size n ⟨b, sh + wo, none⟩ n c' _ (by rw [hsz]; exact window_length hfit) (by simpa using hreads)) y m L hsrc hlt (by omega) (growslice_fits hlt hbytes)
    obtain ⟨ρ2, p1, p2, p3⟩ := r5.pushOwn (W := W) (T := T) (q := n + m) (cs := ((csr.toList.drop (sh + wo)).take (n * k) ++ L).toArray ++ Builtin.zeroCells zv.cells (grownCap w (n + m) c' t - (n + m))) hf' hq hall (fun i v hv => by
      have hi : i < ((csr.toList.drop (sh + wo)).take (n * k) ++ L).toArray.size := by simpa using (List.getElem?_eq_some_iff.1 hv).1
      rw [Array.getElem?_append_left hi, List.getElem?_toArray]; exact hv) hFall w.drew rfl rfl rfl rfl
    have hcong := p2.congr (H' := (H.push ob').upd r .dead) rfl (fun m => get_swap H hrn ob' m)
    have hge := grownCap_ge w (n + m) c' t
    have hsz2 : (((csr.toList.drop (sh + wo)).take (n * k) ++ L).toArray ++ Builtin.zeroCells zv.cells (grownCap w (n + m) c' t - (n + m))).size = grownCap w (n + m) c' t * k := by
      rw [Array.size_append, size_zeroCells, hzs, List.size_toArray, List.length_append, hL, window_length hfit, ← Nat.add_mul, ← Nat.add_mul]
      congr 1
      omega
    rw [← r2] at p1
    refine ⟨ρ2, _, _, 0, _, grownCap w (n + m) c' t, hr2, hcong, r6.trans hS.names (Nat.le_refl _) p3 (fun _ _ h => .inl h) (fun _ _ h => h), p1, by omega, by rw [hsz2]; omega⟩
/-- an append onto nothing -/
theorem append_nil {m c' size bytes : Nat} {ob' : AObj C} {us : List (V C)} {L : List Value} {gs : List (List Nat)} {t st ty : TypeId} {i : TypeInfo} {zv y : Value} {bq : Option Addr} {W : Cells} {T : Nat → Prop} (hS : RelS K P ρ H w)
    (hst : P.underlying st = some (.slice t)) (hi : P.info? t = some i) (hzv : i.zero = some zv) (hsz : i.size = size) (hzs : zv.cells.size = size) (hb : i.bytes = bytes) (hpos : 0 < size)
    (hr : RelCs K ρ w us L gs) (hF : Floats ρ w T gs.flatten) (hL : L.length = m * size) (hm : 0 < m) (hsrc : Src P i.size st y m L w)
    (hbig : m * bytes ≤ 140737488355328) (hb0 : 0 < bytes) (hf' : ob'.flat K = some (us, t)) (hq : ob'.isRows = true → m = ob'.count) :
    ∃ ρ' w' b' z' c', (Builtin.append_ #[st, st] ty #[.slice bq 0 0, y]).run P w = .ok (.slice (some ⟨b', 0, none⟩) m c') w' ∧ RelS K P ρ' (H.push ob') w' ∧ Ext ρ ρ' H.n W T w w' ∧ ρ'.m H.n = .to b' 0 size z' m ∧ m ≤ c' ∧ c' * size ≤ z' := by
  have hk : P.cellsOf t = size := by simp [Program.cellsOf, hi, hsz]
  have hbytes : (0 + m) * i.bytes ≤ 140737488355328 := by rw [hb, Nat.zero_add]; exact hbig
  have hnm : 0 + m ≤ 9223372036854775807 := by
    have : m * 1 ≤ m * bytes := Nat.mul_le_mul_left _ hb0
    omega
  have hfirst : (Builtin.firstCells i.size 0 (.slice bq 0 0)).run P w.drew = .ok (([] : List Value).toArray) w.drew := by
    cases bq with
    | none => exact run_firstCells_none _ _ _ _ _
    | some bq => exact run_firstCells_some w.drew i.size 0 bq 0 0 [] (by simp) (fun j v h => by simp at h)
  have hr2 := run_append_grow_src w st st ty t i zv hst hi hzv bq 0 0 [] hfirst y m L hsrc (by omega) (by omega) (growslice_fits (by omega) hbytes)
  obtain ⟨ρ2, p1, p2, p3⟩ := hS.pushOwn (W := W) (T := T) (q := m) (cs := (([] ++ L).toArray ++ Builtin.zeroCells zv.cells (grownCap w (0 + m) 0 t - (0 + m)))) hf' hq hr (fun i v hv => by
    have hi : i < (([] : List Value) ++ L).toArray.size := by simpa using (List.getElem?_eq_some_iff.1 hv).1
    rw [Array.getElem?_append_left hi, List.getElem?_toArray]; exact hv) hF w.drew rfl rfl rfl rfl
  have hge := grownCap_ge w (0 + m) 0 t
  have hsz2 : (([] ++ L).toArray ++ Builtin.zeroCells zv.cells (grownCap w (0 + m) 0 t - (0 + m))).size = grownCap w (0 + m) 0 t * size := by
    rw [Array.size_append, size_zeroCells, hzs, List.nil_append, List.size_toArray, hL, ← Nat.add_mul]
    congr 1
    omega
  rw [hk] at p1
  rw [Nat.zero_add] at hr2
  refine ⟨ρ2, _, _, _, grownCap w m 0 t, by rw [Nat.zero_add] at *; exact hr2, p2, p3, p1, by rw [Nat.zero_add] at hge; exact hge, ?_⟩
  have e : grownCap w m 0 t = grownCap w (0 + m) 0 t := by rw [Nat.zero_add]
  rw [e, ← hsz2]; exact Nat.le_refl _
end
end Go.Vm
/- A generic text: appends (2); every operation together. No program. -/
set_option linter.unusedVariables false
set_option linter.unusedSimpArgs false
namespace Go.Vm
open Go
variable {C : Nat → Type}
section
variable {E : Env C} {K : Codec C} {P : Program} {ρ ρ' : Ren} {H : AStore C} {w : World}
theorem RelCs.one_ : ∀ {us : List (V C)} {L : List Value} {gs : List (List Nat)}, RelCs K ρ w us L gs → (∀ v ∈ us, v.cell1 = true) → ∀ v ∈ L, v.oneCell' = true
  | _, _, _, .nil, _, v, hv => by cases hv
  | _, _, _, .cons a b, h, v, hv => by
    rcases List.mem_cons.1 hv with rfl | hv
    · exact a.cell1_ (h _ (by simp))
    · exact RelCs.one_ b (fun u hu => h u (by simp [hu])) v hv
/-- what is to be appended -/
structure SrcOk (K : Codec C) (P : Program) (ρ : Ren) (H H1 : AStore C) (w : World) (W : Cells) (T : Nat → Prop) (size : Nat) (st : TypeId) (us : List (V C)) (m : Nat) (y : Value) : Prop where
  out : ∃ ρ1 L gs, RelS K P ρ1 H1 w ∧ H1.n = H.n ∧ Ext ρ ρ1 H.n W T w w ∧ RelCs K ρ1 w us L gs ∧ Floats ρ1 w T gs.flatten ∧ L.length = m * size ∧ Src P size st y m L w
theorem mem_if {p : Prop} [Decidable p] {l : List Nat} {b : Nat} (h : b ∈ (if p then l else [])) : b ∈ l := by
  by_cases hp : p
  · rw [if_pos hp] at h; exact h
  · rw [if_neg hp] at h; cases h
theorem nodup_if {p : Prop} [Decidable p] {l : List Nat} (h : l.Nodup) : (if p then l else []).Nodup := by
  by_cases hp : p
  · rw [if_pos hp]; exact h
  · rw [if_neg hp]; exact List.nodup_nil
theorem Src.none_ {size : Nat} {st e : TypeId} (hst : P.underlying st = some (.slice e)) {a : Option Addr} {c : Nat} : Src P size st (.slice a 0 c) 0 [] w := by
  cases a with
  | none => exact Src.ofNil w hst c
  | some a => exact Src.ofSlice w hst a 0 c [] (by simp) (fun j v h => by simp at h) (fun v h => by simp at h)
theorem srcRows_ok (hK : CodecOk P K) {cid : Nat} (hcid : cid < K.n) {K' : Env C} (hKE : K'.K = K) (h : RelS K P ρ H w) {x : V C} {y : Value} (hv : RelV K ρ x y) {news : List (C cid)} {H1 : AStore C} (ha : srcRows K' cid H x = some (news, H1)) {W : Cells} {T : Nat → Prop} (hW : ∀ r ∈ x.refs1, ∀ i, W r i) (hT : ∀ b, Touched ρ W b → T b)
    {st : TypeId} (hst : P.underlying st = some (.slice (K.ty cid))) : SrcOk K P ρ H H1 w W T (K.k cid) st (K.flat cid news) news.length y := by
  subst hKE
  have hcell := fun l => flat_cell hK hcid l
  unfold srcRows at ha
  split at ha
  · cases ha
    cases hv
    exact ⟨ρ, [], [], h, rfl, Ext.refl _ _ _ _ _, .nil, Floats.nil, by simp, Src.none_ hst⟩
  · rename_i nn c l
    split at ha
    · rename_i hc
      subst hc
      cases ha
      cases hv with
      | fz p1 p2 p3 p4 p5 p6 p7 p8 =>
        rename_i b sh n c' csr us vs
        subst p6 p7 p8
        obtain ⟨fr, hh⟩ := h.frz _ _ _ p1
        have hlen := flat_length hK hcid l
        have hll := p5.length
        rw [hlen] at hll
        have hone := (RelCs.of_vals (w := w) p5).one_ (hcell l)
        have hle : l.length * K'.K.k c ≤ c' * K'.K.k c := Nat.mul_le_mul_right _ p3
        refine ⟨ρ, _, _, h, rfl, Ext.refl _ _ _ _ _, RelCs.of_vals p5, by rw [nils_flatten]; exact Floats.nil, hll.symm, Src.ofSlice w hst _ _ _ _ hll.symm (fun j v hj => ?_) hone⟩
        have hj' : j < l.length * K'.K.k c := by have := (List.getElem?_eq_some_iff.1 hj).1; omega
        rw [window_get hj'] at hj
        rw [Addr.add_lit, cell_of_row w b _ csr _ _ hh]; exact hj
      | fzEmp => exact ⟨ρ, [], [], h, rfl, Ext.refl _ _ _ _ _, .nil, Floats.nil, by simp, Src.none_ hst⟩
      | fzNil => exact ⟨ρ, [], [], h, rfl, Ext.refl _ _ _ _ _, .nil, Floats.nil, by simp, Src.none_ hst⟩
    · cases ha
  · rename_i r
    split at ha
    · rename_i c l hg
      split at ha
      · rename_i hc
        subst hc
        cases ha
        have hWr : ∀ i, W r i := hW r (by simp [V.refs1])
        cases hv with
        | rsw e p1 p2 =>
          rename_i b sh k z q c'
          have hB := h.blk _ _ _ _ _ _ _ e hg
          obtain ⟨_, hf⟩ := rows_flat hB
          obtain ⟨hq, csr, L⟩ := hB.lies hf
          have hq : q = l.length := hq rfl
          subst hq
          have hk : k = K'.K.k c := L.k.trans (hK.size c hcid).symm
          subst hk
          have hlen := flat_length hK hcid l
          have hfit : sh + l.length * K'.K.k c ≤ csr.size := by have := L.fits; have := L.size; omega
          have reads : ∀ (j : Nat) (v : Value), ((csr.toList.drop sh).take (l.length * K'.K.k c))[j]? = some v → w.cell? ((⟨b, sh, none⟩ : Addr).add j) = some v := by
            intro j v hj
            have hj' : j < l.length * K'.K.k c := by have := (List.getElem?_eq_some_iff.1 hj).1; rw [window_length hfit] at this; exact this
            rw [window_get hj'] at hj
            rw [Addr.add_lit, cell_of_row w b _ csr _ _ L.heap]; exact hj
          cases hp : K'.K.pure c with
          | true =>
            rw [cond_true]
            have hl : RelL K'.K ρ (K'.K.flat c l) ((csr.toList.drop sh).take (l.length * K'.K.k c)) := by
              refine RelL.of (by rw [hlen, window_length hfit]) fun i v hv => ?_
              obtain ⟨v', h1, h2⟩ := L.rel i v hv
              have hi := (List.getElem?_eq_some_iff.1 hv).1
              exact ⟨v', by rw [window_get (by omega)]; exact h1, (h2.val_of (flat_pure hK hcid hp l v (List.mem_of_getElem? hv))).1⟩
            exact ⟨ρ, _, _, h, rfl, Ext.refl _ _ _ _ _, RelCs.of_vals hl, by rw [nils_flatten]; exact Floats.nil, window_length hfit, Src.ofSlice w hst _ _ _ _ (window_length hfit) reads ((RelCs.of_vals (w := w) hl).one_ (hcell l))⟩
          | false =>
            rw [cond_false]
            obtain ⟨cs, r1, r2, r3, r4, r5, r6, r7, r8, r9, r10, r11, r12, r13⟩ := h.release e hg hf hWr hT
            rw [L.heap] at r1; cases r1
            have hc2 : RelCs K'.K (ρ.kill r) w (K'.K.flat c l) ((csr.toList.drop sh).take (l.length * K'.K.k c)) ((List.range (K'.K.flat c l).length).map (ρ.f r)) := by
              refine relCs_of _ _ (ρ.f r) (by rw [hlen, window_length hfit]) fun i u hu => ?_
              have hi := (List.getElem?_eq_some_iff.1 hu).1
              obtain ⟨v', g1, g2⟩ := r13 i u hu
              exact ⟨v', by rw [window_get (by omega)]; exact g1, g2⟩
            refine ⟨ρ.kill r, _, _, r5, rfl, r6, hc2, ⟨fun b' hb' => ?_, fun b' hb' => ?_, flatten_map_nodup (fun i => (r10 i).nod) (fun i j b' h1 h2 => r11 i j b' h1 h2) _, fun b' hb' => ?_⟩, window_length hfit, Src.ofSlice w hst _ _ _ _ (window_length hfit) reads (hc2.one_ (hcell l))⟩
            · obtain ⟨i, _, h2⟩ := flatten_map_mem.1 hb'; exact (r10 i).free _ h2
            · obtain ⟨i, _, h2⟩ := flatten_map_mem.1 hb'; exact (r10 i).lt _ h2
            · obtain ⟨i, _, h2⟩ := flatten_map_mem.1 hb'; exact (r10 i).t _ h2
        | rswDead e => have := h.dead _ _ e hg; cases this
        | rswEmp e =>
          obtain ⟨cid', _, h1⟩ := h.emp _ _ e hg
          injection h1 with e1 e2
          subst e1
          cases e2
          cases hp : K'.K.pure c with
          | true => rw [cond_true]; exact ⟨ρ, [], [], h, rfl, Ext.refl _ _ _ _ _, .nil, Floats.nil, by simp, Src.none_ hst⟩
          | false =>
            rw [cond_false]
            obtain ⟨ρ1, k1, k2, k3⟩ := h.kill' (T := T) hWr
            exact ⟨ρ1, [], [], k1, rfl, k2, .nil, Floats.nil, by simp, Src.none_ hst⟩
      · cases ha
    · cases ha
  · rename_i r o n cap
    split at ha
    · rename_i c l hg
      split at ha
      · rename_i hc
        subst hc
        obtain ⟨hp, ha⟩ := cond_some ha
        cases ha
        cases hv with
        | rsl e p1 p2 p3 p4 =>
          rename_i b sh k z q c'
          have hB := h.blk _ _ _ _ _ _ _ e hg
          obtain ⟨_, hf⟩ := rows_flat hB
          obtain ⟨hq, csr, L⟩ := hB.lies hf
          have hq : q = l.length := hq rfl
          subst hq
          have hk : k = K'.K.k c := L.k.trans (hK.size c hcid).symm
          subst hk
          have hon : o + n ≤ l.length := by omega
          have hcl : (cut l o n).length = n := by unfold cut; rw [List.length_take, List.length_drop]; omega
          have hlen := flat_length hK hcid l
          have hon' : o * K'.K.k c + n * K'.K.k c ≤ l.length * K'.K.k c := by rw [← Nat.add_mul]; exact Nat.mul_le_mul_right _ hon
          have hfit : sh + o * K'.K.k c + n * K'.K.k c ≤ csr.size := by have := L.fits; have := L.size; omega
          have hl : RelL K'.K ρ (K'.K.flat c (cut l o n)) ((csr.toList.drop (sh + o * K'.K.k c)).take (n * K'.K.k c)) := by
            refine RelL.of (by rw [flat_length hK hcid, hcl, window_length hfit]) fun i v hv => ?_
            have hm := flat_pure hK hcid hp (cut l o n) v (List.mem_of_getElem? hv)
            have hi : i < n * K'.K.k c := by have := (List.getElem?_eq_some_iff.1 hv).1; rw [flat_length hK hcid, hcl] at this; exact this
            rw [flat_cut hK hcid, List.getElem?_take, if_pos hi, List.getElem?_drop] at hv
            obtain ⟨v', h1, h2⟩ := L.rel _ v hv
            exact ⟨v', by rw [window_get hi, Nat.add_assoc]; exact h1, (h2.val_of hm).1⟩
          refine ⟨ρ, _, _, h, rfl, Ext.refl _ _ _ _ _, RelCs.of_vals hl, by rw [nils_flatten]; exact Floats.nil, by rw [hcl]; exact window_length hfit, ?_⟩
          rw [hcl]
          refine Src.ofSlice w hst _ _ _ _ (window_length hfit) (fun j v hj => ?_) ((RelCs.of_vals (w := w) hl).one_ (hcell _))
          have hj' : j < n * K'.K.k c := by have := (List.getElem?_eq_some_iff.1 hj).1; rw [window_length hfit] at this; exact this
          rw [window_get hj'] at hj
          rw [Addr.add_lit, cell_of_row w b _ csr _ _ L.heap]; exact hj
        | rslDead e => have := h.dead _ _ e hg; cases this
        | rslEmp =>
          have : cut l o 0 = [] := by simp [cut]
          rw [this]
          exact ⟨ρ, [], [], h, rfl, Ext.refl _ _ _ _ _, .nil, Floats.nil, by simp, Src.none_ hst⟩
        | rslNil =>
          have : cut l o 0 = [] := by simp [cut]
          rw [this]
          exact ⟨ρ, [], [], h, rfl, Ext.refl _ _ _ _ _, .nil, Floats.nil, by simp, Src.none_ hst⟩
      · cases ha
    · cases ha
  · cases ha
theorem srcCells_ok (h : RelS E.K P ρ H w) {x : V C} {y : Value} (hv : RelV E.K ρ x y) {size : Nat} {news : List (V C)} {m : Nat} (ha : srcCells E H size x = some (news, m)) (hone : news.all V.one = true) {st e : TypeId} (hst : P.underlying st = some (.slice e)) :
    ∃ L, RelL E.K ρ news L ∧ L.length = m * size ∧ Src P size st y m L w := by
  unfold srcCells at ha
  split at ha
  · cases ha
    cases hv
    exact ⟨[], .nil, by simp, Src.none_ hst⟩
  · rename_i r o m' c
    split at ha
    · rename_i cs t hg
      split at ha
      · rename_i hfit
        cases ha
        cases hv with
        | sl e' p1 p2 p3 =>
          rename_i b sh k z q c'
          obtain ⟨_, csr, L⟩ := (h.blk _ _ _ _ _ _ _ e' hg).lies (c := cs) (t := t) rfl
          obtain ⟨l, l1, l2, _, l3⟩ := L.values o (m * size) hfit (fun v hv => V.one_own (List.all_eq_true.1 hone v hv))
          exact ⟨l, l2, l1, Src.ofSlice w hst _ _ _ _ l1 (fun j v hj => by rw [Addr.add_lit]; exact l3 j v hj) (l2.one_ hone)⟩
        | slDead e' => have := h.dead _ _ e' hg; cases this
        | slEmp =>
          have : (cs.drop o).take (0 * size) = [] := by simp
          rw [this]
          exact ⟨[], .nil, by simp, Src.none_ hst⟩
      · cases ha
    · cases ha
  · cases ha
end
section
variable {E : Env C} {ρ : Ren} {s : AS C} {a : Act} {w : World} {o : Oper} {u : V C} {H' : AStore C} {cs : List Bool}
theorem append_sound (hE : EnvOk E) (hF : RelF E.K ρ s a) (hS : RelS E.K E.P ρ s.H w) {c : Call} {x y : Operand} {t t2 : TypeId} (hc : c.callee = .builtin .append) (hca : c.args = #[x, y]) (hct : c.argTypes = #[t, t2]) (ho : o.op = .call c)
    (h : aop_append E s.val x y t t2 s.H = some (u, H', cs)) (hcs : Conds cs) {W : Cells} (hW : ∀ v, s.val x = some v ∨ s.val y = some v → ∀ r ∈ v.refs1, ∀ i, W r i) : OpRes E.K E.P ρ s.H w (execOp a.eval o) u H' W := by
  unfold aop_append at h
  split at h
  · rename_i sv xv hsx hxx
    split at h
    · rename_i htt
      subst htt
      have hsv := val_rel hF hsx
      have hxv := val_rel hF hxx
      have hexec : ∀ p q, a.eval x = p → a.eval y = q → (execOp a.eval o).run E.P w = ((Builtin.append_ #[t, t] o.type #[p, q]).run E.P w).andThen fun v w => .ok (.value v) w := by
        intro p q hp hq
        simp only [execOp, ho, resolve, hc, hca, hct, Sem.run_bind, Sem.run_pure, Result.andThen_ok, invoke, builtin]
        simp only [List.map_toArray, List.map_cons, List.map_nil, hp, hq]
      generalize hp : a.eval x = p at hsv
      generalize hq : a.eval y = q at hxv
      have hex := hexec p q hp hq
      clear hexec
      unfold aappend at h
      split at h
      · rename_i e _ _ _ _ ht
        split at h
        · rename_i ei hei
          split at h
          · rename_i hpos
            obtain ⟨hpos, hbp⟩ := hpos
            have hT := (hE.ti _ _ ht).under
            have hei' := hE.ti _ _ hei
            obtain ⟨z, hz, hzr, hzs, f, f1, f4, f2, f3⟩ := run_zero (K := E.K) (ρ := ρ) (w := w) hei'
            have nothing : ∀ {b : Option Addr} {n c' : Nat}, n ≤ c' → Src E.P ei.size t q 0 [] w → p = .slice b n c' → (execOp a.eval o).run E.P w = .ok (.value p) w := by
              intro b n c' hle hsrc hpq
              rw [hex, hpq, run_append_nothing w t t o.type e f hT f1 b n c' hle q (by rw [f2]; exact hsrc)]
              rfl
            have key : ∀ {ρ0 ρ1 : Ren} {H1 H2 : AStore C} {w' : World} {v : Value} {uu : V C}, (execOp a.eval o).run E.P w = .ok (.value v) w' → RelV E.K ρ1 uu v → RelS E.K E.P ρ1 H2 w' → H1.n = s.H.n → Ext ρ ρ0 s.H.n W (Touched ρ W) w w → Ext ρ0 ρ1 H1.n W (Touched ρ W) w w' → OpRes E.K E.P ρ s.H w (execOp a.eval o) uu H2 W := by
              intro ρ0 ρ1 H1 H2 w' v uu h1 h2 h3 h4 h5 h6
              exact ⟨ρ1, w', _, v, h1, .inl rfl, h2, h3, h5.trans hS.names (by rw [h4]; exact Nat.le_refl _) h6 (fun _ _ h => .inl h) (fun _ _ h => h)⟩
            split at h
            · -- cells
              split at h
              · rename_i news m hsrc
                split at h
                · -- onto nil
                  cases hsv
                  split at h
                  · rename_i hm0
                    cases h
                    subst hm0
                    have hn0 : news.all V.one = true := by
                      have : news = [] := by
                        unfold srcCells at hsrc
                        split at hsrc
                        · cases hsrc; rfl
                        · split at hsrc
                          · split at hsrc
                            · cases hsrc; simp
                            · cases hsrc
                          · cases hsrc
                        · cases hsrc
                      rw [this]; rfl
                    obtain ⟨L, l1, l2, l3⟩ := srcCells_ok hS hxv hsrc hn0 hT
                    have hL : L = [] := List.length_eq_zero_iff.1 (by omega)
                    subst hL
                    exact ⟨ρ, w, _, _, nothing (Nat.le_refl 0) l3 rfl, .inl rfl, .nilSl, hS, Ext.refl _ _ _ _ _⟩
                  · rename_i hm0
                    obtain ⟨hone, h⟩ := cond_some h
                    cases h
                    obtain ⟨c1, _⟩ := hcs.cons
                    have c1 : m * ei.bytes ≤ 140737488355328 := by simpa using c1
                    obtain ⟨L, l1, l2, l3⟩ := srcCells_ok hS hxv hsrc hone hT
                    obtain ⟨ρ', w', b', z', c', g1, g2, g3, g4, g5, g6⟩ := append_nil (c' := 0) (W := W) (T := Touched ρ W) (ob' := .cells news e) (ty := o.type) (bq := none) hS hT f1 f4 f2 hzs f3 hpos (RelCs.of_vals (w := w) l1) (by rw [nils_flatten]; exact Floats.nil) l2 (by omega) (by rw [f2]; exact l3) c1 hbp rfl (fun h => by cases h)
                    rw [g1] at hex
                    refine ⟨ρ', w', _, _, hex, .inl rfl, ?_, g2, g3⟩
                    have := RelV.sl (K := E.K) (o := 0) (n := m) (c := m) g4 (Nat.le_refl _) g5 (by omega)
                    simpa using this
                · rename_i r off n cc
                  split at h
                  · rename_i cs0 t' hg
                    split at h
                    · rename_i hm0
                      cases h
                      subst hm0
                      obtain ⟨c1, _⟩ := hcs.cons
                      have c1 : n ≤ cc := by simpa using c1
                      have hn0 : news.all V.one = true := by
                        have : news = [] := by
                          unfold srcCells at hsrc
                          split at hsrc
                          · cases hsrc; rfl
                          · split at hsrc
                            · split at hsrc
                              · cases hsrc; simp
                              · cases hsrc
                            · cases hsrc
                          · cases hsrc
                        rw [this]; rfl
                      obtain ⟨L, l1, l2, l3⟩ := srcCells_ok hS hxv hsrc hn0 hT
                      have hL : L = [] := List.length_eq_zero_iff.1 (by omega)
                      subst hL
                      have hshape : ∃ b c', n ≤ c' ∧ p = .slice b n c' := by
                        cases hsv with
                        | sl q1 q2 q3 q4 => exact ⟨_, _, by omega, rfl⟩
                        | slDead q1 => have := hS.dead _ _ q1 hg; cases this
                        | slEmp => exact ⟨_, _, Nat.le_refl _, rfl⟩
                      obtain ⟨b, c', g1, g2⟩ := hshape
                      exact ⟨ρ, w, _, _, nothing g1 l3 g2, .inl rfl, hsv, hS, Ext.refl _ _ _ _ _⟩
                    · rename_i hm0
                      split at h
                      · rename_i hcond
                        obtain ⟨hte, hrn, hwo⟩ := hcond
                        subst hte
                        obtain ⟨hone, h⟩ := cond_some h
                        cases h
                        obtain ⟨c1, hcs⟩ := hcs.cons
                        obtain ⟨c2, _⟩ := hcs.cons
                        have c2 : (n + m) * ei.bytes ≤ 140737488355328 := by simpa using c2
                        obtain ⟨L, l1, l2, l3⟩ := srcCells_ok hS hxv hsrc hone hT
                        have hWr : ∀ i, W r i := hW _ (.inl hsx) r (by simp [V.refs1])
                        cases hsv with
                        | sl q1 q2 q3 q4 =>
                          rename_i b sh k z q c'
                          obtain ⟨ρ', w', b', s', z', c'', g1, g2, g3, g4, g5, g6⟩ := (append_to (T := Touched ρ W) (ty := o.type) (ob' := .cells ((cs0.drop off).take (n * ei.size) ++ news) t') hS q1 hg (c := cs0) (t := t') rfl hT f1 f4 f2 hzs f3 hpos hWr (fun _ h => h) hwo (by omega) q4 (RelCs.of_vals (w := w) l1) (by rw [nils_flatten]; exact Floats.nil) l2 (l1.one_ hone) (by omega) (by rw [f2]; exact l3) c2 hbp rfl (fun h => by cases h)).out
                          rw [g1] at hex
                          refine ⟨ρ', w', _, _, hex, .inl rfl, ?_, g2, g3⟩
                          have := RelV.sl (K := E.K) (o := 0) (n := n + m) (c := n + m) g4 (Nat.le_refl _) g5 (by omega)
                          simpa using this
                        | slDead q1 => have := hS.dead _ _ q1 hg; cases this
                        | slEmp =>
                          obtain ⟨ρ1, k1, k2, k3⟩ := hS.kill' (W := W) (T := Touched ρ W) hWr
                          obtain ⟨ρ', w', b', z', c', g1, g2, g3, g4, g5, g6⟩ := append_nil (c' := 0) (W := W) (T := Touched ρ W) (ob' := .cells news t') (ty := o.type) (bq := some _) k1 hT f1 f4 f2 hzs f3 hpos (RelCs.of_vals (w := w) (l1.mono k2.le)) (by rw [nils_flatten]; exact Floats.nil) l2 (by omega) (by rw [f2]; exact l3) (by simpa using c2) hbp rfl (fun h => by cases h)
                          rw [g1] at hex
                          have e0 : (cs0.drop off).take (0 * ei.size) ++ news = news := by simp
                          rw [e0, Nat.zero_add]
                          refine key (H1 := s.H.upd r .dead) hex ?_ (g2.congr rfl (fun m => get_swap s.H hrn _ m)) rfl k2 g3
                          have := RelV.sl (K := E.K) (o := 0) (n := m) (c := m) g4 (Nat.le_refl _) g5 (by omega)
                          rw [Nat.add_zero] at this
                          exact this
                      · cases h
                  · cases h
                · cases h
              · cases h
            · -- rows
              rename_i cid hcid
              have h2 := cond_none h
              clear h
              obtain ⟨hty, h⟩ := h2
              have hty := Nat.eq_of_beq_eq_true hty
              have hcn := hE.cid _ _ hcid
              subst hty
              have hkk : ei.size = E.K.k cid := by rw [← hE.size hei]; exact (hE.codec.size cid hcn).symm
              split at h
              · rename_i news H1 hsrc
                obtain ⟨ρ1, L, gs, b1, b0, b2, b3, b4, b5, b6⟩ := (srcRows_ok hE.codec hcn rfl hS hxv hsrc (W := W) (T := Touched ρ W) (hW _ (.inr hxx)) (fun _ h => h) hT).out
                have hT1 := touched_later b1.names b2 (fun _ h => h)
                have hL0 : news.length = 0 → L = [] ∧ news = [] ∧ gs = [] := fun h0 => by
                  have e1 : news = [] := List.length_eq_zero_iff.1 h0
                  have e2 : L = [] := List.length_eq_zero_iff.1 (by rw [b5, h0]; simp)
                  have := b3.length
                  subst e1 e2
                  exact ⟨rfl, rfl, List.length_eq_zero_iff.1 (by rw [this.2]; rfl)⟩
                rw [← hkk] at b5 b6
                have honeL := b3.one_ (flat_cell hE.codec hcn news)
                split at h
                · -- onto nil
                  cases h
                  cases hsv
                  obtain ⟨c1, _⟩ := hcs.cons
                  have c1 : news.length * ei.bytes ≤ 140737488355328 := by simpa using c1
                  by_cases hm0 : news.length = 0
                  · obtain ⟨e1, e2, e3⟩ := hL0 hm0
                    subst e1 e2 e3
                    obtain ⟨g1, g2⟩ := b1.pushEmp hcn W (Touched ρ W)
                    exact key (nothing (Nat.le_refl 0) b6 rfl) (.rswEmp (Ren.setM_same ρ1 H1.n .emp)) g1 b0 b2 g2
                  · obtain ⟨ρ', w', b', z', c', g1, g2, g3, g4, g5, g6⟩ := append_nil (c' := 0) (W := W) (T := Touched ρ W) (ob' := .rows cid news) (ty := o.type) (bq := none) b1 hT f1 f4 f2 hzs f3 hpos b3 b4 b5 (by omega) (by rw [f2]; exact b6) c1 hbp (rows_flat' hcn news) (fun _ => rfl)
                    rw [g1] at hex
                    exact key hex (.rsw g4 g5 (by omega)) g2 b0 b2 g3
                · -- onto a whole list
                  rename_i r
                  split at h
                  · rename_i c0 l hg
                    split at h
                    · rename_i hcc
                      subst hcc
                      obtain ⟨hrn, h⟩ := cond_some h
                      have hrn : r < H1.n := by simpa using hrn
                      cases h
                      obtain ⟨c1, _⟩ := hcs.cons
                      have c1 : (l.length + news.length) * ei.bytes ≤ 140737488355328 := by simpa using c1
                      have hWr : ∀ i, W r i := hW _ (.inl hsx) r (by simp [V.refs1])
                      have hfl := flat_length hE.codec hcn l
                      cases hsv.mono b2.le with
                      | rsw q1 q2 q3 =>
                        rename_i b sh k z q' c'
                        have hB := b1.blk _ _ _ _ _ _ _ q1 hg
                        obtain ⟨_, hf⟩ := rows_flat hB
                        obtain ⟨hq', csr, LL⟩ := hB.lies hf
                        have hq' : q' = l.length := hq' rfl
                        subst hq'
                        by_cases hm0 : news.length = 0
                        · obtain ⟨e1, e2, e3⟩ := hL0 hm0
                          subst e1 e2 e3
                          obtain ⟨cs', r1, r2, r3, r4, r5, r6, r7, r8, r9, r10, r11, r12, r13⟩ := b1.release (W := W) (T := Touched ρ W) q1 hg hf hWr hT1
                          have hF0 : ∀ i, ∀ b' ∈ (if i < (E.K.flat c0 l).length then ρ1.f r i else []), b' ∈ ρ1.f r i := fun i b' hb' => mem_if hb'
                          have pl := r5.place (w' := w) (o := .rows c0 (l ++ [])) (c := E.K.flat c0 (l ++ [])) (b := b) (s := sh) (z := z) (q := (l ++ []).length) (W := W) (T := Touched ρ W) (g := fun i => if i < (E.K.flat c0 l).length then ρ1.f r i else []) (rows_flat' hcn _) (fun _ => rfl) r7 r8
                            (fun i b' hb' => ⟨(r10 i).free _ (hF0 i b' hb'), (r10 i).lt _ (hF0 i b' hb'), fun he => r12 i (he ▸ hF0 i b' hb')⟩) (fun i i' b' h1 h2 => r11 i i' b' (hF0 i b' h1) (hF0 i' b' h2)) (fun i => nodup_if (r10 i).nod) r1 r3 (by rw [List.append_nil]; exact r4) (Nat.le_refl _) (fun _ _ _ => rfl) rfl rfl rfl (fun i v hv => by
                              rw [List.append_nil] at hv
                              obtain ⟨v', g1, g2⟩ := r13 i v hv
                              refine ⟨v', g1, ?_⟩
                              rw [if_pos (List.getElem?_eq_some_iff.1 hv).1]
                              exact g2.mono (Ren.le_trans (Ren.le_setM _ (r5.names.dom H1.n (Nat.le_refl _)).1) (Ren.le_setF _ _ _)) fun _ _ => rfl) (fun _ => r9) (fun i b' hb' => (r10 i).t _ (hF0 i b' hb'))
                          rw [← r2] at pl
                          have hlen0 : (l ++ ([] : List (C c0))).length = l.length := by simp
                          rw [hlen0] at pl
                          obtain ⟨pl1, pl2⟩ := pl
                          have hz := pl1.congr (H' := (H1.push (.rows c0 (l ++ []))).upd r .dead) rfl (fun m => get_swap H1 hrn _ m)
                          have hx := r6.trans b1.names (Nat.le_refl _) pl2 (fun _ _ h => .inl h) (fun _ _ h => h)
                          exact key (H1 := H1) (nothing (by omega) b6 rfl) (.rsw (show (Ren.place (ρ1.kill r) H1.n (.to b sh k z l.length) _).m H1.n = _ from Ren.setM_same _ _ _) q2 q3) hz b0 b2 hx
                        · obtain ⟨ρ', w', b', s', z', c'', g1, g2, g3, g4, g5, g6⟩ := (append_to (W := W) (T := Touched ρ W) (ty := o.type) (wo := 0) (n := l.length) (ob' := .rows c0 (l ++ news)) b1 q1 hg hf hT f1 f4 f2 hzs f3 hpos hWr hT1 (by rw [hfl, hkk]; omega) q2 (by omega) b3 b4 b5 honeL (by omega) (by rw [f2]; exact b6) c1 hbp (by
                            rw [rows_flat' hcn, flat_append, List.drop_zero, List.take_of_length_le (by rw [hfl, hkk]; exact Nat.le_refl _)]) (fun _ => by simp [AObj.count])).out
                          rw [Nat.add_zero] at g1
                          rw [g1] at hex
                          refine key (H1 := H1) hex ?_ g2 b0 b2 g3
                          exact .rsw g4 g5 g6
                      | rswDead q1 => have := b1.dead _ _ q1 hg; cases this
                      | rswEmp q1 =>
                        rename_i ad
                        obtain ⟨cid', _, h1⟩ := b1.emp _ _ q1 hg
                        injection h1 with e1 e2
                        subst e1
                        cases e2
                        obtain ⟨ρ2, k1, k2, k3⟩ := b1.kill' (W := W) (T := Touched ρ W) hWr
                        rw [List.nil_append]
                        by_cases hm0 : news.length = 0
                        · obtain ⟨e1, e2, e3⟩ := hL0 hm0
                          subst e1 e2 e3
                          obtain ⟨g1, g2⟩ := k1.pushEmp hcn W (Touched ρ W)
                          exact key (H1 := H1) (nothing (Nat.le_refl 0) b6 rfl) (.rswEmp (Ren.setM_same ρ2 _ .emp)) (g1.congr rfl (fun m => get_swap H1 hrn _ m)) b0 b2 (k2.trans b1.names (Nat.le_refl _) g2 (fun _ _ h => .inl h) (fun _ _ h => h))
                        · obtain ⟨ρ', w', b', z', c', g1, g2, g3, g4, g5, g6⟩ := append_nil (c' := 0) (W := W) (T := Touched ρ W) (ob' := .rows c0 news) (ty := o.type) (bq := ad) k1 hT f1 f4 f2 hzs f3 hpos (b3.mono k2.le fun _ _ => rfl) (b4.less k3) b5 (by omega) (by rw [f2]; exact b6) (by simpa using c1) hbp (rows_flat' hcn news) (fun _ => rfl)
                          rw [g1] at hex
                          exact key (H1 := H1) hex (.rsw g4 g5 (by omega)) (g2.congr rfl (fun m => get_swap H1 hrn _ m)) b0 b2 (k2.trans b1.names (Nat.le_refl _) g3 (fun _ _ h => .inl h) (fun _ _ h => h))
                    · cases h
                  · cases h
                · -- onto a part of a list
                  rename_i r off n cc
                  split at h
                  · rename_i c0 l hg
                    split at h
                    · rename_i hcc
                      subst hcc
                      obtain ⟨hrn, h⟩ := cond_some h
                      have hrn : r < H1.n := by simpa using hrn
                      cases h
                      obtain ⟨c0', hcs⟩ := hcs.cons
                      obtain ⟨c1, _⟩ := hcs.cons
                      have c1 : (n + news.length) * ei.bytes ≤ 140737488355328 := by simpa using c1
                      have hWr : ∀ i, W r i := hW _ (.inl hsx) r (by simp [V.refs1])
                      have hfl := flat_length hE.codec hcn l
                      have emp : n = 0 → (∃ ad, p = .slice ad 0 0) → OpRes E.K E.P ρ s.H w (execOp a.eval o) (.rsw H1.n) ((H1.push (.rows c0 (cut l off n ++ news))).upd r .dead) W := by
                        rintro rfl ⟨ad, hpa⟩
                        have e0 : cut l off 0 ++ news = news := by simp [cut]
                        rw [e0]
                        rw [hpa] at hex
                        obtain ⟨ρ2, k1, k2, k3⟩ := b1.kill' (W := W) (T := Touched ρ W) hWr
                        by_cases hm0 : news.length = 0
                        · obtain ⟨e1, e2, e3⟩ := hL0 hm0
                          subst e1 e2 e3
                          obtain ⟨g1, g2⟩ := k1.pushEmp hcn W (Touched ρ W)
                          have hno := nothing (Nat.le_refl 0) b6 hpa
                          rw [hpa] at hno
                          exact key (H1 := H1) hno (.rswEmp (Ren.setM_same ρ2 _ .emp)) (g1.congr rfl (fun m => get_swap H1 hrn _ m)) b0 b2 (k2.trans b1.names (Nat.le_refl _) g2 (fun _ _ h => .inl h) (fun _ _ h => h))
                        · obtain ⟨ρ', w', b', z', c', g1, g2, g3, g4, g5, g6⟩ := append_nil (c' := 0) (W := W) (T := Touched ρ W) (ob' := .rows c0 news) (ty := o.type) (bq := ad) k1 hT f1 f4 f2 hzs f3 hpos (b3.mono k2.le fun _ _ => rfl) (b4.less k3) b5 (by omega) (by rw [f2]; exact b6) (by simpa using c1) hbp (rows_flat' hcn news) (fun _ => rfl)
                          rw [g1] at hex
                          exact key (H1 := H1) hex (.rsw g4 g5 (by omega)) (g2.congr rfl (fun m => get_swap H1 hrn _ m)) b0 b2 (k2.trans b1.names (Nat.le_refl _) g3 (fun _ _ h => .inl h) (fun _ _ h => h))
                      have hsv1 := hsv.mono b2.le
                      cases hsv1 with
                      | rsl q1 q2 q3 q4 q5 =>
                        rename_i b sh k z q' c'
                        have hB := b1.blk _ _ _ _ _ _ _ q1 hg
                        obtain ⟨_, hf⟩ := rows_flat hB
                        obtain ⟨hq', csr, LL⟩ := hB.lies hf
                        have hq' : q' = l.length := hq' rfl
                        subst hq'
                        have hk : k = E.K.k c0 := LL.k.trans (hE.codec.size c0 hcn).symm
                        have hon : off + n ≤ l.length := by omega
                        have hcl : (cut l off n).length = n := by unfold cut; rw [List.length_take, List.length_drop]; omega
                        have hwo : off * k + n * ei.size ≤ (E.K.flat c0 l).length := by
                          rw [hfl, hkk, hk, ← Nat.add_mul]; exact Nat.mul_le_mul_right _ hon
                        have hcap : sh + off * k + c' * k ≤ z := by rw [Nat.add_assoc, ← Nat.add_mul]; exact q5
                        have hflat : E.K.flat c0 (cut l off n ++ news) = ((E.K.flat c0 l).drop (off * k)).take (n * ei.size) ++ E.K.flat c0 news := by
                          rw [flat_append, flat_cut hE.codec hcn, hk, hkk]
                        by_cases hm0 : news.length = 0
                        · obtain ⟨e1, e2, e3⟩ := hL0 hm0
                          subst e1 e2 e3
                          obtain ⟨cs', r1, r2, r3, r4, r5, r6, r7, r8, r9, r10, r11, r12, r13⟩ := b1.release (W := W) (T := Touched ρ W) q1 hg hf hWr hT1
                          have hF0 : ∀ i, ∀ b' ∈ (if i < n * ei.size then ρ1.f r (off * k + i) else []), b' ∈ ρ1.f r (off * k + i) := fun i b' hb' => mem_if hb'
                          have hlenf : (E.K.flat c0 (cut l off n ++ [])).length = n * ei.size := by rw [List.append_nil, flat_length hE.codec hcn, hcl, hkk]
                          have hle2 : n * ei.size ≤ c' * k := by rw [hkk, ← hk]; exact Nat.mul_le_mul_right _ (by omega)
                          have pl := r5.place (w' := w) (o := .rows c0 (cut l off n ++ [])) (c := E.K.flat c0 (cut l off n ++ [])) (b := b) (s := sh + off * k) (z := z) (q := (cut l off n ++ []).length) (W := W) (T := Touched ρ W) (g := fun i => if i < n * ei.size then ρ1.f r (off * k + i) else []) (rows_flat' hcn _) (fun _ => rfl) r7 r8
                            (fun i b' hb' => ⟨(r10 _).free _ (hF0 i b' hb'), (r10 _).lt _ (hF0 i b' hb'), fun he => r12 _ (he ▸ hF0 i b' hb')⟩) (fun i i' b' h1 h2 => by have := r11 _ _ b' (hF0 i b' h1) (hF0 i' b' h2); omega) (fun i => nodup_if (r10 _).nod) r1 r3 (by rw [hlenf]; omega) (Nat.le_refl _) (fun _ _ _ => rfl) rfl rfl rfl (fun i v hv => by
                              have hi : i < n * ei.size := by have := (List.getElem?_eq_some_iff.1 hv).1; omega
                              rw [hflat, flat_nil, List.append_nil, List.getElem?_take, if_pos hi, List.getElem?_drop] at hv
                              obtain ⟨v', g1, g2⟩ := r13 _ v hv
                              refine ⟨v', by rw [Nat.add_assoc]; exact g1, ?_⟩
                              rw [if_pos hi]
                              exact g2.mono (Ren.le_trans (Ren.le_setM _ (r5.names.dom H1.n (Nat.le_refl _)).1) (Ren.le_setF _ _ _)) fun _ _ => rfl) (fun _ => r9) (fun i b' hb' => (r10 _).t _ (hF0 i b' hb'))
                          rw [← r2] at pl
                          have hlen0 : (cut l off n ++ ([] : List (C c0))).length = n := by rw [List.append_nil, hcl]
                          rw [hlen0] at pl
                          obtain ⟨pl1, pl2⟩ := pl
                          have hz := pl1.congr (H' := (H1.push (.rows c0 (cut l off n ++ []))).upd r .dead) rfl (fun m => get_swap H1 hrn _ m)
                          have hx := r6.trans b1.names (Nat.le_refl _) pl2 (fun _ _ h => .inl h) (fun _ _ h => h)
                          exact key (H1 := H1) (nothing (by omega) b6 rfl) (.rsw (show (Ren.place (ρ1.kill r) H1.n (.to b (sh + off * k) k z n) _).m H1.n = _ from Ren.setM_same _ _ _) (by omega) hcap) hz b0 b2 hx
                        · obtain ⟨ρ', w', b', s', z', c'', g1, g2, g3, g4, g5, g6⟩ := (append_to (W := W) (T := Touched ρ W) (ty := o.type) (wo := off * k) (n := n) (ob' := .rows c0 (cut l off n ++ news)) b1 q1 hg hf hT f1 f4 f2 hzs f3 hpos hWr hT1 hwo (by omega) hcap b3 b4 b5 honeL (by omega) (by rw [f2]; exact b6) c1 hbp (by
                            rw [rows_flat' hcn, hflat]) (fun _ => by simp [AObj.count, hcl])).out
                          rw [g1] at hex
                          exact key (H1 := H1) hex (.rsw g4 g5 g6) g2 b0 b2 g3
                      | rslDead q1 => have := b1.dead _ _ q1 hg; cases this
                      | rslEmp => exact emp rfl ⟨_, rfl⟩
                      | rslNil => exact emp rfl ⟨_, rfl⟩
                    · cases h
                  · cases h
                · cases h
              · cases h
          · cases h
        · cases h
      · cases h
    · cases h
  · cases h
end
end Go.Vm
/- A generic text: every operation together; running an operation. No program. -/
set_option linter.unusedVariables false
set_option linter.unusedSimpArgs false
namespace Go.Vm
open Go
variable {C : Nat → Type}
/-- the roots that an operand tells at once -/
def V.roots : V C → List Nat
  | .ptr r _ => [r]
  | .eptr r _ _ => [r]
  | .aptr r _ _ _ => [r]
  | .map r => [r]
  | v => v.refs
theorem V.roots_refs (v : V C) : ∀ r ∈ v.refs, r ∈ v.roots := by
  intro r hr
  cases v <;> first | exact hr | (simp [V.refs, V.refs1] at hr)
theorem V.refs_1 (v : V C) : ∀ r ∈ v.refs1, r ∈ v.refs := by
  intro r hr
  cases v <;> first | exact hr | (simp [V.refs1] at hr)
/-- what may be written, for an operation -/
def WFor (s : AS C) (o : Oper) (W : Cells) : Prop := ∀ x ∈ o.op.operands, ∀ v, s.val x = some v → ∀ r ∈ v.roots, ∀ i, W r i
theorem parts_mem {v : Vals C} : ∀ {l : List (Nat × Operand)} {ps : List (Nat × V C)}, v.parts l = some ps → ∀ p ∈ ps, ∃ x, (∃ i, (i, x) ∈ l) ∧ v x = some p.2
  | [], ps, h, p, hp => by simp only [Vals.parts, Option.some.injEq] at h; subst h; cases hp
  | (i, x) :: l, ps, h, p, hp => by
    simp only [Vals.parts] at h
    split at h
    · rename_i u us hu hus
      cases h
      rcases List.mem_cons.1 hp with rfl | hp
      · exact ⟨x, ⟨i, by simp⟩, hu⟩
      · obtain ⟨x', ⟨i', h1⟩, h2⟩ := parts_mem hus p hp
        exact ⟨x', ⟨i', by simp [h1]⟩, h2⟩
    · cases h
section
variable {E : Env C} {ρ : Ren} {s : AS C} {a : Act} {w : World} {o : Oper} {u : V C} {H' : AStore C} {cs : List Bool}
theorem aop_sound (hE : EnvOk E) (hF : RelF E.K ρ s a) (hS : RelS E.K E.P ρ s.H w) (h : aop E s.val o s.H = some (u, H', cs)) (hcs : Conds cs) {W : Cells} (hW : WFor s o W) : OpRes E.K E.P ρ s.H w (execOp a.eval o) u H' W := by
  unfold aop at h
  split at h
  all_goals rename_i ho
  all_goals first
    | exact (move_sound hF (.inl ho) h).res hS W
    | exact (move_sound hF (.inr ho) h).res hS W
    | exact (pick_sound hF ho h).res hS W
    | exact alloc_sound hE hS ho h W
    | exact box_sound hF hS ho h W
    | exact (load_sound hE hF hS ho h hcs).res hS W
    | exact (nilCheck_sound hF ho h).res hS W
    | exact (fieldAddr_sound hE hF ho h).res hS W
    | exact (field_sound hE hF ho h).res hS W
    | exact (index_sound hE hF ho h hcs).res hS W
    | exact (indexAddr_sound hE hF hS ho h hcs).res hS W
    | exact (extract_sound hF ho h).res hS W
    | exact (makeFunc_sound hF ho h).res hS W
    | exact (makeInterface_sound hE hF ho h).res hS W
    | exact (build_sound hE hF ho h).res hS W
    | exact makeSlice_sound hE hF hS ho h hcs W
    | exact (slice_sound hE hF hS ho h hcs).res hS W
    | exact (binOp_sound hE hF ho h hcs).res hS W
    | exact (len_sound hE hF hS rfl rfl rfl ho h).res hS W
    | exact (cap_sound hE hF rfl rfl rfl ho h).res hS W
    | exact (min_sound hF rfl rfl ho h).res hS W
    | exact (max_sound hF rfl rfl ho h).res hS W
    | exact (not_sound hF ho h).res hS W
    | exact (neg_sound hF ho h).res hS W
    | exact (convert_sound hE hF hS ho h).res hS W
    | exact (plain_sound hF h).res hS W
    | (cases h; done)
    | skip
  · rename_i t x y
    have hx : x ∈ o.op.operands := by rw [ho]; simp [Op.operands]
    have hy : y ∈ o.op.operands := by rw [ho]; simp [Op.operands]
    exact store_sound hE hF hS ho h hcs (fun r off uu h1 _ i _ _ => hW x hx _ h1 r (by simp [V.roots]) i) (fun r i' j h1 i => hW x hx _ h1 r (by simp [V.roots]) i) (fun r i' j uu _ h2 r' hr i => hW y hy _ h2 r' (V.roots_refs _ _ hr) i)
  · rename_i t len parts
    refine buildSlice_sound hE hF hS ho h (fun ps hps p hp r hr i => ?_)
    obtain ⟨x, ⟨i', h1⟩, h2⟩ := parts_mem hps p hp
    refine hW x ?_ _ h2 r (V.roots_refs _ _ hr) i
    rw [ho]
    simp only [Op.operands, List.mem_toArray, List.mem_map]
    exact ⟨_, h1, rfl⟩
  · rename_i x y st xt
    refine append_sound hE hF hS rfl rfl rfl ho h hcs (fun v hv r hr i => ?_)
    rcases hv with hv | hv
    · exact hW x (by rw [ho]; simp [Op.operands, Call.operands]) _ hv r (V.roots_refs _ _ (V.refs_1 _ _ hr)) i
    · exact hW y (by rw [ho]; simp [Op.operands, Call.operands]) _ hv r (V.roots_refs _ _ (V.refs_1 _ _ hr)) i
/-- an operation that leaves the store -/
def isP : Op → Bool
  | .move _ | .assign _ | .pick .. | .load .. | .build .. | .fieldAddr .. | .field .. | .indexAddr .. | .index .. | .extract .. | .makeFunc .. | .makeInterface .. | .slice .. | .binOp .. | .unOp .. | .convert .. | .nilCheck _ | .typeAssert .. => true
  | .call { callee := .builtin .len, .. } | .call { callee := .builtin .cap, .. } | .call { callee := .builtin .min, .. } | .call { callee := .builtin .max, .. } => true
  | _ => false
theorem aop_pure (ht : isP o.op = true) (hE : EnvOk E) (hF : RelF E.K ρ s a) (hS : RelS E.K E.P ρ s.H w) (h : aop E s.val o s.H = some (u, H', cs)) (hcs : Conds cs) : OpPure E.K E.P ρ s.H w (execOp a.eval o) u H' := by
  unfold aop at h
  split at h
  all_goals rename_i ho
  all_goals first
    | exact (move_sound hF (.inl ho) h)
    | exact (move_sound hF (.inr ho) h)
    | exact (pick_sound hF ho h)
    | exact (load_sound hE hF hS ho h hcs)
    | exact (nilCheck_sound hF ho h)
    | exact (fieldAddr_sound hE hF ho h)
    | exact (field_sound hE hF ho h)
    | exact (index_sound hE hF ho h hcs)
    | exact (indexAddr_sound hE hF hS ho h hcs)
    | exact (extract_sound hF ho h)
    | exact (makeFunc_sound hF ho h)
    | exact (makeInterface_sound hE hF ho h)
    | exact (build_sound hE hF ho h)
    | exact (slice_sound hE hF hS ho h hcs)
    | exact (binOp_sound hE hF ho h hcs)
    | exact (len_sound hE hF hS rfl rfl rfl ho h)
    | exact (cap_sound hE hF rfl rfl rfl ho h)
    | exact (min_sound hF rfl rfl ho h)
    | exact (max_sound hF rfl rfl ho h)
    | exact (not_sound hF ho h)
    | exact (neg_sound hF ho h)
    | exact (convert_sound hE hF hS ho h)
    | exact (plain_sound hF h)
    | (exfalso; rw [ho] at ht; revert ht; simp [isP]; done)
    | (cases h; done)
end
end Go.Vm
/- A generic text: running regions: definitions; lists of operations. No program. -/
set_option linter.unusedVariables false
set_option linter.unusedSimpArgs false
set_option linter.unusedSectionVars false
namespace Go.Vm
open Go
variable {C : Nat → Type} {D : Type}

def AllP : List Prop → Prop
  | [] => True
  | p :: l => p ∧ AllP l
theorem AllP.append : ∀ {l l' : List Prop}, AllP (l ++ l') ↔ AllP l ∧ AllP l'
  | [], l' => by simp [AllP]
  | p :: l, l' => by
    rw [List.cons_append]
    show p ∧ AllP (l ++ l') ↔ (p ∧ AllP l) ∧ AllP l'
    rw [AllP.append, and_assoc]
def bools (cs : List Bool) : List Prop := cs.map (· = true)
theorem bools_conds : ∀ {cs : List Bool}, AllP (bools cs) → Conds cs
  | [], _ => fun _ h => by cases h
  | c :: cs, h => by
    have h' : c = true ∧ AllP (bools cs) := h
    intro b hb
    rcases List.mem_cons.1 hb with rfl | hb
    · exact h'.1
    · exact bools_conds h'.2 b hb
/-! ### operations, calls among them; 'D': what is decided ahead -/
/-- what is decided of a test: its outcome, or nothing: it tells itself -/
class Tst (D : Type) where
  tst : List D → Option (Option Bool × List D)
  bs : List Bool → Option (List Prop)
  bs_ok : ∀ {cs : List Bool} {ps : List Prop}, bs cs = some ps → AllP ps → AllP (bools cs)
  same : {C : Nat → Type} → V C → V C → Option (List Prop)
  same_ok : ∀ {C : Nat → Type} {u v : V C} {ps : List Prop}, same u v = some ps → AllP ps → u = v
variable [Tst D]
abbrev CallF (C : Nat → Type) (D : Type) := V C → List (V C) → AStore C → List D → Option (V C × AStore C × List Prop × List D)
noncomputable def ares (E : Env C) (call : CallF C D) (o : Oper) (s : AS C) (ds : List D) : Option (V C × AStore C × List Prop × List D) :=
  match o.op with
  | .call { callee := .value f, args, .. } =>
    match s.val f, Vals.all s.val args.toList with
    | some f, some as => call f as s.H ds
    | _, _ => none
  | .pick c x y => match s.val c, s.val x, s.val y with
    | some (.bool t), some xv, some yv => match Tst.tst ds with
      | some (some z, ds') => some (cond z xv yv, s.H, [t = z], ds')
      | some (none, ds') => some (choose2 t xv yv, s.H, [], ds')
      | none => none
    | _, _, _ => none
  | _ => match aop E s.val o s.H with
    | some (u, H, cs) => match Tst.bs D cs with
      | some ps => some (u, H, ps, ds)
      | none => none
    | none => none
noncomputable def wantedA (ops : List Oper) (s : AS C) (o : Oper) (ds : List D) : Option (Bool × List Prop × List D) :=
  match o.guard with
  | none => some (true, [], ds)
  | some (j, want) =>
    match ops[j]? with
    | some p => match p.dst with
      | some d => match s.val (.tmp d) with
        | some (.bool b) => match Tst.tst ds with
          | some (some x, ds') => some (x == want, [b = x], ds')
          | some (none, ds') => some (b == want, [], ds')
          | none => none
        | some (.tuple _) => some (false, [], ds)
        | _ => none
      | none => none
    | none => none
noncomputable def runV (E : Env C) (call : CallF C D) (ops : List Oper) (o : Oper) (s : AS C) (ds : List D) : Option (V C × AStore C × List Prop × List D) :=
  match wantedA ops s o ds with
  | some (true, ps, ds1) => match ares E call o s ds1 with
    | some (u, H, qs, ds2) => some (u, H, ps ++ qs, ds2)
    | none => none
  | some (false, ps, ds1) => some (.tuple [], s.H, ps, ds1)
  | none => none
noncomputable def runOp (E : Env C) (call : CallF C D) (ops : List Oper) (o : Oper) (s : AS C) (ds : List D) : Option (AS C × List Prop × List D) :=
  match runV E call ops o s ds with
  | some (u, H, ps, ds') => match s.put o.dst u H with
    | some s' => some (s', ps, ds')
    | none => none
  | none => none
noncomputable def runOps (E : Env C) (call : CallF C D) (ops : List Oper) : List Oper → AS C → List D → Option (AS C × List Prop × List D)
  | [], s, ds => some (s, [], ds)
  | o :: l, s, ds => match runOp E call ops o s ds with
    | some (s1, ps, ds1) => match runOps E call ops l s1 ds1 with
      | some (s2, qs, ds2) => some (s2, ps ++ qs, ds2)
      | none => none
    | none => none
/-! ### what calls come to -/
def Came (E : Env C) (ρ : Ren) (H : AStore C) (w : World) (u : V C) (H' : AStore C) (W : Cells) (e : Ending) (w' : World) : Prop :=
  ∃ ρ' v, e = .returned v ∧ RelV E.K ρ' u v ∧ RelS E.K E.P ρ' H' w' ∧ Ext ρ ρ' H.n W (Touched ρ W) w w'
/-- the objects that are there, whole -/
def WAll (H : AStore C) : Cells := fun r _ => H.get r ≠ none
def CallOk (E : Env C) (call : CallF C D) : Prop :=
  ∀ f as H ds u H' ps ds', call f as H ds = some (u, H', ps, ds') → AllP ps → ∀ ρ f' as' w, RelV E.K ρ f f' → RelL E.K ρ as as' → RelS E.K E.P ρ H w →
    ∃ g a' c' F, f' = .func (.func g) a' c' ∧ E.P.funcs[g]? = some F ∧ (F.name == "runtime.NumGoroutine") = false ∧ F.body.isNone = false ∧ Calls E.P g (a' ++ as'.toArray ++ c') w (Came E ρ H w u H' (WAll H))
section
variable {E : Env C} {call : CallF C D} {ρ : Ren} {s s' : AS C} {a : Act} {w : World} {o : Oper} {u : V C} {H' : AStore C} {K : Act → World → Prop} {Q : Exit → Act → World → Prop} {ds ds' : List D} {ps : List Prop}
theorem put_defers_ (a : Act) (d : Option Tmp) (v : Value) : (a.put d v).defers = a.defers := by cases d <;> rfl
/-- what an operation does, whatever it was called from -/
def Does (P : Program) (m : Sem Next) (w : World) (R : Value → World → Prop) : Prop :=
  match m.run P w with
  | .ok (.value v) w' => R v w'
  | .ok .skip w' => R undef w'
  | .ok (.enter f args) w' => Calls P f args w' fun e w'' => ∃ v, e = .returned v ∧ R v w''
  | _ => False
theorem Does.wp {P : Program} (h : Does P (execOp a.eval o) w fun v w' => K (a.put o.dst v) w') : o.wp P a w K Q := by
  unfold Does at h
  unfold Oper.wp
  split at h
  · rename_i hr; rw [hr]; exact h
  · rename_i hr; rw [hr]; exact h
  · rename_i hr
    rw [hr]
    refine Calls.mono h ?_
    rintro e w' ⟨v, rfl, hv⟩
    exact hv
  · exact h.elim
theorem Does.mono {P : Program} {m : Sem Next} {R R' : Value → World → Prop} (h : Does P m w R) (hr : ∀ v w', R v w' → R' v w') : Does P m w R' := by
  unfold Does at h ⊢
  split at h
  · rename_i hq; exact hr _ _ h
  · rename_i hq; exact hr _ _ h
  · rename_i hq
    refine Calls.mono h ?_
    rintro e w' ⟨v, rfl, hv⟩
    exact ⟨v, rfl, hr _ _ hv⟩
  · exact h.elim
/-- an operation's effect, held against the abstract one -/
def Res (E : Env C) (ρ : Ren) (H : AStore C) (w : World) (u : V C) (H' : AStore C) (W : Cells) (v : Value) (w' : World) : Prop := ∃ ρ', RelV E.K ρ' u v ∧ RelS E.K E.P ρ' H' w' ∧ Ext ρ ρ' H.n W (Touched ρ W) w w'
theorem does_of {m : Sem Next} {H : AStore C} {W : Cells} (h : OpRes E.K E.P ρ H w m u H' W) : Does E.P m w (Res E ρ H w u H' W) := by
  obtain ⟨ρ', w', nx, v, h1, h2, h3, h4, h5⟩ := h
  unfold Does
  rw [h1]
  rcases h2 with rfl | ⟨rfl, rfl⟩
  · exact ⟨ρ', h3, h4, h5⟩
  · exact ⟨ρ', h3, h4, h5⟩
theorem Ext.widerT {ρ ρ' : Ren} {n : Nat} {W W' : Cells} {w w' : World} (h : Ext ρ ρ' n W (Touched ρ W) w w') (hW : ∀ r i, W r i → W' r i) : Ext ρ ρ' n W' (Touched ρ W') w w' :=
  h.wider hW fun _ _ ht => ht.mono hW
theorem choose2_lit (t : Bool) (x y : V C) : choose2 t x y = cond t x y := by
  unfold choose2
  split
  · cases t <;> rfl
  · rename_i k p k' q
    cases hb : Nat.beq k.ctorIdx k'.ctorIdx with
    | false => rfl
    | true =>
      have : k = k' := sameKind_eq hb
      subst this
      cases t <;> rfl
  · rfl
/-- a choice that is decided -/
theorem pick_res {c x y : Operand} (ho : o.op = .pick c x y) (h : (match s.val c, s.val x, s.val y with
    | some (.bool t), some xv, some yv => match Tst.tst ds with
      | some (some z, ds') => some (cond z xv yv, s.H, [t = z], ds')
      | some (none, ds') => some (choose2 t xv yv, s.H, [], ds')
      | none => none
    | _, _, _ => none : Option (V C × AStore C × List Prop × List D)) = some (u, H', ps, ds')) (hps : AllP ps) : aop E s.val o s.H = some (u, H', []) := by
  have e : aop E s.val o s.H = aop_pick E s.val c x y s.H := by unfold aop; rw [ho]
  rw [e]
  unfold aop_pick
  split at h
  · rename_i t xv yv h1 h2 h3
    rw [h1, h2, h3]
    split at h
    · rename_i z d1 hz
      cases h
      have : t = z := hps.1
      subst this
      show some (choose2 t xv yv, s.H, []) = _
      rw [choose2_lit]
    · cases h; rfl
    · cases h
  · cases h
theorem op_does (hE : EnvOk E) (hcall : CallOk E call) (hF : RelF E.K ρ s a) (hS : RelS E.K E.P ρ s.H w) (h : ares E call o s ds = some (u, H', ps, ds')) (hps : AllP ps) {W : Cells} (hW : (∀ c f, o.op = .call c → c.callee ≠ .value f) → WFor s o W) (hWA : ∀ r i, WAll s.H r i → W r i) :
    Does E.P (execOp a.eval o) w (Res E ρ s.H w u H' W) := by
  unfold ares at h
  split at h
  · rename_i f args _ ho
    split at h
    · rename_i fv as hf has
      obtain ⟨g, a', c', F, e1, e2, e3, e4, e5⟩ := hcall _ _ _ _ _ _ _ _ h hps ρ (a.eval f) (args.toList.map a.eval) w (val_rel hF hf) (vals_all hF _ _ has) hS
      have hargs : args.map a.eval = (args.toList.map a.eval).toArray := by apply Array.ext'; simp
      have hrun : (execOp a.eval o).run E.P w = .ok (.enter g (a' ++ (args.toList.map a.eval).toArray ++ c')) w := by
        simp only [execOp, ho, resolve, e1, Deferred.ofValue, Sem.run_bind, Sem.run_pure, Result.andThen_ok, invoke, callFunc, run_program, e2, e3, e4, hargs, Bool.false_eq_true, if_false]
      unfold Does
      rw [hrun]
      refine Calls.mono e5 ?_
      rintro e w' ⟨ρ', v, rfl, h1, h2, h3⟩
      exact ⟨v, rfl, ρ', h1, h2, h3.widerT hWA⟩
    · cases h
  · rename_i c x y ho
    exact does_of (aop_sound hE hF hS (pick_res ho h hps) (fun _ hb => by cases hb) (hW fun c f hc hcf => by rw [ho] at hc; cases hc))
  · rename_i hno _
    split at h
    · rename_i hr
      split at h
      case h_2 => cases h
      rename_i hbs
      cases h
      refine does_of (aop_sound hE hF hS hr (bools_conds (Tst.bs_ok hbs hps)) (hW fun c f hc hcf => ?_))
      cases c
      simp only [] at hcf
      subst hcf
      first | exact hno _ _ hc | exact hno _ _ _ hc | exact hno _ _ _ _ hc | exact hno _ _ _ _ _ hc
    · cases h
/-- one that leaves the store -/
theorem op_pure (ht : isP o.op = true) (hE : EnvOk E) (hF : RelF E.K ρ s a) (hS : RelS E.K E.P ρ s.H w) (h : ares E call o s ds = some (u, H', ps, ds')) (hps : AllP ps) : ∃ v, (execOp a.eval o).run E.P w = .ok (.value v) w ∧ RelV E.K ρ u v := by
  unfold ares at h
  split at h
  · rename_i ho; rw [ho] at ht; simp [isP] at ht
  · rename_i c x y ho
    exact (aop_pure ht hE hF hS (pick_res ho h hps) (fun _ hb => by cases hb)).2
  · split at h
    · rename_i hr
      split at h
      case h_2 => cases h
      rename_i hbs
      cases h
      exact (aop_pure ht hE hF hS hr (bools_conds (Tst.bs_ok hbs hps))).2
    · cases h
theorem wanted_rel {ops : Array Oper} (hF : RelF E.K ρ s a) {b : Bool} (h : wantedA ops.toList s o ds = some (b, ps, ds')) (hps : AllP ps) : Region.wanted o (yielded ops a.tmps) = b := by
  unfold wantedA at h
  unfold Region.wanted
  cases hg : o.guard with
  | none => rw [hg] at h; simp only [Option.some.injEq, Prod.mk.injEq] at h; exact h.1
  | some jw =>
    obtain ⟨j, want⟩ := jw
    rw [hg] at h
    simp only [] at h ⊢
    split at h
    · rename_i p hp
      rw [Array.getElem?_toList] at hp
      split at h
      · rename_i d hd
        have hy : ∀ u v, s.val (.tmp d) = some u → a.tmps[d]? = some v → RelV E.K ρ u v := by
          intro u v hu hv
          have := val_rel hF hu
          simp only [Act.eval, Array.getD_eq_getD_getElem?, hv, Option.getD_some] at this
          exact this
        have hlt : ∀ u, s.val (.tmp d) = some u → d < a.tmps.size := by
          intro u hu
          rw [hF.size]
          simp only [AS.val] at hu
          cases hb : Nat.ble (Nat.succ d) s.sz with
          | false => rw [hb] at hu; cases hu
          | true => exact Nat.lt_of_succ_le (Nat.le_of_ble_eq_true hb)
        have hyd : yielded ops a.tmps j = match a.tmps[d]? with | some (.bool b) => some b | _ => none := by
          unfold yielded
          rw [hp]
          simp only [Option.bind_some, hd]
          generalize a.tmps[d]? = y
          cases y with
          | none => rfl
          | some v => cases v <;> rfl
        split at h
        · rename_i x hx
          have h1 := hlt _ hx
          have hb : (x == want) = b := by
            split at h
            · rename_i y ds1 ht
              cases h
              have : x = y := hps.1
              rw [this]
            · cases h; rfl
            · cases h
          rw [hyd, Array.getElem?_eq_getElem h1, ← hb]
          generalize hz : a.tmps[d] = z
          have h3 := hy _ _ hx (Array.getElem?_eq_getElem h1)
          rw [hz] at h3
          cases h3
          rfl
        · rename_i x hx
          simp only [Option.some.injEq, Prod.mk.injEq] at h
          obtain ⟨h, _, _⟩ := h
          have h1 := hlt _ hx
          rw [hyd, Array.getElem?_eq_getElem h1, ← h]
          generalize hz : a.tmps[d] = z
          have h3 := hy _ _ hx (Array.getElem?_eq_getElem h1)
          rw [hz] at h3
          cases h3
          rfl
        · cases h
      · cases h
    · cases h
/-- the cells of every object -/
def WA : Cells := fun _ _ => True
theorem runOps_wp (hE : EnvOk E) (hcall : CallOk E call) {ops : Array Oper} : ∀ (l : List Oper) (s : AS C) (ds : List D) (ps : List Prop) (ρ : Ren) (a : Act) (w : World), runOps E call ops.toList l s ds = some (s', ps, ds') → AllP ps → RelF E.K ρ s a → RelS E.K E.P ρ s.H w →
    (∀ ρ' a' w', RelF E.K ρ' s' a' → RelS E.K E.P ρ' s'.H w' → Ext ρ ρ' s.H.n WA (Touched ρ WA) w w' → a'.defers = a.defers → Q .normal a' w') → wpList E.P ops Q l a w
  | [], s, ds, ps, ρ, a, w, h, hps, hF, hS, hQ => by
    simp only [runOps, Option.some.injEq, Prod.mk.injEq] at h
    obtain ⟨rfl, _, _⟩ := h
    exact hQ ρ a w hF hS (Ext.refl _ _ _ _ _) rfl
  | o :: l, s, ds, ps, ρ, a, w, h, hps, hF, hS, hQ => by
    simp only [runOps] at h
    split at h
    · rename_i s1 p1 ds1 h1
      split at h
      · rename_i s2 p2 ds2 h2
        cases h
        obtain ⟨hp1, hp2⟩ := AllP.append.1 hps
        unfold runOp runV at h1
        split at h1
        · rename_i u H' q1 dq hr
          split at h1
          · rename_i s1' hput
            cases h1
            split at hr
            · rename_i pw dw hw
              split at hr
              case h_2 => cases hr
              rename_i u0 H0 q0 d0 hr0
              cases hr
              obtain ⟨hpw, hp1⟩ := AllP.append.1 hp1
              unfold wpList
              rw [if_pos (wanted_rel hF hw hpw)]
              refine .inl (Does.wp ((op_does hE hcall hF hS hr0 hp1 (W := WA) (fun _ _ _ _ _ _ _ _ => trivial) (fun _ _ _ => trivial)).mono ?_))
              rintro v w' ⟨ρ', hv, hS', hX⟩
              obtain ⟨hF', hH', _⟩ := put_rel hF hX.le hput hv
              rw [← hH'] at hS'
              refine runOps_wp hE hcall l s1 ds1 p2 ρ' _ w' h2 hp2 hF' hS' fun ρ'' a'' w'' g1 g2 g3 g4 => hQ ρ'' a'' w'' g1 g2 ?_ (g4.trans (put_defers_ _ _ _))
              by_cases hn : s.H.n ≤ s1.H.n
              · exact hX.trans hS.names hn g3 (fun _ _ _ => .inl trivial) fun b hb ht => Ext.touched hS.names hX (fun _ _ _ => .inl trivial) (fun _ h => h) b hb ht
              · exact hX.trans hS.names (n' := s.H.n) (Nat.le_refl _) ⟨g3.le, g3.size, g3.os, g3.tape, g3.output, g3.keep, fun r b s k z q e hi => absurd trivial hi.choose_spec, g3.fresh, g3.freshF, g3.freshZ, fun r hr hi => absurd trivial hi.choose_spec, fun r i hr hi => absurd trivial hi⟩ (fun _ _ _ => .inl trivial) fun b hb ht => Ext.touched hS.names hX (fun _ _ _ => .inl trivial) (fun _ h => h) b hb ht
            · rename_i pw dw hw
              simp only [Option.some.injEq, Prod.mk.injEq] at hr
              obtain ⟨rfl, rfl, rfl, rfl⟩ := hr
              unfold wpList
              rw [if_neg (by rw [wanted_rel hF hw hp1]; decide)]
              obtain ⟨hF', hH', _⟩ := put_rel hF (Ren.le_refl ρ) hput RelV.undef_
              refine runOps_wp hE hcall l s1 _ p2 ρ _ w h2 hp2 hF' (by rw [hH']; exact hS) fun ρ'' a'' w'' g1 g2 g3 g4 => hQ ρ'' a'' w'' g1 g2 (by rw [hH'] at g3; exact g3) (g4.trans (put_defers_ _ _ _))
            · cases hr
          · cases h1
        · cases h1
      · cases h
    · cases h
end
end Go.Vm
/- A generic text: regions that draw their order: definitions, the text's order. No program. -/
set_option linter.unusedVariables false
set_option linter.unusedSimpArgs false
set_option linter.unusedSectionVars false
namespace Go.Vm
open Go
variable {C : Nat → Type} {D : Type} [Tst D]
/-! ### parts of a store -/
noncomputable def onlyT (H : AStore C) : List Nat → T (AObj C)
  | [] => .nil
  | r :: l => match H.get r with
    | some o => (onlyT H l).set r o
    | none => onlyT H l
noncomputable def AStore.only (H : AStore C) (rs : List Nat) (n : Nat) : AStore C := ⟨onlyT H rs, n, H.low⟩
theorem onlyT_get (H : AStore C) (r : Nat) : ∀ l : List Nat, (onlyT H l).get r = if r ∈ l then H.get r else none
  | [] => by simp [onlyT, T.get_nil]
  | x :: l => by
    unfold onlyT
    by_cases e : r = x
    · subst e
      rw [if_pos (by simp)]
      split
      · rename_i o ho; rw [T.get_set, if_pos rfl]; exact ho.symm
      · rename_i ho
        rw [onlyT_get H r l]
        split
        · rfl
        · exact ho.symm
    · have : (r ∈ x :: l) = (r ∈ l) := by simp [e]
      simp only [this]
      split
      · rw [T.get_set, if_neg e]; exact onlyT_get H r l
      · exact onlyT_get H r l
theorem only_get (H : AStore C) (rs : List Nat) (n r : Nat) : (H.only rs n).get r = if r ∈ rs then H.get r else none := onlyT_get H r rs
noncomputable def mergeT (H1 : AStore C) : List Nat → T (AObj C) → Option (T (AObj C))
  | [], t => some t
  | r :: l, t => match H1.get r with
    | some o => mergeT H1 l (t.set r o)
    | none => match t.get r with
      | none => mergeT H1 l t
      | some _ => none
theorem mergeT_get (H1 : AStore C) : ∀ (l : List Nat) (t t' : T (AObj C)), mergeT H1 l t = some t' → ∀ r, t'.get r = if r ∈ l then H1.get r else t.get r
  | [], t, t', h, r => by simp only [mergeT, Option.some.injEq] at h; subst h; simp
  | x :: l, t, t', h, r => by
    unfold mergeT at h
    split at h
    · rename_i o ho
      rw [mergeT_get H1 l _ _ h r]
      by_cases hr : r ∈ l
      · rw [if_pos hr, if_pos (by simp [hr])]
      · rw [if_neg hr, T.get_set]
        by_cases e : r = x
        · subst e; rw [if_pos rfl, if_pos (by simp)]; exact ho.symm
        · rw [if_neg e, if_neg (by simp [hr, e])]
    · rename_i ho
      split at h
      · rename_i ht
        rw [mergeT_get H1 l _ _ h r]
        by_cases hr : r ∈ l
        · rw [if_pos hr, if_pos (by simp [hr])]
        · rw [if_neg hr]
          by_cases e : r = x
          · subst e; rw [if_pos (by simp), ht]; exact ho.symm
          · rw [if_neg (by simp [hr, e])]
      · cases h
/-! ### the roots that an operation may look at -/
def V.deep1 : V C → List Nat
  | .agg l | .tuple l => l.flatMap V.roots
  | .func _ a c => a.flatMap V.roots ++ c.flatMap V.roots
  | .iface _ v => v.roots
  | v => v.roots
def AObj.deep : AObj C → List Nat
  | .cells c _ => c.flatMap V.deep1
  | .hole _ _ _ c => c.flatMap V.deep1
  | .map es => es.flatMap fun e => e.1.deep1 ++ e.2.deep1
  | _ => []
def newOnes (acc : List Nat) : List Nat → List Nat
  | [] => []
  | r :: l => if acc.contains r then newOnes acc l else r :: newOnes (r :: acc) l
/-- what can be come by from roots -/
noncomputable def reach (H : AStore C) : Nat → List Nat → List Nat → List Nat
  | 0, acc, _ => acc
  | _ + 1, acc, [] => acc
  | n + 1, acc, r :: todo => match H.get r with
    | some o => let l := newOnes acc o.deep; reach H n (acc ++ l) (todo ++ l)
    | none => reach H n acc todo
noncomputable def rootsOf (s : AS C) (o : Oper) : List Nat :=
  match o.op with
  | .call { callee := .value f, args, .. } =>
    let l := newOnes [] ((f :: args.toList).flatMap fun x => match s.val x with | some v => v.deep1 | none => [])
    reach s.H 400 l l
  | _ => newOnes [] (o.op.operands.toList.flatMap fun x => match s.val x with | some v => v.roots | none => [])
/-- the temporaries that an operation looks at -/
def looks (ops : List Oper) (o : Oper) : List Tmp :=
  (o.op.operands.toList.filterMap fun | .tmp t => some t | _ => none) ++
  (match o.guard with
   | some (g, _) => ((ops[g]?).bind (·.dst)).toList
   | none => [])
noncomputable def mask (tm : T (V C)) (j : Nat → V C) : List Tmp → T (V C)
  | [] => .nil
  | t :: l => (mask tm j l).set t ((tm.get t).getD (j t))
noncomputable def AS.mask (s : AS C) (ops : List Oper) (o : Oper) (H : AStore C) : AS C := { tm := Vm.mask s.tm s.j (looks ops o), sz := s.sz, H, j := fun _ => .tuple [] }
/-- a step of the text's order -/
structure Tr (C : Nat → Type) (D : Type) where
  o : Oper
  s : AS C
  ds : List D
  rs : List Nat
  u : V C
  s' : AS C
/-- the store behind an operation that was run on a part of it -/
noncomputable def joined (p : Bool) (H H1 : AStore C) (rs : List Nat) : Option (AStore C) :=
  cond p (some H) (cond (Nat.ble H.n H1.n) (match mergeT H1 (rs ++ List.range' H.n (H1.n - H.n)) H.t with
    | some t => some { t := t, n := H1.n, low := H.low }
    | none => none) none)
noncomputable def stepD (E : Env C) (call : CallF C D) (ops : List Oper) (o : Oper) (s : AS C) (ds : List D) : Option (Tr C D × List Prop × List D) :=
  cond ((rootsOf s o).all fun r => Nat.blt r s.H.n)
    (match runV E call ops o (s.mask ops o (s.H.only (rootsOf s o) s.H.n)) ds with
    | some (u, H1, ps, ds') => match joined (isP o.op) s.H H1 (rootsOf s o) with
      | some H2 => match s.put o.dst u H2 with
        | some s' => some (⟨o, s, ds, rootsOf s o, u, s'⟩, ps, ds')
        | none => none
      | none => none
    | none => none) none
noncomputable def stepsD (E : Env C) (call : CallF C D) (ops : List Oper) : List Oper → AS C → List D → Option (List (Tr C D) × AS C × List Prop × List D)
  | [], s, ds => some ([], s, [], ds)
  | o :: l, s, ds => match stepD E call ops o s ds with
    | some (tr, ps, ds1) => match stepsD E call ops l tr.s' ds1 with
      | some (trs, s2, qs, ds2) => some (tr :: trs, s2, ps ++ qs, ds2)
      | none => none
    | none => none
/-! ### what is not ordered must not matter -/
noncomputable def gather {α : Type 1} (f : α → Option (List Prop)) : List α → Option (List Prop)
  | [] => some []
  | x :: l => match f x, gather f l with
    | some p, some q => some (p ++ q)
    | _, _ => none
noncomputable def gather0 {α : Type} (f : α → Option (List Prop)) : List α → Option (List Prop)
  | [] => some []
  | x :: l => match f x, gather0 f l with
    | some p, some q => some (p ++ q)
    | _, _ => none
theorem gather0_spec {α : Type} {f : α → Option (List Prop)} : ∀ {l : List α} {ps : List Prop}, gather0 f l = some ps → AllP ps → ∀ x ∈ l, ∃ q, f x = some q ∧ AllP q
  | [], _, _, _, x, hx => by cases hx
  | y :: l, ps, h, hp, x, hx => by
    simp only [gather0] at h
    split at h
    · rename_i p q h1 h2
      cases h
      obtain ⟨hp1, hp2⟩ := AllP.append.1 hp
      rcases List.mem_cons.1 hx with rfl | hx
      · exact ⟨p, h1, hp1⟩
      · exact gather0_spec h2 hp2 x hx
    · cases h
/-- a value whose roots are old -/
def V.low1 (n : Nat) : V C → Bool
  | .unk | .raw _ | .bool _ | .int _ _ | .str _ | .nilFunc | .nilIface | .nilPtr | .nilSl | .nilMap => true
  | .ptr r _ | .eptr r _ _ | .aptr r _ _ _ | .sl r _ _ _ | .rsw r | .rsl r _ _ _ | .map r => Nat.blt r n
  | _ => false
def V.low (n : Nat) : V C → Bool
  | .agg l => l.all (V.low1 n)
  | v => v.low1 n
def Tr.touches (m : Tr C D) (r : Nat) : Bool := m.rs.contains r || (Nat.ble m.s.H.n r && Nat.blt r m.s'.H.n)
/-- an operation that leaves the store, run on another state's store -/
noncomputable def raceAt (E : Env C) (call : CallF C D) (ops : List Oper) (t : Tr C D) (r : Nat) (sp : AS C) : Option (List Prop) :=
  match runV E call ops t.o (t.s.mask ops t.o (sp.H.only [r] (max t.s.H.n sp.H.n))) t.ds with
  | some (u, _, ps, _) => cond (Nat.ble sp.H.n t.s.H.n || t.u.low t.s.H.n) (match Tst.same D u t.u with | some q => some (q ++ ps) | none => none) none
  | none => none
noncomputable def pairOb (E : Env C) (call : CallF C D) (ops : List Oper) (b : Array Nat) (t : Tr C D) (j : Nat) (m : Tr C D) (i : Nat) : Option (List Prop) :=
  cond (Nat.beq i j) (some []) (gather0 (fun r => cond (m.touches r && !(b.getD (max i j) 0).testBit (min i j))
    (cond (isP t.o.op)
      (match t.rs with
      | [r'] => match raceAt E call ops t r' m.s, raceAt E call ops t r' m.s' with
        | some p, some q => some (p ++ q)
        | _, _ => none
      | _ => none)
      (cond (Nat.blt i j) none (some []))) (some [])) t.rs)
noncomputable def races (E : Env C) (call : CallF C D) (ops : Array Oper) (trs : List (Tr C D)) : Option (List Prop) :=
  let ws := trs.zipIdx.filter fun p => !isP p.1.o.op
  gather0 (fun t => gather0 (fun m => pairOb E call ops.toList (Region.before ops) t.1 t.2 m.1 m.2) ws) trs.zipIdx
noncomputable def runD (E : Env C) (call : CallF C D) (ops : Array Oper) (s : AS C) (ds : List D) : Option (AS C × List Prop × List D) :=
  match stepsD E call ops.toList ops.toList s ds with
  | some (trs, s', ps, ds') => match races E call ops trs with
    | some qs => some (s', ps ++ qs, ds')
    | none => none
  | none => none
def drawOK (ops : Array Oper) : Bool :=
  let b := Region.before ops
  ops.toList.zipIdx.all fun (o, j) =>
    o.after.toList.all (fun e => !Region.binds .any e || Nat.blt e.on j) &&
    (((looks ops.toList o) ++ o.dst.toList).all fun t => ops.toList.zipIdx.all fun (p, i) => p.dst != some t || Nat.beq i j || (b.getD (max i j) 0).testBit (min i j))
section
variable {ops : Array Oper}
theorem all_zipIdx {α : Type} {l : List α} {f : α × Nat → Bool} (h : l.zipIdx.all f = true) {i : Nat} {x : α} (hi : l[i]? = some x) : f (x, i) = true := by
  refine List.all_eq_true.1 h (x, i) ?_
  rw [List.mem_iff_getElem?]
  exact ⟨i, by rw [List.getElem?_zipIdx, hi]; simp⟩
structure DrawOk (ops : Array Oper) : Prop where
  edge : ∀ j o, ops[j]? = some o → ∀ e ∈ o.after, Region.binds .any e = true → e.on < j
  tmp : ∀ j o, ops[j]? = some o → ∀ t, (t ∈ looks ops.toList o ∨ o.dst = some t) → ∀ i p, ops[i]? = some p → p.dst = some t → i = j ∨ ((Region.before ops).getD (max i j) 0).testBit (min i j) = true
theorem drawOK_spec (h : drawOK ops = true) : DrawOk ops := by
  have key : ∀ j o, ops[j]? = some o → _ := fun j o hj => all_zipIdx h (i := j) (x := o) (by rw [Array.getElem?_toList]; exact hj)
  constructor
  · intro j o hj e he hb
    have := key j o hj
    simp only [Bool.and_eq_true] at this
    have h1 := List.all_eq_true.1 this.1 e (by simpa using he)
    simpa [hb] using h1
  · intro j o hj t ht i p hi hp
    have := key j o hj
    simp only [Bool.and_eq_true] at this
    have h1 := List.all_eq_true.1 this.2 t (by
      rw [List.mem_append]
      rcases ht with ht | ht
      · exact .inl ht
      · exact .inr (by rw [ht]; simp))
    have h2 := all_zipIdx h1 (i := i) (x := p) (by rw [Array.getElem?_toList]; exact hi)
    simp only [hp, bne_self_eq_false, Bool.false_or, Bool.or_eq_true] at h2
    rcases h2 with h2 | h2
    · exact .inl (Nat.eq_of_beq_eq_true h2)
    · exact .inr h2
/-! ancestors -/
theorem after_bits (acc : Array Nat) (i : Nat) : ∀ (l : List Edge) (s0 : Nat), (l.foldl (fun s e => if Region.binds .any e then s ||| 2 ^ e.on ||| acc.getD e.on 0 else s) s0).testBit i = true →
    s0.testBit i = true ∨ ∃ e ∈ l, Region.binds .any e = true ∧ (e.on = i ∨ (acc.getD e.on 0).testBit i = true)
  | [], s0, h => .inl h
  | e :: l, s0, h => by
    simp only [List.foldl_cons] at h
    rcases after_bits acc i l _ h with h1 | ⟨e', h1, h2⟩
    · split at h1
      · rename_i hb
        rw [Nat.testBit_or, Nat.testBit_or, Bool.or_eq_true, Bool.or_eq_true, Nat.testBit_two_pow] at h1
        rcases h1 with (h1 | h1) | h1
        · exact .inl h1
        · exact .inr ⟨e, by simp, hb, .inl (by simpa using h1)⟩
        · exact .inr ⟨e, by simp, hb, .inr h1⟩
      · exact .inl h1
    · exact .inr ⟨e', by simp [h1], h2⟩
theorem before_acc : ∀ (l pre : List Oper) (acc : Array Nat), acc.size = pre.length →
    (∀ j o i, pre[j]? = some o → (acc.getD j 0).testBit i = true → ∃ e ∈ o.after, Region.binds .any e = true ∧ (e.on = i ∨ (acc.getD e.on 0).testBit i = true)) →
    ∀ j o i, (pre ++ l)[j]? = some o → ((l.foldl (fun acc o => acc.push (o.after.foldl (fun s e => if Region.binds .any e then s ||| 2 ^ e.on ||| acc.getD e.on 0 else s) 0)) acc).getD j 0).testBit i = true →
      ∃ e ∈ o.after, Region.binds .any e = true ∧ (e.on = i ∨ ((l.foldl (fun acc o => acc.push (o.after.foldl (fun s e => if Region.binds .any e then s ||| 2 ^ e.on ||| acc.getD e.on 0 else s) 0)) acc).getD e.on 0).testBit i = true)
  | [], pre, acc, hs, h => by
    intro j o i hj hb
    rw [List.append_nil] at hj
    exact h j o i hj hb
  | p :: l, pre, acc, hs, h => by
    intro j o i hj hb
    simp only [List.foldl_cons] at hb ⊢
    refine before_acc l (pre ++ [p]) _ (by simp [hs]) ?_ j o i (by simpa using hj) hb
    intro j o i hj hb
    have lift : ∀ m, (acc.getD m 0).testBit i = true → ((acc.push (p.after.foldl (fun s e => if Region.binds .any e then s ||| 2 ^ e.on ||| acc.getD e.on 0 else s) 0)).getD m 0).testBit i = true := by
      intro m hm
      by_cases hlt : m < acc.size
      · simp only [Array.getD_eq_getD_getElem?, Array.getElem?_push_lt hlt] at hm ⊢
        simpa [Array.getElem?_eq_getElem hlt] using hm
      · simp [Array.getD, hlt] at hm
    by_cases hlt : j < pre.length
    · rw [List.getElem?_append_left hlt] at hj
      have hb' : (acc.getD j 0).testBit i = true := by
        simp only [Array.getD_eq_getD_getElem?] at hb ⊢
        rw [Array.getElem?_push, if_neg (by omega)] at hb
        exact hb
      obtain ⟨e, h1, h2, h3⟩ := h j o i hj hb'
      exact ⟨e, h1, h2, h3.imp id (lift _)⟩
    · rw [List.getElem?_append_right (by omega)] at hj
      have hj0 : j - pre.length = 0 := by
        rcases Nat.eq_zero_or_pos (j - pre.length) with h0 | h0
        · exact h0
        · rw [List.getElem?_eq_none (by simp; omega)] at hj; cases hj
      have hje : j = acc.size := by omega
      subst hje
      rw [hj0] at hj
      simp only [List.getElem?_cons_zero, Option.some.injEq] at hj
      subst hj
      simp only [Array.getD_eq_getD_getElem?, Array.getElem?_push_size, Option.getD_some] at hb
      rw [← Array.foldl_toList] at hb
      rcases after_bits acc i _ _ (by simpa only [Array.getD_eq_getD_getElem?] using hb) with h1 | ⟨e, h1, h2, h3⟩
      · simp at h1
      · exact ⟨e, by simpa using h1, h2, h3.imp id (lift _)⟩
theorem before_step {j i : Nat} {o : Oper} (hj : ops[j]? = some o) (h : ((Region.before ops).getD j 0).testBit i = true) :
    ∃ e ∈ o.after, Region.binds .any e = true ∧ (e.on = i ∨ ((Region.before ops).getD e.on 0).testBit i = true) := by
  unfold Region.before at h ⊢
  rw [← Array.foldl_toList] at h ⊢
  exact before_acc ops.toList [] #[] rfl (fun j o i hj _ => by simp at hj) j o i (by simpa using hj) h
/-- what lies ahead of an operation that has been run has been run -/
theorem before_mem (hd : DrawOk ops) {D : Nat → Prop} (hc : ∀ j o, ops[j]? = some o → D j → ∀ e ∈ o.after, Region.binds .any e = true → D e.on) {i : Nat} : ∀ {j : Nat} {o : Oper}, ops[j]? = some o →
    (∀ e ∈ o.after, Region.binds .any e = true → D e.on) → ((Region.before ops).getD j 0).testBit i = true → D i := by
  intro j
  induction j using Nat.strongRecOn with
  | _ j ih =>
    intro o hj ha hb
    obtain ⟨e, h1, h2, h3⟩ := before_step hj hb
    have hDe := ha e h1 h2
    rcases h3 with rfl | h3
    · exact hDe
    · have hlt := hd.edge j o hj e h1 h2
      cases he : ops[e.on]? with
      | none =>
        exfalso
        have := (Array.getElem?_eq_some_iff.1 hj).1
        rw [Array.getElem?_eq_none_iff] at he
        omega
      | some p => exact ih e.on hlt he (hc _ _ he hDe) h3
end
/-! masks -/
theorem mask_get (tm : T (V C)) (j : Nat → V C) : ∀ (L : List Tmp) (t : Nat), (mask tm j L).get t = if t ∈ L then some ((tm.get t).getD (j t)) else none
  | [], t => by simp [mask, T.get_nil]
  | x :: L, t => by
    unfold mask
    rw [T.get_set, mask_get tm j L t]
    by_cases e : t = x
    · subst e; simp
    · simp [e]
def amask (L : List Tmp) (a : Act) : Act := { tmps := (Array.range a.tmps.size).map fun t => if t ∈ L then a.tmps.getD t undef else undef, defers := a.defers }
theorem amask_get (L : List Tmp) (a : Act) {t : Nat} (h : t ∈ L) : (amask L a).tmps[t]? = a.tmps[t]? := by
  unfold amask
  simp only [Array.getElem?_map]
  by_cases hlt : t < a.tmps.size
  · rw [Array.getElem?_range, if_pos hlt]
    simp [h, Array.getD, hlt]
  · rw [Array.getElem?_range, if_neg hlt, Array.getElem?_eq_none (by omega)]
    rfl
theorem amask_rel {K : Codec C} {ρ : Ren} {s : AS C} {a : Act} {ops : List Oper} {o : Oper} {H : AStore C} (hsz : a.tmps.size = s.sz) (h : ∀ t, t ∈ looks ops o → t < s.sz → RelV K ρ ((s.tm.get t).getD (s.j t)) (a.tmps.getD t undef)) :
    RelF K ρ (s.mask ops o H) (amask (looks ops o) a) := by
  refine ⟨by simp [amask, AS.mask, hsz], fun t ht => ?_⟩
  have ht' : t < s.sz := ht
  have e1 : (s.mask ops o H).tm.get t = if t ∈ looks ops o then some ((s.tm.get t).getD (s.j t)) else none := mask_get _ _ _ _
  have e2 : (amask (looks ops o) a).tmps.getD t undef = if t ∈ looks ops o then a.tmps.getD t undef else undef := by
    have hlt : t < a.tmps.size := by omega
    simp [amask, Array.getD, hlt]
  rw [e1, e2]
  by_cases hm : t ∈ looks ops o
  · rw [if_pos hm, if_pos hm]; exact h t hm ht'
  · rw [if_neg hm, if_neg hm]; exact RelV.undef_
theorem amask_eval {a : Act} {ops : List Oper} {o : Oper} {x : Operand} (hx : x ∈ o.op.operands) : a.eval x = (amask (looks ops o) a).eval x := by
  cases x with
  | tmp t =>
    have hm : t ∈ looks ops o := by
      unfold looks
      rw [List.mem_append]
      left
      rw [List.mem_filterMap]
      exact ⟨.tmp t, by simpa using hx, rfl⟩
    simp only [Act.eval, Array.getD_eq_getD_getElem?, amask_get _ a hm]
  | _ => rfl
theorem amask_wanted {a : Act} {ops : Array Oper} {o : Oper} : Region.wanted o (yielded ops (amask (looks ops.toList o) a).tmps) = Region.wanted o (yielded ops a.tmps) := by
  unfold Region.wanted
  cases hg : o.guard with
  | none => rfl
  | some jw =>
    obtain ⟨j, want⟩ := jw
    simp only []
    congr 1
    unfold yielded
    cases hd : (ops[j]?).bind (·.dst) with
    | none => rfl
    | some d =>
      have hm : d ∈ looks ops.toList o := by
        unfold looks
        rw [List.mem_append]
        right
        rw [hg]
        simp only [Array.getElem?_toList, hd]
        simp
      simp only [Option.bind_some, amask_get _ a hm]
end Go.Vm
/- A generic text: regions that draw their order: the text's order, state by state; names that are mixed. No program. -/
set_option linter.unusedVariables false
set_option linter.unusedSimpArgs false
set_option linter.unusedSectionVars false
namespace Go.Vm
open Go
variable {C : Nat → Type} {D : Type} [Tst D]
theorem AS.val_put {s s' : AS C} {d : Option Tmp} {u : V C} {H : AStore C} (h : s.put d u H = some s') : s'.H = H ∧ s'.sz = s.sz ∧ (∀ t, d = some t → t < s.sz) ∧ ∀ t, (s'.tm.get t).getD (s'.j t) = if d = some t then u else (s.tm.get t).getD (s.j t) := by
  cases d with
  | none =>
    simp only [AS.put, Option.some.injEq] at h
    subst h
    exact ⟨rfl, rfl, fun t e => (by cases e), fun t => (by rw [if_neg (by simp)])⟩
  | some x =>
    simp only [AS.put] at h
    cases hb : Nat.ble (Nat.succ x) s.sz with
    | false => rw [hb] at h; cases h
    | true =>
      rw [hb] at h
      simp only [cond_true, Option.some.injEq] at h
      subst h
      refine ⟨rfl, rfl, fun t e => ?_, fun t => ?_⟩
      · cases e; exact Nat.lt_of_succ_le (Nat.le_of_ble_eq_true hb)
      · simp only [T.get_set, Option.some.injEq]
        by_cases e : t = x
        · subst e; simp
        · rw [if_neg e, if_neg (fun h => e h.symm)]
/-! ### the text's order -/
structure StepOk (E : Env C) (call : CallF C D) (ops : List Oper) (t : Tr C D) : Prop where
  rs : t.rs = rootsOf t.s t.o
  lt : ∀ r ∈ t.rs, r < t.s.H.n
  run : ∃ H1 ps ds', runV E call ops t.o (t.s.mask ops t.o (t.s.H.only t.rs t.s.H.n)) t.ds = some (t.u, H1, ps, ds') ∧ AllP ps ∧
    (isP t.o.op = true → t.s'.H = t.s.H) ∧ (isP t.o.op = false → t.s.H.n ≤ t.s'.H.n ∧ H1.n = t.s'.H.n ∧ ∀ r, t.s'.H.get r = if r ∈ t.rs ∨ (t.s.H.n ≤ r ∧ r < t.s'.H.n) then H1.get r else t.s.H.get r)
  put : t.s.put t.o.dst t.u t.s'.H = some t.s'
structure Text (E : Env C) (call : CallF C D) (ops : Array Oper) (st : Nat → AS C) (trs : List (Tr C D)) : Prop where
  at_ : ∀ j o, ops[j]? = some o → ∃ t, trs[j]? = some t ∧ t.o = o ∧ t.s = st j ∧ t.s' = st (j + 1) ∧ StepOk E call ops.toList t
  of_ : ∀ (j : Nat) (t : Tr C D), trs[j]? = some t → ops[j]? = some t.o
section
variable {E : Env C} {call : CallF C D}
theorem joined_spec {p : Bool} {H H1 H2 : AStore C} {rs : List Nat} (h : joined p H H1 rs = some H2) :
    (p = true → H2 = H) ∧ (p = false → H.n ≤ H2.n ∧ H1.n = H2.n ∧ ∀ r, H2.get r = if r ∈ rs ∨ (H.n ≤ r ∧ r < H2.n) then H1.get r else H.get r) := by
  unfold joined at h
  cases p with
  | true => cases h; exact ⟨fun _ => rfl, fun h => by cases h⟩
  | false =>
    rw [cond_false] at h
    obtain ⟨hn, h⟩ := cond_none h
    have hn := Nat.le_of_ble_eq_true hn
    split at h
    · rename_i t ht
      cases h
      refine ⟨fun h => (by cases h), fun _ => ⟨hn, rfl, fun r => ?_⟩⟩
      have := mergeT_get H1 _ _ _ ht r
      refine this.trans ?_
      have e : (r ∈ rs ++ List.range' H.n (H1.n - H.n)) ↔ (r ∈ rs ∨ (H.n ≤ r ∧ r < H1.n)) := by
        rw [List.mem_append, List.mem_range']
        constructor
        · rintro (h | ⟨i, h1, h2⟩)
          · exact .inl h
          · exact .inr (by omega)
        · rintro (h | h)
          · exact .inl h
          · exact .inr ⟨r - H.n, by omega, by omega⟩
      by_cases hr : r ∈ rs ++ List.range' H.n (H1.n - H.n)
      · rw [if_pos hr, if_pos (e.1 hr)]
      · rw [if_neg hr, if_neg (fun h => hr (e.2 h))]; rfl
    · cases h
theorem stepD_ok {ops : List Oper} {o : Oper} {s : AS C} {ds ds' : List D} {t : Tr C D} {ps : List Prop} (h : stepD E call ops o s ds = some (t, ps, ds')) (hp : AllP ps) : t.o = o ∧ t.s = s ∧ StepOk E call ops t := by
  unfold stepD at h
  obtain ⟨hl, h⟩ := cond_none h
  split at h
  · rename_i u H1 ps1 ds1 hr
    split at h
    · rename_i H2 hj
      split at h
      · rename_i s' hput
        cases h
        have he := (AS.val_put hput).1
        obtain ⟨j1, j2⟩ := joined_spec hj
        refine ⟨rfl, rfl, rfl, fun r hr => ?_, ⟨H1, _, _, hr, hp, ?_, ?_⟩, ?_⟩
        · have := List.all_eq_true.1 hl r hr
          simpa using this
        · intro hp; rw [show s'.H = H2 from he]; exact j1 hp
        · intro hp; rw [show s'.H = H2 from he]; exact j2 hp
        · show s.put o.dst u s'.H = some s'
          rw [he]; exact hput
      · cases h
    · cases h
  · cases h
theorem stepsD_states {ops : List Oper} : ∀ (l : List Oper) (s s' : AS C) (ds ds' : List D) (trs : List (Tr C D)) (ps : List Prop), stepsD E call ops l s ds = some (trs, s', ps, ds') → AllP ps →
    ∃ st : Nat → AS C, st 0 = s ∧ st l.length = s' ∧ (∀ j o, l[j]? = some o → ∃ t, trs[j]? = some t ∧ t.o = o ∧ t.s = st j ∧ t.s' = st (j + 1) ∧ StepOk E call ops t) ∧ ∀ (j : Nat) (t : Tr C D), trs[j]? = some t → l[j]? = some t.o
  | [], s, s', ds, ds', trs, ps, h, hp => by
    simp only [stepsD, Option.some.injEq, Prod.mk.injEq] at h
    obtain ⟨rfl, rfl, _, _⟩ := h
    exact ⟨fun _ => s, rfl, rfl, fun j o hj => by simp at hj, fun j t hj => by simp at hj⟩
  | o :: l, s, s', ds, ds', trs, ps, h, hp => by
    simp only [stepsD] at h
    split at h
    · rename_i tr p1 ds1 h1
      split at h
      · rename_i trs2 s2 p2 ds2 h2
        cases h
        obtain ⟨hp1, hp2⟩ := AllP.append.1 hp
        obtain ⟨e1, e2, e3⟩ := stepD_ok h1 hp1
        obtain ⟨st, g1, g2, g3, g4⟩ := stepsD_states l _ _ _ _ _ _ h2 hp2
        refine ⟨fun j => match j with | 0 => s | j + 1 => st j, rfl, g2, fun j o' hj => ?_, fun j t hj => ?_⟩
        · cases j with
          | zero =>
            simp only [List.getElem?_cons_zero, Option.some.injEq] at hj
            subst hj
            exact ⟨tr, rfl, e1, e2, g1.symm, e3⟩
          | succ j =>
            obtain ⟨t, k1, k2, k3, k4, k5⟩ := g3 j o' (by simpa using hj)
            exact ⟨t, by simpa using k1, k2, k3, k4, k5⟩
        · cases j with
          | zero =>
            simp only [List.getElem?_cons_zero, Option.some.injEq] at hj
            subst hj
            simp [e1]
          | succ j => simpa using g4 j t (by simpa using hj)
      · cases h
    · cases h
end
noncomputable def valAt (st : Nat → AS C) (j t : Nat) : V C := ((st j).tm.get t).getD ((st j).j t)
def Wr (ops : Array Oper) (i t : Nat) : Prop := ∃ p, ops[i]? = some p ∧ p.dst = some t
/-- an operation that may change a root -/
def Tch (trs : List (Tr C D)) (i r : Nat) : Prop := ∃ t, trs[i]? = some t ∧ isP t.o.op = false ∧ t.touches r = true
theorem touches_iff {t : Tr C D} {r : Nat} : t.touches r = true ↔ r ∈ t.rs ∨ (t.s.H.n ≤ r ∧ r < t.s'.H.n) := by
  unfold Tr.touches
  rw [Bool.or_eq_true, Bool.and_eq_true, List.contains_iff_mem, Nat.ble_eq]
  have : Nat.blt r t.s'.H.n = true ↔ r < t.s'.H.n := by simp
  rw [this]
section
variable {E : Env C} {call : CallF C D} {ops : Array Oper} {st : Nat → AS C} {trs : List (Tr C D)}
theorem Text.sz (h : Text E call ops st trs) : ∀ j, j ≤ ops.size → (st j).sz = (st 0).sz := by
  intro j
  induction j with
  | zero => intro _; rfl
  | succ j ih =>
    intro hj
    obtain ⟨t, h1, h2, h3, h4, h5⟩ := h.at_ j ops[j] (Array.getElem?_eq_getElem _)
    have := (AS.val_put h5.put).2.1
    rw [← h4, this, h3, ih (by omega)]
theorem Text.n_step (h : Text E call ops st trs) {j : Nat} (hj : j < ops.size) : (st j).H.n ≤ (st (j + 1)).H.n := by
  obtain ⟨t, h1, h2, h3, h4, h5⟩ := h.at_ j ops[j] (Array.getElem?_eq_getElem _)
  obtain ⟨H1, ps, ds', _, _, g1, g2⟩ := h5.run
  rw [← h3, ← h4]
  cases hp : isP t.o.op with
  | true => rw [g1 hp]; exact Nat.le_refl _
  | false => exact (g2 hp).1
theorem Text.n_mono (h : Text E call ops st trs) {k : Nat} : ∀ j, k ≤ j → j ≤ ops.size → (st k).H.n ≤ (st j).H.n := by
  intro j
  induction j with
  | zero => intro h1 _; have : k = 0 := by omega
            subst this; exact Nat.le_refl _
  | succ j ih =>
    intro hk hj
    by_cases e : k = j + 1
    · subst e; exact Nat.le_refl _
    · exact Nat.le_trans (ih (by omega) (by omega)) (h.n_step (by omega))
theorem Text.keepVal (h : Text E call ops st trs) {k t : Nat} : ∀ j, k ≤ j → j ≤ ops.size → (∀ i, k ≤ i → i < j → ¬ Wr ops i t) → valAt st j t = valAt st k t := by
  intro j
  induction j with
  | zero => intro h1 _ _; have : k = 0 := by omega
            subst this; rfl
  | succ j ih =>
    intro hk hj hw
    by_cases e : k = j + 1
    · subst e; rfl
    · obtain ⟨tr, h1, h2, h3, h4, h5⟩ := h.at_ j ops[j] (Array.getElem?_eq_getElem _)
      have h6 := (AS.val_put h5.put).2.2.2 t
      rw [if_neg (fun hd => hw j (by omega) (by omega) ⟨_, Array.getElem?_eq_getElem _, by rw [← h2]; exact hd⟩), h3, h4] at h6
      exact h6.trans (ih (by omega) (by omega) fun i h1 h2 => hw i h1 (by omega))
theorem Text.keepObj (h : Text E call ops st trs) {i r : Nat} : ∀ k, i ≤ k → k ≤ ops.size → (∀ m, i ≤ m → m < k → ¬ Tch trs m r) → (st k).H.get r = (st i).H.get r := by
  intro k
  induction k with
  | zero => intro h1 _ _; have : i = 0 := by omega
            subst this; rfl
  | succ k ih =>
    intro hk hj hw
    by_cases e : i = k + 1
    · subst e; rfl
    · rw [← ih (by omega) (by omega) fun m h1 h2 => hw m h1 (by omega)]
      obtain ⟨t, h1, h2, h3, h4, h5⟩ := h.at_ k ops[k] (Array.getElem?_eq_getElem _)
      obtain ⟨H1, ps, ds', _, _, g1, g2⟩ := h5.run
      rw [← h3, ← h4]
      cases hp : isP t.o.op with
      | true => rw [g1 hp]
      | false =>
        obtain ⟨_, _, g4⟩ := g2 hp
        rw [g4 r, if_neg]
        intro ht
        exact hw k (by omega) (by omega) ⟨t, h1, hp, touches_iff.2 ht⟩
end
/-! ### what is not ordered -/
def RaceOk (E : Env C) (call : CallF C D) (ops : List Oper) (t : Tr C D) (r : Nat) (sp : AS C) : Prop :=
  ∃ H ps ds', runV E call ops t.o (t.s.mask ops t.o (sp.H.only [r] (max t.s.H.n sp.H.n))) t.ds = some (t.u, H, ps, ds') ∧ AllP ps ∧ (sp.H.n ≤ t.s.H.n ∨ t.u.low t.s.H.n = true)
section
variable {E : Env C} {call : CallF C D} {ops : Array Oper} {st : Nat → AS C} {trs : List (Tr C D)}
theorem raceAt_ok {l : List Oper} {t : Tr C D} {r : Nat} {sp : AS C} {ps : List Prop} (h : raceAt E call l t r sp = some ps) (hp : AllP ps) : RaceOk E call l t r sp := by
  unfold raceAt at h
  split at h
  · rename_i u H p1 ds1 hr
    obtain ⟨hc, h⟩ := cond_none h
    split at h
    case h_2 => cases h
    rename_i q hq
    cases h
    obtain ⟨hq1, hp1⟩ := AllP.append.1 hp
    have := Tst.same_ok hq hq1
    subst this
    refine ⟨H, p1, ds1, hr, hp1, ?_⟩
    rw [Bool.or_eq_true] at hc
    exact hc.imp Nat.le_of_ble_eq_true id
  · cases h
structure Ordered (E : Env C) (call : CallF C D) (ops : Array Oper) (trs : List (Tr C D)) : Prop where
  wr : ∀ i j t r, trs[j]? = some t → isP t.o.op = false → i < j → r ∈ t.rs → Tch trs i r → ((Region.before ops).getD j 0).testBit i = true
  rd : ∀ i j t m r, trs[j]? = some t → trs[i]? = some m → isP t.o.op = true → isP m.o.op = false → i ≠ j → r ∈ t.rs → m.touches r = true → ((Region.before ops).getD (max i j) 0).testBit (min i j) = true ∨ (t.rs = [r] ∧ RaceOk E call ops.toList t r m.s ∧ RaceOk E call ops.toList t r m.s')
theorem races_ok {ps : List Prop} (h : races E call ops trs = some ps) (hp : AllP ps) : Ordered E call ops trs := by
  have key : ∀ i j t m r, trs[j]? = some t → trs[i]? = some m → isP m.o.op = false → i ≠ j → r ∈ t.rs → m.touches r = true → ((Region.before ops).getD (max i j) 0).testBit (min i j) = false →
      (isP t.o.op = true ∧ t.rs = [r] ∧ RaceOk E call ops.toList t r m.s ∧ RaceOk E call ops.toList t r m.s') ∨ (isP t.o.op = false ∧ ¬ i < j) := by
    intro i j t m r ht hm hw hne hr htc hb
    unfold races at h
    obtain ⟨q, h1, h2⟩ := gather0_spec h hp (t, j) (by rw [List.mem_iff_getElem?]; exact ⟨j, by rw [List.getElem?_zipIdx, ht]; simp⟩)
    obtain ⟨q2, h3, h4⟩ := gather0_spec h1 h2 (m, i) (by
      rw [List.mem_filter]
      refine ⟨?_, by simp [hw]⟩
      rw [List.mem_iff_getElem?]; exact ⟨i, by rw [List.getElem?_zipIdx, hm]; simp⟩)
    unfold pairOb at h3
    have hij : Nat.beq i j = false := by
      cases e : Nat.beq i j with
      | false => rfl
      | true => exact absurd (Nat.eq_of_beq_eq_true e) hne
    simp only [] at h3
    rw [hij, cond_false] at h3
    obtain ⟨q3, h5, h6⟩ := gather0_spec h3 h4 r hr
    rw [htc, hb] at h5
    simp only [Bool.not_false, Bool.and_self, cond_true] at h5
    cases hp : isP t.o.op with
    | true =>
      rw [hp, cond_true] at h5
      left
      split at h5
      · rename_i r' hrs
        rw [hrs] at hr
        have : r = r' := by simpa using hr
        subst this
        split at h5
        · rename_i p q hp1 hq1
          cases h5
          obtain ⟨g1, g2⟩ := AllP.append.1 h6
          exact ⟨rfl, hrs, raceAt_ok hp1 g1, raceAt_ok hq1 g2⟩
        · cases h5
      · cases h5
    | false =>
      rw [hp, cond_false] at h5
      right
      refine ⟨rfl, fun hlt => ?_⟩
      have : Nat.blt i j = true := by simpa using hlt
      rw [this] at h5
      cases h5
  constructor
  · intro i j t r ht hw hij hr htc
    obtain ⟨m, hm, hmw, hmt⟩ := htc
    cases hb : ((Region.before ops).getD (max i j) 0).testBit (min i j) with
    | true =>
      rw [Nat.max_eq_right (by omega), Nat.min_eq_left (by omega)] at hb
      exact hb
    | false =>
      rcases key i j t m r ht hm hmw (by omega) hr hmt hb with ⟨h1, _⟩ | ⟨_, h1⟩
      · rw [hw] at h1; cases h1
      · exact absurd hij h1
  · intro i j t m r ht hm hpt hmw hne hr hmt
    cases hb : ((Region.before ops).getD (max i j) 0).testBit (min i j) with
    | true => exact .inl rfl
    | false =>
      rcases key i j t m r ht hm hmw hne hr hmt hb with ⟨_, h1⟩ | ⟨h1, _⟩
      · exact .inr h1
      · rw [hpt] at h1; cases h1
end
/-! ### names, of the elder roots alone -/
def Ren.res (ρ : Ren) (h : Nat) : Ren := ⟨fun r => if r < h then ρ.m r else .no, fun r i => if r < h then ρ.f r i else [], ρ.z⟩
theorem Ren.res_m {ρ : Ren} {h r : Nat} (hr : r < h) : (ρ.res h).m r = ρ.m r := if_pos hr
theorem Ren.res_f {ρ : Ren} {h r : Nat} (hr : r < h) : (ρ.res h).f r = ρ.f r := by funext i; exact if_pos hr
theorem Ren.res_no {ρ : Ren} {h r : Nat} (hr : h ≤ r) : (ρ.res h).m r = .no := if_neg (by omega)
theorem Ren.res_nil {ρ : Ren} {h r : Nat} (hr : h ≤ r) (i : Nat) : (ρ.res h).f r i = [] := if_neg (by omega)
theorem Ren.res_self {ρ : Ren} {h : Nat} (hd : ∀ r, h ≤ r → ρ.m r = .no ∧ ∀ i, ρ.f r i = []) : ρ.res h = ρ := by
  have e1 : (ρ.res h).m = ρ.m := by
    funext r
    by_cases hr : r < h
    · exact Ren.res_m hr
    · rw [Ren.res_no (by omega), (hd r (by omega)).1]
  have e2 : (ρ.res h).f = ρ.f := by
    funext r
    by_cases hr : r < h
    · exact Ren.res_f hr
    · funext i; rw [Ren.res_nil (by omega), (hd r (by omega)).2]
  cases ρ
  simp only [Ren.res] at e1 e2 ⊢
  rw [e1, e2]
theorem Ren.res_le {ρ ρ' : Ren} {h h' : Nat} (hl : ρ.le ρ') (hh : h ≤ h') : (ρ.res h).le (ρ'.res h') := by
  have low : ∀ r, (ρ.res h).m r ≠ .no → r < h := fun r hr => by
    rcases Nat.lt_or_ge r h with h1 | h1
    · exact h1
    · exact absurd (Ren.res_no h1) hr
  refine ⟨fun r e => ?_, fun r e => ?_, fun r b s k z q e => ?_, hl.z⟩
  · have hr := low r (by rw [e]; intro h; cases h)
    rw [Ren.res_m hr] at e; rw [Ren.res_m (by omega)]; exact hl.dead r e
  · have hr := low r (by rw [e]; intro h; cases h)
    rw [Ren.res_m hr] at e; rw [Ren.res_m (by omega)]; exact hl.emp r e
  · have hr := low r (by rw [e]; intro h; cases h)
    rw [Ren.res_m hr] at e; rw [Ren.res_m (by omega)]; exact hl.to r _ _ _ _ _ e
theorem Ren.res_le_self (ρ : Ren) (h : Nat) : (ρ.res h).le ρ := by
  have low : ∀ r, (ρ.res h).m r ≠ .no → r < h := fun r hr => by
    rcases Nat.lt_or_ge r h with h1 | h1
    · exact h1
    · exact absurd (Ren.res_no h1) hr
  refine ⟨fun r e => ?_, fun r e => ?_, fun r b s k z q e => ?_, fun _ _ e => e⟩
  · have hr := low r (by rw [e]; intro h; cases h)
    rw [Ren.res_m hr] at e; exact e
  · have hr := low r (by rw [e]; intro h; cases h)
    rw [Ren.res_m hr] at e; exact .inl e
  · have hr := low r (by rw [e]; intro h; cases h)
    rw [Ren.res_m hr] at e; exact .inl e
theorem Own.res {ρ : Ren} {n b : Nat} {x : Who} (h : Own (ρ.res n) b x) : Own ρ b x ∧ ((∃ r, r < n ∧ (x = .root r ∨ ∃ i, x = .cell r i)) ∨ x = .ice) := by
  cases x with
  | root r =>
    obtain ⟨s, k, z, q, e⟩ := h
    rcases Nat.lt_or_ge r n with hr | hr
    · rw [Ren.res_m hr] at e; exact ⟨⟨s, k, z, q, e⟩, .inl ⟨r, hr, .inl rfl⟩⟩
    · rw [Ren.res_no hr] at e; cases e
  | cell r i =>
    have h : b ∈ (ρ.res n).f r i := h
    rcases Nat.lt_or_ge r n with hr | hr
    · rw [Ren.res_f hr] at h; exact ⟨h, .inl ⟨r, hr, .inr ⟨i, rfl⟩⟩⟩
    · rw [Ren.res_nil hr] at h; cases h
  | ice => exact ⟨h, .inr rfl⟩
theorem Names.res {ρ : Ren} {n sz : Nat} (h : Names ρ n sz) (m : Nat) : Names (ρ.res m) m sz where
  dom r hr := ⟨Ren.res_no hr, Ren.res_nil hr⟩
  lt b x hx := h.lt b x hx.res.1
  uniq b x y hx hy := h.uniq b x y hx.res.1 hy.res.1
  nod r i := by
    rcases Nat.lt_or_ge r m with hr | hr
    · rw [Ren.res_f hr]; exact h.nod r i
    · rw [Ren.res_nil hr]; exact List.nodup_nil
theorem RelV.lower1 {K : Codec C} {ρ : Ren} {N n : Nat} {u : V C} {v : Value} (h : RelV K (ρ.res N) u v) (hn : n ≤ N) (hu : u.low1 n = true) : RelV K (ρ.res n) u v := by
  have mm : ∀ {r : Nat} {x : RS}, r < n → (ρ.res N).m r = x → (ρ.res n).m r = x := fun hr e => by
    rw [Ren.res_m hr, ← e, Ren.res_m (by omega)]
  cases h <;> first
    | (simp [V.low1] at hu; done)
    | (have hr := hu; simp only [V.low1, Nat.blt_eq] at hr)
  all_goals first
    | exact .unk (by assumption)
    | exact .raw _
    | exact .bool _
    | exact .int _ _
    | exact .str _
    | exact .nilFunc
    | exact .nilIface
    | exact .nilPtr
    | exact .nilSl
    | exact .nilMap
    | skip
  · rename_i e; exact .ptr (mm hr e)
  · rename_i e; exact .ptrDead (mm hr e)
  · rename_i e; exact .eptr (mm hr e)
  · rename_i e; exact .eptrDead (mm hr e)
  · rename_i e e2; exact .aptr (mm hr e) e2
  · rename_i e; exact .aptrDead (mm hr e)
  · rename_i e p q x; exact .sl (mm hr e) p q x
  · rename_i e; exact .slDead (mm hr e)
  · exact .slEmp _ _ _
  · rename_i e p q; exact .rsw (mm hr e) p q
  · rename_i e; exact .rswDead (mm hr e)
  · rename_i e; exact .rswEmp (mm hr e)
  · rename_i e p q x y; exact .rsl (mm hr e) p q x y
  · rename_i e; exact .rslDead (mm hr e)
  · exact .rslEmp _ _ _
  · exact .rslNil _ _
  · rename_i e; exact .map (mm hr e)
  · rename_i e; exact .mapDead (mm hr e)
theorem RelL.lower1 {K : Codec C} {ρ : Ren} {N n : Nat} (hn : n ≤ N) : ∀ {l : List (V C)} {l' : List Value}, RelL K (ρ.res N) l l' → l.all (V.low1 n) = true → RelL K (ρ.res n) l l'
  | _, _, .nil, _ => .nil
  | _, _, .cons a b, h => by
    rw [List.all_cons, Bool.and_eq_true] at h
    exact .cons (a.lower1 hn h.1) (RelL.lower1 hn b h.2)
theorem RelV.lower {K : Codec C} {ρ : Ren} {N n : Nat} {u : V C} {v : Value} (h : RelV K (ρ.res N) u v) (hn : n ≤ N) (hu : u.low n = true) : RelV K (ρ.res n) u v := by
  cases u with
  | agg l => cases h with | agg h => exact .agg (RelL.lower1 hn h hu)
  | _ => exact h.lower1 hn hu
end Go.Vm
/- A generic text: regions that draw their order: mixed names. No program. -/
set_option linter.unusedVariables false
set_option linter.unusedSimpArgs false
set_option linter.unusedSectionVars false
namespace Go.Vm
open Go
variable {C : Nat → Type} {D : Type} [Tst D]
/-- an object, held against the world -/
structure ObjOk (K : Codec C) (P : Program) (ρ : Ren) (w : World) (r : Nat) (o : AObj C) : Prop where
  blk : ∀ b s k z q, ρ.m r = .to b s k z q → RelB K P ρ w r b s k z q o
  emp : ρ.m r = .emp → ∃ cid, cid < K.n ∧ o = .rows cid []
  dead : ρ.m r = .dead → o = .dead
section
variable {K : Codec C} {P : Program} {ρ ρ' : Ren} {w w' : World}
theorem RelS.obj {H : AStore C} (h : RelS K P ρ H w) {r : Nat} {o : AObj C} (hg : H.get r = some o) : ObjOk K P ρ w r o :=
  ⟨fun b s k z q e => h.blk r b s k z q o e hg, fun e => h.emp r o e hg, fun e => h.dead r o e hg⟩
theorem RelS.of_obj {H : AStore C} (hN : Names ρ H.n w.heap.size) (ho : ∀ r o, H.get r = some o → ObjOk K P ρ w r o) (hz : ∀ b cs t, ρ.z b = some (cs, t) → ∃ fr, w.heap[b]? = some (.cells cs t fr)) : RelS K P ρ H w :=
  ⟨hN, fun r b s k z q o e hg => (ho r o hg).blk b s k z q e, fun r o e hg => (ho r o hg).emp e, fun r o e hg => (ho r o hg).dead e, hz⟩
theorem ObjOk.mono {r : Nat} {o : AObj C} (h : ObjOk K P ρ w r o) (hl : ρ.le ρ') (hm : ρ'.m r = ρ.m r) (hf : ρ'.f r = ρ.f r) (hw : ∀ b s k z q, ρ.m r = .to b s k z q → w'.heap[b]? = w.heap[b]?) (hg : ∀ i, ∀ b ∈ ρ.f r i, w'.heap[b]? = w.heap[b]?) : ObjOk K P ρ' w' r o := by
  refine ⟨fun b s k z q e => ?_, fun e => h.emp (hm ▸ e), fun e => h.dead (hm ▸ e)⟩
  rw [hm] at e
  exact (h.blk b s k z q e).mono hl hf (hw b s k z q e) hg
end
/-- what an operation has done under the elder names, and the younger names, together -/
def Ren.mix (ρ ρ' : Ren) (n : Nat) : Ren := ⟨fun r => if r < n then ρ'.m r else ρ.m r, fun r i => if r < n then ρ'.f r i else ρ.f r i, ρ'.z⟩
theorem mix_m {ρ ρ' : Ren} {n r : Nat} (h : r < n) : (ρ.mix ρ' n).m r = ρ'.m r := if_pos h
theorem mix_f {ρ ρ' : Ren} {n r : Nat} (h : r < n) : (ρ.mix ρ' n).f r = ρ'.f r := by funext i; exact if_pos h
theorem mix_m' {ρ ρ' : Ren} {n r : Nat} (h : n ≤ r) : (ρ.mix ρ' n).m r = ρ.m r := if_neg (by omega)
theorem mix_f' {ρ ρ' : Ren} {n r : Nat} (h : n ≤ r) : (ρ.mix ρ' n).f r = ρ.f r := by funext i; exact if_neg (by omega)
def WR (rs : List Nat) : Cells := fun r _ => r ∈ rs
structure MixOk (ρ ρ' : Ren) (n0 n1 nf : Nat) (rs : List Nat) (w w' : World) : Prop where
  names : Names ρ nf w.heap.size
  ext : Ext (ρ.res n0) ρ' n0 (WR rs) (Touched (ρ.res n0) (WR rs)) w w'
  names' : Names ρ' n1 w'.heap.size
  le0 : n0 ≤ n1
  le1 : n1 ≤ nf
  no : ∀ r, n0 ≤ r → r < n1 → ρ.m r = .no ∧ ∀ i, ρ.f r i = []
section
variable {ρ ρ' : Ren} {n0 n1 nf : Nat} {rs : List Nat} {w w' : World}
/-- what is touched is a written root's -/
theorem touched_own {b : Nat} (h : Touched (ρ.res n0) (WR rs) b) : ∃ r, r ∈ rs ∧ r < n0 ∧ (Own ρ b (.root r) ∨ ∃ i, Own ρ b (.cell r i)) := by
  rcases h with ⟨r, s, k, z, q, i, e, hr⟩ | ⟨r, i, e, hr⟩
  · have h1 : Own (ρ.res n0) b (.root r) := ⟨s, k, z, q, e⟩
    obtain ⟨h2, h3⟩ := h1.res
    rcases h3 with ⟨r', h3, h4⟩ | h3
    · rcases h4 with h4 | ⟨_, h4⟩ <;> cases h4
      exact ⟨r, hr, h3, .inl h2⟩
    · cases h3
  · have h1 : Own (ρ.res n0) b (.cell r i) := e
    obtain ⟨h2, h3⟩ := h1.res
    rcases h3 with ⟨r', h3, h4⟩ | h3
    · rcases h4 with h4 | ⟨_, h4⟩ <;> cases h4
      exact ⟨r, hr, h3, .inr ⟨i, h2⟩⟩
    · cases h3
theorem MixOk.keep (M : MixOk ρ ρ' n0 n1 nf rs w w') {b : Nat} {x : Who} (hx : Own ρ b x) (hr : ∀ r, (x = .root r ∨ ∃ i, x = .cell r i) → r ∉ rs) : w'.heap[b]? = w.heap[b]? := by
  refine M.ext.keep b (M.names.lt b x hx) fun ht => ?_
  obtain ⟨r, h1, _, h2 | ⟨i, h2⟩⟩ := touched_own ht
  · exact hr r (.inl (M.names.uniq b _ _ hx h2)) h1
  · exact hr r (.inr ⟨i, M.names.uniq b _ _ hx h2⟩) h1
theorem MixOk.res_le (M : MixOk ρ ρ' n0 n1 nf rs w w') (N : Nat) : (ρ.res N).le ((ρ.mix ρ' n1).res N) := by
  have L := M.ext.le
  have h0 := M.le0
  have split : ∀ r, (ρ.res N).m r ≠ .no → r < N ∧ (r < n0 ∨ n1 ≤ r) := fun r hr => by
    rcases Nat.lt_or_ge r N with h1 | h1
    · refine ⟨h1, ?_⟩
      rw [Ren.res_m h1] at hr
      by_cases h2 : r < n0
      · exact .inl h2
      · by_cases h3 : n1 ≤ r
        · exact .inr h3
        · exact absurd (M.no r (by omega) (by omega)).1 hr
    · exact absurd (Ren.res_no h1) hr
  refine ⟨fun r e => ?_, fun r e => ?_, fun r b s k z q e => ?_, fun b x e => L.z b x e⟩
  · obtain ⟨h1, h2⟩ := split r (by rw [e]; intro h; cases h)
    rw [Ren.res_m h1] at e ⊢
    rcases h2 with h2 | h2
    · rw [mix_m (by omega)]; exact L.dead r ((Ren.res_m h2).trans e)
    · rw [mix_m' h2]; exact e
  · obtain ⟨h1, h2⟩ := split r (by rw [e]; intro h; cases h)
    rw [Ren.res_m h1] at e ⊢
    rcases h2 with h2 | h2
    · rw [mix_m (by omega)]; exact L.emp r ((Ren.res_m h2).trans e)
    · rw [mix_m' h2]; exact .inl e
  · obtain ⟨h1, h2⟩ := split r (by rw [e]; intro h; cases h)
    rw [Ren.res_m h1] at e ⊢
    rcases h2 with h2 | h2
    · rw [mix_m (by omega)]; exact L.to r _ _ _ _ _ ((Ren.res_m h2).trans e)
    · rw [mix_m' h2]; exact .inl e
theorem MixOk.le (M : MixOk ρ ρ' n0 n1 nf rs w w') : ρ.le (ρ.mix ρ' n1) := by
  have h := M.res_le nf
  rwa [Ren.res_self M.names.dom, Ren.res_self] at h
  intro r hr
  have := M.le1
  rw [mix_m' (by omega), mix_f' (by omega)]
  exact M.names.dom r hr
theorem MixOk.res_self (M : MixOk ρ ρ' n0 n1 nf rs w w') : (ρ.mix ρ' n1).res n1 = ρ' := by
  have e1 : ((ρ.mix ρ' n1).res n1).m = ρ'.m := by
    funext r
    by_cases hr : r < n1
    · rw [Ren.res_m hr, mix_m hr]
    · rw [Ren.res_no (by omega), (M.names'.dom r (by omega)).1]
  have e2 : ((ρ.mix ρ' n1).res n1).f = ρ'.f := by
    funext r
    by_cases hr : r < n1
    · rw [Ren.res_f hr, mix_f hr]
    · funext i; rw [Ren.res_nil (by omega), (M.names'.dom r (by omega)).2]
  have e3 : ((ρ.mix ρ' n1).res n1).z = ρ'.z := rfl
  cases ρ'
  simp only [Ren.res, Ren.mix] at e1 e2 ⊢
  rw [e1, e2]
/-- whose a block is, with the mixed names -/
theorem MixOk.own (M : MixOk ρ ρ' n0 n1 nf rs w w') {b : Nat} {x : Who} (h : Own (ρ.mix ρ' n1) b x) : Own ρ' b x ∧ (∀ r, (x = .root r ∨ ∃ i, x = .cell r i) → r < n1) ∨ Own ρ b x ∧ ∃ r, n1 ≤ r ∧ (x = .root r ∨ ∃ i, x = .cell r i) := by
  cases x with
  | root r =>
    obtain ⟨s, k, z, q, e⟩ := h
    rcases Nat.lt_or_ge r n1 with hr | hr
    · rw [mix_m hr] at e
      refine .inl ⟨⟨s, k, z, q, e⟩, ?_⟩
      rintro r' (h | ⟨_, h⟩) <;> cases h
      exact hr
    · rw [mix_m' hr] at e
      exact .inr ⟨⟨s, k, z, q, e⟩, r, hr, .inl rfl⟩
  | cell r i =>
    have h : b ∈ (ρ.mix ρ' n1).f r i := h
    rcases Nat.lt_or_ge r n1 with hr | hr
    · rw [mix_f hr] at h
      refine .inl ⟨h, ?_⟩
      rintro r' (h | ⟨_, h⟩) <;> cases h
      exact hr
    · rw [mix_f' hr] at h
      exact .inr ⟨h, r, hr, .inr ⟨i, rfl⟩⟩
  | ice =>
    refine .inl ⟨h, ?_⟩
    rintro r' (h | ⟨_, h⟩) <;> cases h
/-- an old block that is somebody's afterwards was somebody's: an elder's -/
theorem MixOk.elder (M : MixOk ρ ρ' n0 n1 nf rs w w') {b : Nat} {x : Who} (h : Own ρ' b x) (hb : b < w.heap.size) : ∃ y, Own ρ b y ∧ ∀ r, (y = .root r ∨ ∃ i, y = .cell r i) → r < n0 := by
  have ofT : Touched (ρ.res n0) (WR rs) b → ∃ y, Own ρ b y ∧ ∀ r, (y = .root r ∨ ∃ i, y = .cell r i) → r < n0 := by
    intro ht
    obtain ⟨r, _, h1, h2 | ⟨i, h2⟩⟩ := touched_own ht
    · refine ⟨_, h2, ?_⟩
      rintro r' (h | ⟨_, h⟩) <;> cases h
      exact h1
    · refine ⟨_, h2, ?_⟩
      rintro r' (h | ⟨_, h⟩) <;> cases h
      exact h1
  have ofO : ∀ y, Own (ρ.res n0) b y → ∃ y, Own ρ b y ∧ ∀ r, (y = .root r ∨ ∃ i, y = .cell r i) → r < n0 := by
    intro y hy
    obtain ⟨h1, h2⟩ := hy.res
    refine ⟨y, h1, fun r hr => ?_⟩
    rcases h2 with ⟨r', h2, h3⟩ | h2
    · rcases hr with hr | ⟨i, hr⟩ <;> rcases h3 with h3 | ⟨i', h3⟩ <;> rw [hr] at h3 <;> cases h3 <;> exact h2
    · rcases hr with hr | ⟨i, hr⟩ <;> rw [hr] at h2 <;> cases h2
  cases x with
  | root r =>
    obtain ⟨s, k, z, q, e⟩ := h
    rcases M.ext.fresh r b s k z q e hb with e | e
    · exact ofO (.root r) ⟨s, k, z, q, e⟩
    · exact ofT e
  | cell r i =>
    rcases M.ext.freshF r i b h hb with e | e
    · exact ofO (.cell r i) e
    · exact ofT e
  | ice =>
    obtain ⟨x, e⟩ := h
    rcases M.ext.freshZ b x e hb with e | e
    · exact ofO .ice ⟨x, e⟩
    · exact ofT e
theorem MixOk.mixed (M : MixOk ρ ρ' n0 n1 nf rs w w') : Names (ρ.mix ρ' n1) nf w'.heap.size := by
  have h1 := M.le1
  have h0 := M.le0
  have clash : ∀ b x y r, Own ρ' b x → Own ρ b y → n1 ≤ r → (y = .root r ∨ ∃ i, y = .cell r i) → False := by
    intro b x y r hx hy hr hyr
    obtain ⟨y', g1, g2⟩ := M.elder hx (M.names.lt b y hy)
    have := M.names.uniq b _ _ hy g1
    subst this
    have := g2 r hyr
    omega
  refine ⟨fun r hr => ?_, fun b x hx => ?_, fun b x y hx hy => ?_, fun r i => ?_⟩
  · rw [mix_m' (by omega), mix_f' (by omega)]; exact M.names.dom r hr
  · rcases M.own hx with ⟨h, _⟩ | ⟨h, _⟩
    · exact M.names'.lt b x h
    · exact Nat.lt_of_lt_of_le (M.names.lt b x h) M.ext.size
  · rcases M.own hx with ⟨hx1, _⟩ | ⟨hx1, r, hr, hxr⟩ <;> rcases M.own hy with ⟨hy1, _⟩ | ⟨hy1, r', hr', hyr⟩
    · exact M.names'.uniq b x y hx1 hy1
    · exact (clash b x y r' hx1 hy1 hr' hyr).elim
    · exact (clash b y x r hy1 hx1 hr hxr).elim
    · exact M.names.uniq b x y hx1 hy1
  · rcases Nat.lt_or_ge r n1 with hr | hr
    · rw [mix_f hr]; exact M.names'.nod r i
    · rw [mix_f' hr]; exact M.names.nod r i
/-- a root that isn't touched -/
theorem MixOk.same (M : MixOk ρ ρ' n0 n1 nf rs w w') {r : Nat} (h1 : r ∉ rs) (h2 : ¬ (n0 ≤ r ∧ r < n1)) : (ρ.mix ρ' n1).m r = ρ.m r ∧ (ρ.mix ρ' n1).f r = ρ.f r := by
  have h0 := M.le0
  rcases Nat.lt_or_ge r n1 with hr | hr
  · have hr0 : r < n0 := by omega
    rw [mix_m hr, mix_f hr]
    refine ⟨(M.ext.stay r hr0 ⟨0, h1⟩).trans (Ren.res_m hr0), ?_⟩
    funext i
    rw [M.ext.stayF r i hr0 h1, Ren.res_f hr0]
  · exact ⟨mix_m' hr, mix_f' hr⟩
theorem MixOk.whole (M : MixOk ρ ρ' n0 n1 nf rs w w') {ρ0 : Ren} {n00 : Nat} {w0 : World} (X : Ext ρ0 ρ n00 WA (Touched ρ0 WA) w0 w) : Ext ρ0 (ρ.mix ρ' n1) n00 WA (Touched ρ0 WA) w0 w' := by
  have old : ∀ b, b < w0.heap.size → Touched (ρ.res n0) (WR rs) b → Touched ρ0 WA b := by
    intro b hb ht
    obtain ⟨r, _, _, ⟨s, k, z, q, e⟩ | ⟨i, e⟩⟩ := touched_own ht
    · rcases X.fresh r b s k z q e hb with e | e
      · exact .inl ⟨r, s, k, z, q, 0, e, trivial⟩
      · exact e
    · rcases X.freshF r i b e hb with e | e
      · exact .inr ⟨r, i, e, trivial⟩
      · exact e
  refine ⟨Ren.le_trans X.le M.le, Nat.le_trans X.size M.ext.size, M.ext.os.trans X.os, M.ext.tape.trans X.tape, M.ext.output.trans X.output, fun b hb hn => ?_, fun r b s k z q e hi => absurd trivial hi.choose_spec, fun r b s k z q e hb => ?_, fun r i b e hb => ?_, fun b x e hb => ?_, fun r hr hi => absurd trivial hi.choose_spec, fun r i hr hi => absurd trivial hi⟩
  · rw [← X.keep b hb hn]
    exact M.ext.keep b (Nat.lt_of_lt_of_le hb X.size) fun ht => hn (old b hb ht)
  · have hbw := Nat.lt_of_lt_of_le hb X.size
    rcases Nat.lt_or_ge r n1 with hr | hr
    · rw [mix_m hr] at e
      rcases M.ext.fresh r b s k z q e hbw with e | e
      · have : r < n0 := by
          rcases Nat.lt_or_ge r n0 with h | h
          · exact h
          · rw [Ren.res_no h] at e; cases e
        rw [Ren.res_m this] at e
        exact X.fresh r b s k z q e hb
      · exact .inr (old b hb e)
    · rw [mix_m' hr] at e; exact X.fresh r b s k z q e hb
  · have hbw := Nat.lt_of_lt_of_le hb X.size
    rcases Nat.lt_or_ge r n1 with hr | hr
    · rw [mix_f hr] at e
      rcases M.ext.freshF r i b e hbw with e | e
      · have : r < n0 := by
          rcases Nat.lt_or_ge r n0 with h | h
          · exact h
          · rw [Ren.res_nil h] at e; cases e
        rw [Ren.res_f this] at e
        exact X.freshF r i b e hb
      · exact .inr (old b hb e)
    · rw [mix_f' hr] at e; exact X.freshF r i b e hb
  · rcases M.ext.freshZ b x e (Nat.lt_of_lt_of_le hb X.size) with e | e
    · exact X.freshZ b x e hb
    · exact .inr (old b hb e)
end
end Go.Vm
/- A generic text: regions that draw their order: any order comes to what the text's order comes to. No program. -/
set_option linter.unusedVariables false
set_option linter.unusedSimpArgs false
set_option linter.unusedSectionVars false
namespace Go.Vm
open Go
variable {C : Nat → Type} {D : Type} [Tst D]
/-- the state at which a root's object was changed last, of what has been run -/
def Last (X : Nat → Prop) (trs : List (Tr C D)) (r p : Nat) : Prop := (p = 0 ∧ ∀ i, X i → ¬ Tch trs i r) ∨ ∃ i, p = i + 1 ∧ X i ∧ Tch trs i r ∧ ∀ i', X i' → Tch trs i' r → i' ≤ i
structure Inv (E : Env C) (ops : Array Oper) (st : Nat → AS C) (trs : List (Tr C D)) (ρ0 : Ren) (w0 : World) (d0 : List Deferred) (X : Nat → Prop) (ρ : Ren) (a : Act) (w : World) : Prop where
  size : a.tmps.size = (st 0).sz
  defers : a.defers = d0
  closed : ∀ j o, ops[j]? = some o → X j → ∀ e ∈ o.after, Region.binds .any e = true → X e.on
  below : ∀ j, X j → j < ops.size
  tmps : ∀ t, t < (st 0).sz → ∃ k, k ≤ ops.size ∧ RelV E.K (ρ.res (st k).H.n) (valAt st k t) (a.tmps.getD t undef) ∧ ((k = 0 ∧ ∀ i, X i → ¬ Wr ops i t) ∨ ∃ i, k = i + 1 ∧ X i ∧ Wr ops i t ∧ ∀ i', X i' → Wr ops i' t → i' ≤ i)
  names : Names ρ (st ops.size).H.n w.heap.size
  notyet : ∀ i, i < ops.size → ¬ X i → ∀ r, (st i).H.n ≤ r → r < (st (i + 1)).H.n → ρ.m r = .no ∧ ∀ x, ρ.f r x = []
  obj : ∀ r, ∃ p, p ≤ ops.size ∧ Last X trs r p ∧ ((st p).H.n ≤ r → ρ.m r = .no ∧ ∀ x, ρ.f r x = []) ∧ ∀ o, (st p).H.get r = some o → ObjOk E.K E.P (ρ.res (st p).H.n) w r o
  frz : ∀ b cs t, ρ.z b = some (cs, t) → ∃ fr, w.heap[b]? = some (.cells cs t fr)
  ext : Ext ρ0 ρ (st 0).H.n WA (Touched ρ0 WA) w0 w
theorem not_select {E : Env C} {call : CallF C D} {o : Oper} {s : AS C} {ds : List D} {r : V C × AStore C × List Prop × List D} (h : ares E call o s ds = some r) : ∀ cs b, o.op ≠ .select cs b := by
  intro cs b e
  unfold ares at h
  rw [e] at h
  simp only [] at h
  unfold aop at h
  rw [e] at h
  cases h
section
variable {E : Env C} {call : CallF C D} {ops : Array Oper} {st : Nat → AS C} {trs : List (Tr C D)} {ρ0 : Ren} {w0 : World} {d0 : List Deferred} {X : Nat → Prop} {ρ : Ren} {a : Act} {w : World} {ds ds' : List D} {ps : List Prop}
theorem masked_rel {s : AS C} {o : Oper} {H : AStore C} {ρ1 : Ren} (hsz : a.tmps.size = s.sz) (hl : ∀ t, t ∈ looks ops.toList o → t < s.sz → RelV E.K ρ1 ((s.tm.get t).getD (s.j t)) (a.tmps.getD t undef)) :
    RelF E.K ρ1 (s.mask ops.toList o H) (amask (looks ops.toList o) a) := amask_rel hsz hl
/-- an operation, run on what it looks at -/
theorem masked_does (hE : EnvOk E) (hcall : CallOk E call) {s : AS C} {o : Oper} {H : AStore C} {u : V C} {H1 : AStore C} {ρ1 : Ren} (hsz : a.tmps.size = s.sz)
    (hl : ∀ t, t ∈ looks ops.toList o → t < s.sz → RelV E.K ρ1 ((s.tm.get t).getD (s.j t)) (a.tmps.getD t undef)) (hS : RelS E.K E.P ρ1 H w)
    (h : runV E call ops.toList o (s.mask ops.toList o H) ds = some (u, H1, ps, ds')) (hps : AllP ps) {W : Cells} (hW : (∀ c f, o.op = .call c → c.callee ≠ .value f) → WFor (s.mask ops.toList o H) o W) (hWA : ∀ r i, WAll H r i → W r i) :
    (Region.wanted o (yielded ops a.tmps) = true ∧ Does E.P (execOp a.eval o) w (Res E ρ1 H w u H1 W)) ∨ (Region.wanted o (yielded ops a.tmps) = false ∧ u = .tuple [] ∧ H1 = H) := by
  have hF := masked_rel (E := E) (ops := ops) (H := H) hsz hl
  unfold runV at h
  split at h
  · rename_i pw dw hw
    split at h
    case h_2 => cases h
    rename_i hr
    cases h
    obtain ⟨hpw, hps⟩ := AllP.append.1 hps
    left
    refine ⟨by rw [← amask_wanted]; exact wanted_rel hF hw hpw, ?_⟩
    rw [execOp_congr o (not_select hr) (fun x hx => amask_eval (a := a) (ops := ops.toList) hx)]
    exact op_does hE hcall hF hS hr hps hW hWA
  · rename_i hw
    right
    cases h
    exact ⟨by rw [← amask_wanted]; exact wanted_rel hF hw hps, rfl, rfl⟩
  · cases h
theorem masked_pure (hE : EnvOk E) {s : AS C} {o : Oper} {H : AStore C} {u : V C} {H1 : AStore C} {ρ1 : Ren} (ht : isP o.op = true) (hsz : a.tmps.size = s.sz)
    (hl : ∀ t, t ∈ looks ops.toList o → t < s.sz → RelV E.K ρ1 ((s.tm.get t).getD (s.j t)) (a.tmps.getD t undef)) (hS : RelS E.K E.P ρ1 H w)
    (h : runV E call ops.toList o (s.mask ops.toList o H) ds = some (u, H1, ps, ds')) (hps : AllP ps) :
    (Region.wanted o (yielded ops a.tmps) = true ∧ ∃ v, (execOp a.eval o).run E.P w = .ok (.value v) w ∧ RelV E.K ρ1 u v) ∨ (Region.wanted o (yielded ops a.tmps) = false ∧ u = .tuple []) := by
  have hF := masked_rel (E := E) (ops := ops) (H := H) hsz hl
  unfold runV at h
  split at h
  · rename_i pw dw hw
    split at h
    case h_2 => cases h
    rename_i hr
    cases h
    obtain ⟨hpw, hps⟩ := AllP.append.1 hps
    left
    refine ⟨by rw [← amask_wanted]; exact wanted_rel hF hw hpw, ?_⟩
    rw [execOp_congr o (not_select hr) (fun x hx => amask_eval (a := a) (ops := ops.toList) hx)]
    exact op_pure ht hE hF hS hr hps
  · rename_i hw
    right
    cases h
    exact ⟨by rw [← amask_wanted]; exact wanted_rel hF hw hps, rfl⟩
  · cases h
/-- what an operation looks at is what it looks at in the text's order -/
theorem Inv.looks (hI : Inv E ops st trs ρ0 w0 d0 X ρ a w) (hT : Text E call ops st trs) (hd : DrawOk ops) {j : Nat} {o : Oper} (hj : ops[j]? = some o) (hD : ¬ X j) (hr : ∀ e ∈ o.after, Region.binds .any e = true → X e.on) :
    ∀ t, t ∈ Vm.looks ops.toList o → t < (st 0).sz → RelV E.K (ρ.res (st j).H.n) (valAt st j t) (a.tmps.getD t undef) := by
  intro t ht hlt
  have hjn : j < ops.size := (Array.getElem?_eq_some_iff.1 hj).1
  have hanc : ∀ i, Wr ops i t → i < j → X i := by
    rintro i ⟨p, hp, hpd⟩ hij
    rcases hd.tmp j o hj t (.inl ht) i p hp hpd with h | h
    · omega
    · rw [Nat.max_eq_right (by omega), Nat.min_eq_left (by omega)] at h
      exact before_mem hd hI.closed hj hr h
  have hlate : ∀ i, Wr ops i t → X i → i < j := by
    rintro i ⟨p, hp, hpd⟩ hDi
    rcases hd.tmp j o hj t (.inl ht) i p hp hpd with h | h
    · subst h; exact absurd hDi hD
    · rcases Nat.lt_or_ge i j with h1 | h1
      · exact h1
      · exfalso
        rw [Nat.max_eq_left h1, Nat.min_eq_right h1] at h
        exact hD (before_mem hd hI.closed hp (hI.closed _ _ hp hDi) h)
  obtain ⟨k, _, hR, hk⟩ := hI.tmps t hlt
  have : valAt st j t = valAt st k t ∧ k ≤ j := by
    rcases hk with ⟨rfl, hn⟩ | ⟨i, rfl, hDi, hWi, hmax⟩
    · exact ⟨hT.keepVal j (Nat.zero_le _) (by omega) fun i _ hij hw => hn i (hanc i hw hij) hw, Nat.zero_le _⟩
    · have := hlate i hWi hDi
      refine ⟨hT.keepVal j (by omega) (by omega) fun i' h1 h2 hw => ?_, by omega⟩
      have := hmax i' (hanc i' hw h2) hw
      omega
  rw [this.1]
  exact hR.mono (Ren.res_le (Ren.le_refl _) (hT.n_mono j this.2 (by omega)))
theorem Inv.tmps_step (hI : Inv E ops st trs ρ0 w0 d0 X ρ a w) (hd : DrawOk ops) {j : Nat} {o : Oper} (hj : ops[j]? = some o) (hD : ¬ X j) {ρ' : Ren} (hle : ∀ N, (ρ.res N).le (ρ'.res N)) {u : V C} {v : Value} {H : AStore C} (hput : (st j).put o.dst u H = some (st (j + 1))) (hv : RelV E.K (ρ'.res (st (j + 1)).H.n) u v) :
    ∀ t, t < (st 0).sz → ∃ k, k ≤ ops.size ∧ RelV E.K (ρ'.res (st k).H.n) (valAt st k t) ((a.put o.dst v).tmps.getD t undef) ∧ ((k = 0 ∧ ∀ i, (X i ∨ i = j) → ¬ Wr ops i t) ∨ ∃ i, k = i + 1 ∧ (X i ∨ i = j) ∧ Wr ops i t ∧ ∀ i', (X i' ∨ i' = j) → Wr ops i' t → i' ≤ i) := by
  intro t ht
  obtain ⟨_, _, p3, p4⟩ := AS.val_put hput
  by_cases e : o.dst = some t
  · refine ⟨j + 1, (Array.getElem?_eq_some_iff.1 hj).1, ?_, .inr ⟨j, rfl, .inr rfl, ⟨o, hj, e⟩, ?_⟩⟩
    · have h1 : valAt st (j + 1) t = u := (p4 t).trans (if_pos e)
      have h2 : (a.put o.dst v).tmps.getD t undef = v := by
        rw [e]
        have hlt : t < a.tmps.size := by rw [hI.size]; exact ht
        simp [Act.put, Array.getD, hlt]
      rw [h1, h2]; exact hv
    · rintro i' (hDi | rfl) hw
      · obtain ⟨p, hp, hpd⟩ := hw
        rcases hd.tmp j o hj t (.inr e) i' p hp hpd with h | h
        · omega
        · rcases Nat.lt_or_ge j i' with h1 | h1
          · exfalso
            rw [Nat.max_eq_left (by omega), Nat.min_eq_right (by omega)] at h
            exact hD (before_mem hd hI.closed hp (hI.closed _ _ hp hDi) h)
          · exact h1
      · exact Nat.le_refl _
  · obtain ⟨k, hkn, hR, hk⟩ := hI.tmps t ht
    have h2 : (a.put o.dst v).tmps.getD t undef = a.tmps.getD t undef := by
      cases hx : o.dst with
      | none => rfl
      | some d =>
        rw [hx] at e
        have hne : d ≠ t := fun h => e (by rw [h])
        simp only [Act.put, Array.getD_eq_getD_getElem?]
        rw [Array.getElem?_setIfInBounds_ne hne]
    have hnw : ¬ Wr ops j t := by
      rintro ⟨p, hp, hpd⟩
      rw [hj] at hp
      cases hp
      exact e hpd
    refine ⟨k, hkn, by rw [h2]; exact hR.mono (hle _), ?_⟩
    rcases hk with ⟨rfl, hn⟩ | ⟨i, rfl, hDi, hWi, hmax⟩
    · refine .inl ⟨rfl, ?_⟩
      rintro i (hDi | rfl)
      · exact hn i hDi
      · exact hnw
    · refine .inr ⟨i, rfl, .inl hDi, hWi, ?_⟩
      rintro i' (hDi' | rfl) hw
      · exact hmax i' hDi' hw
      · exact absurd hw hnw
theorem Inv.closed_step (hI : Inv E ops st trs ρ0 w0 d0 X ρ a w) {j : Nat} {o : Oper} (hj : ops[j]? = some o) (hr : ∀ e ∈ o.after, Region.binds .any e = true → X e.on) :
    ∀ i p, ops[i]? = some p → (X i ∨ i = j) → ∀ e ∈ p.after, Region.binds .any e = true → (X e.on ∨ e.on = j) := by
  rintro i p hp (hDi | rfl) e he hb
  · exact .inl (hI.closed i p hp hDi e he hb)
  · rw [hj] at hp
    cases hp
    exact .inl (hr e he hb)
/-- the state's object, under more names -/
theorem Inv.obj_at (hI : Inv E ops st trs ρ0 w0 d0 X ρ a w) {r p N : Nat} {o : AObj C} (hN : (st p).H.n ≤ N) (hno : (st p).H.n ≤ r → ρ.m r = .no ∧ ∀ x, ρ.f r x = []) (ho : ObjOk E.K E.P (ρ.res (st p).H.n) w r o) : ObjOk E.K E.P (ρ.res N) w r o := by
  rcases Nat.lt_or_ge r (st p).H.n with hr | hr
  · refine ho.mono (Ren.res_le (Ren.le_refl _) hN) ?_ ?_ (fun _ _ _ _ _ _ => rfl) (fun _ _ _ => rfl)
    · rw [Ren.res_m hr, Ren.res_m (by omega)]
    · rw [Ren.res_f hr, Ren.res_f (by omega)]
  · have h0 : (ρ.res N).m r = .no := by
      rcases Nat.lt_or_ge r N with h | h
      · rw [Ren.res_m h]; exact (hno hr).1
      · exact Ren.res_no h
    exact ⟨fun b s k z q e => (by rw [h0] at e; cases e), fun e => (by rw [h0] at e; cases e), fun e => (by rw [h0] at e; cases e)⟩
theorem newOnes_mem : ∀ (l acc : List Nat) (r : Nat), r ∈ l → r ∈ acc ∨ r ∈ newOnes acc l
  | [], _, _, h => by cases h
  | x :: l, acc, r, h => by
    unfold newOnes
    rcases List.mem_cons.1 h with rfl | h
    · split
      · rename_i hc; exact .inl (by simpa using hc)
      · exact .inr (by simp)
    · split
      · exact newOnes_mem l acc r h
      · rcases newOnes_mem l (x :: acc) r h with h1 | h1
        · rcases List.mem_cons.1 h1 with rfl | h1
          · exact .inr (by simp)
          · exact .inl h1
        · exact .inr (by simp [h1])
theorem mask_val {s : AS C} {l : List Oper} {o : Oper} {H : AStore C} {x : Operand} (hx : x ∈ o.op.operands) : (s.mask l o H).val x = s.val x := by
  cases x with
  | tmp t =>
    have hm : t ∈ Vm.looks l o := by
      unfold Vm.looks
      rw [List.mem_append]
      left
      rw [List.mem_filterMap]
      exact ⟨.tmp t, by simpa using hx, rfl⟩
    show cond (Nat.ble (Nat.succ t) s.sz) (some (((mask s.tm s.j (Vm.looks l o)).get t).getD (.tuple []))) none = _
    rw [mask_get, if_pos hm]
    rfl
  | _ => rfl
theorem roots_for {s : AS C} {l : List Oper} {o : Oper} {H : AStore C} (hc : ∀ c f, o.op = .call c → c.callee ≠ .value f) : WFor (s.mask l o H) o (WR (rootsOf s o)) := by
  intro x hx v hv r hr i
  rw [mask_val hx] at hv
  show r ∈ rootsOf s o
  unfold rootsOf
  split
  · rename_i f args _ ho
    exact absurd rfl (hc _ f ho)
  · rcases newOnes_mem (o.op.operands.toList.flatMap fun x => match s.val x with | some v => v.roots | none => []) [] r (by
      rw [List.mem_flatMap]
      exact ⟨x, by simpa using hx, by rw [hv]; exact hr⟩) with h | h
    · cases h
    · exact h
end
end Go.Vm
