/- A part of the proof that the law of the statement is true of all inputs: VmAC, VR1, VR2, VR3, VR4. -/
import Derived.Test.YtomcbkfnbagekaaGreatVi
/- A generic text: small things for printed proofs. No program. -/
set_option linter.unusedVariables false
namespace Go.Vm
open Go
theorem and_parts {a b : Bool} (h : (a && b) = true) : a = true ∧ b = true := by rwa [Bool.and_eq_true] at h
abbrev vi {C : Nat → Type} (n : Int) : V C := .int .i64 n
abbrev v0 {C : Nat → Type} : V C := .int .i64 (Int.ofNat 0)
abbrev dT {C : Nat → Type} : Dec C := .test true
abbrev dF {C : Nat → Type} : Dec C := .test false
abbrev dL {C : Nat → Type} : Dec C := .lit
def dc {C : Nat → Type} {E : Env C} {g : FuncId} {xs : List (V C)} {os : List (AObj C)} {u : V C} {os' : List (AObj C)} (h : Con0 E g xs os u os') : Dec C := .call u os'
theorem apn : AllP [] := trivial
theorem apc {p : Prop} {l : List Prop} (h : p) (k : AllP l) : AllP (p :: l) := ⟨h, k⟩
end Go.Vm
/- Numbers and spans: what the functions of the affine law answer, without any program. -/
set_option linter.unusedVariables false
set_option linter.unusedSimpArgs false
set_option maxRecDepth 100000
namespace Go.Proofs.YtomcbkfnbagekaaGreat
open Go Go.Vm
theorem w_id {n : Int} (h1 : -9223372036854775808 ≤ n) (h2 : n ≤ 9223372036854775807) : wr .i64 n = n := by
  have e : wr .i64 n = if n % 18446744073709551616 < 9223372036854775808 then n % 18446744073709551616 else n % 18446744073709551616 - 18446744073709551616 := rfl
  rw [e]; split <;> omega
theorem u_id {n : Int} (h1 : 0 ≤ n) (h2 : n < 18446744073709551616) : wr .u64 n = n := by
  have e : wr .u64 n = if n % 18446744073709551616 < 18446744073709551616 then n % 18446744073709551616 else n % 18446744073709551616 - 18446744073709551616 := rfl
  rw [e]; split <;> omega
theorem allB_cons (b : Bool) (l : List Bool) : allB (b :: l) = (b && allB l) := rfl
theorem allB_nil : allB [] = true := rfl
theorem P24_t (a b c : Int) : P24 a b c = true := by unfold P24; split <;> rfl
theorem P27_t (a : Int) : P27 a = true := by unfold P27; split <;> rfl
theorem P29_t (a b c : Int) (d : Bool) : P29 a b c d = true := by
  unfold P29
  split <;> try rfl
  split <;> rfl
theorem P55_t (a : Int) : P55 a = true := by unfold P55; split <;> rfl
theorem P57_t (a b : Int) : P57 a b = true := by unfold P57; repeat' (split <;> try rfl)
theorem P81_t (a : Int) : P81 a = true := by unfold P81; split <;> rfl
theorem P93_t (a b c : Int) : P93 a b c = true := by unfold P93; split <;> rfl
theorem P128_t (a : Int) : P128 a = true := by unfold P128; split <;> rfl
theorem P118_t (a b : Int) : P118 a b = true := rfl
theorem P26_t (a b c : Int) : P26 a b c = true := by
  unfold P26
  simp only [P55_t, allB_cons, allB_nil, Bool.and_true]
  split <;> try rfl
  split <;> try rfl
  split <;> try rfl
  split <;> try rfl
  split <;> try rfl
  rename_i h
  have : ¬ c = 0 := by have := of_decide_eq_true h; simp only [ge_iff_le] at this; intro e; subst e; exact absurd this (by decide)
  simp [this]
theorem P58_t (a b c : Int) : P58 a b c = true := by
  unfold P58
  simp only [P81_t, allB_cons, allB_nil, Bool.and_true]
  split <;> try rfl
  split <;> try rfl
  split <;> try rfl
  split <;> try rfl
  split <;> try rfl
  rename_i h
  have : ¬ c = 0 := by have := of_decide_eq_true h; intro e; subst e; exact absurd this (by decide)
  simp [this]
theorem P70_t (a b c : Int) : P70 a b c = true := by
  unfold P70
  simp only [P81_t, P93_t, allB_cons, allB_nil, Bool.and_true]
  split <;> try rfl
  split <;> try rfl
  split <;> try rfl
  split <;> try rfl
  rename_i h
  have : ¬ c = 0 := by intro e; subst e; exact h (by decide)
  simp [this]
theorem P83_t (a b c : Int) : P83 a b c = true := by
  unfold P83; simp only [P81_t, P93_t, allB_cons, allB_nil, Bool.and_true]; repeat' (split <;> try rfl)
theorem P98_t (a b c : Int) : P98 a b c = true := by
  unfold P98; simp only [P55_t, P24_t, allB_cons, allB_nil, Bool.and_true]; repeat' (split <;> try rfl)
theorem P11_t (a b c d : Int) : P11 a b c d = true := by
  unfold P11
  split <;> try rfl
  split <;> try rfl
  split <;> try rfl
  rename_i h
  have : (c == 0) = false := by simpa using h
  simp [allB_cons, allB_nil]
  simpa using h
theorem tmod_lt {a b : Int} (h : a ≠ 0) : (b.tmod a).natAbs < a.natAbs := by
  rw [Int.natAbs_tmod]
  exact Nat.mod_lt _ (by omega)
theorem PL99_t : ∀ (n : Nat) (a b : Int), a.natAbs < n → PL99_0 n a b = true
  | 0, a, b, h => by omega
  | n + 1, a, b, h => by
    show PS99_0 (PL99_0 n) a b = true
    unfold PS99_0
    split
    · rename_i ha
      have ha : a ≠ 0 := by simpa using ha
      have := tmod_lt (b := b) ha
      simp only [allB_cons, allB_nil, PL99_t n _ _ (by omega : (b.tmod a).natAbs < n)]
      simpa using ha
    · rfl
theorem P99_t (a b : Int) : P99 a b = true := by
  unfold P99
  simp only [PL99_t _ _ _ (Nat.lt_succ_self _), allB_cons, allB_nil]
  repeat' (split <;> try rfl)
theorem P80_t (a b c d e f : Int) : P80 a b c d e f = true := by
  unfold P80; simp only [P99_t, P98_t, allB_cons, allB_nil, Bool.and_true]
theorem P56_t (a b c : Int) (x : Bool) (d e f : Int) : P56 a b c x d e f = true := by
  unfold P56; simp only [P26_t, P80_t, allB_cons, allB_nil, Bool.and_true]; repeat' (split <;> try rfl)
theorem P7_t (a b c : Int) : P7 a b c = true := by
  unfold P7; simp only [P24_t, allB_cons, allB_nil, Bool.and_true]
/-! gcd -/
theorem PL84a_t (x : Int) : ∀ (n : Nat) (a b : Int), a.natAbs < n → PL84a_0 x n a b = true
  | 0, a, b, h => by omega
  | n + 1, a, b, h => by
    show PS84a_0 x n (PL84a_0 x n) a b = true
    unfold PS84a_0
    split
    · rename_i ha
      have ha : a ≠ 0 := by simpa using ha
      have := tmod_lt (b := b) ha
      simp only [allB_cons, allB_nil, PL84a_t x n _ _ (by omega : (b.tmod a).natAbs < n)]
      simpa using ha
    · rfl
theorem PL84b_1t (x y : Int) : ∀ (n : Nat) (a b : Int), a.natAbs < n → PL84b_1 x y n a b = true
  | 0, a, b, h => by omega
  | n + 1, a, b, h => by
    show PS84b_1 x y n (PL84b_1 x y n) a b = true
    unfold PS84b_1
    split
    · rename_i ha
      have ha : a ≠ 0 := by simpa using ha
      have := tmod_lt (b := b) ha
      simp only [allB_cons, allB_nil, PL84b_1t x y n _ _ (by omega : (b.tmod a).natAbs < n)]
      simpa using ha
    · rfl
theorem PL84b_0t (x y : Int) : ∀ (n : Nat) (a b : Int), a.natAbs < n → PL84b_0 x y n a b = true
  | 0, a, b, h => by omega
  | n + 1, a, b, h => by
    show PS84b_0 x y n (PL84b_0 x y n) a b = true
    unfold PS84b_0
    split
    · rename_i ha
      have ha : a ≠ 0 := by simpa using ha
      have := tmod_lt (b := b) ha
      simp only [allB_cons, allB_nil, PL84b_0t x y n _ _ (by omega : (b.tmod a).natAbs < n)]
      simpa using ha
    · simp only [allB_cons, allB_nil, PL84b_1t x y _ _ _ (Nat.lt_succ_self _), Bool.and_true]
theorem P84a_t (x : Int) : P84a x = true := by unfold P84a; simp only [PL84a_t x _ _ _ (Nat.lt_succ_self _), allB_cons, allB_nil, Bool.and_true]
theorem P84b_t (x y : Int) : P84b x y = true := by unfold P84b; simp only [PL84b_0t x y _ _ _ (Nat.lt_succ_self _), allB_cons, allB_nil, Bool.and_true]
theorem P60_t (a b c d e f : Int) : P60 a b c d e f = true := by unfold P60; simp only [P84b_t, P83_t, allB_cons, allB_nil, Bool.and_true]
/-- a divisor of both, not negative, no more than the bound -/
def Gd (B a b r : Int) : Prop := 0 ≤ r ∧ r ≤ B ∧ r ∣ a ∧ r ∣ b
theorem abs_w {B b : Int} (hB : B ≤ 1000000000000) (h1 : -B ≤ b) (h2 : b ≤ B) : (if wr .i64 (Int.ofNat 0 - b) > b then wr .i64 (Int.ofNat 0 - b) else b) = (if b < 0 then -b else b) := by
  have e : wr .i64 (Int.ofNat 0 - b) = -b := by rw [w_id (by show _ ≤ (0:Int) - b; omega) (by show (0:Int) - b ≤ _; omega)]; show (0:Int) - b = -b; omega
  rw [e]; split <;> split <;> omega
theorem gd_end {B b : Int} (hB : B ≤ 1000000000000) (h1 : -B ≤ b) (h2 : b ≤ B) : Gd B 0 b (if wr .i64 (Int.ofNat 0 - b) > b then wr .i64 (Int.ofNat 0 - b) else b) := by
  rw [abs_w hB h1 h2]
  split
  · exact ⟨by omega, by omega, Int.dvd_zero _, Int.neg_dvd.2 (Int.dvd_refl _)⟩
  · exact ⟨by omega, by omega, Int.dvd_zero _, Int.dvd_refl _⟩
theorem gd_step {B a b r : Int} (h : Gd B (b.tmod a) a r) : Gd B a b r := by
  obtain ⟨h1, h2, h3, h4⟩ := h
  refine ⟨h1, h2, h4, ?_⟩
  have := Int.tmod_add_mul_tdiv b a
  rw [← this]
  exact Int.dvd_add h3 (Int.dvd_trans h4 (Int.dvd_mul_right _ _))
theorem tmod_bd {a b B : Int} (h : a ≠ 0) (h1 : -B ≤ a) (h2 : a ≤ B) : -B ≤ b.tmod a ∧ b.tmod a ≤ B := by
  have := tmod_lt (b := b) h
  omega
theorem FL84a_gd (x : Int) {B : Int} (hB : B ≤ 1000000000000) : ∀ (n : Nat) (a b : Int), a.natAbs < n → -B ≤ a → a ≤ B → -B ≤ b → b ≤ B → Gd B a b (FL84a_0 x n a b).1
  | 0, a, b, h, _, _, _, _ => by omega
  | n + 1, a, b, h, a1, a2, b1, b2 => by
    show Gd B a b (FS84a_0 x n (FL84a_0 x n) a b).1
    unfold FS84a_0
    by_cases ha : a = 0
    · subst ha
      exact gd_end hB b1 b2
    · rw [if_pos (by simpa using ha)]
      have := tmod_lt (b := b) ha
      have hb := tmod_bd (b := b) ha a1 a2
      exact gd_step (FL84a_gd x hB n _ _ (by omega) hb.1 hb.2 a1 a2)
theorem FL84b_1gd (x y : Int) {B : Int} (hB : B ≤ 1000000000000) : ∀ (n : Nat) (a b : Int), a.natAbs < n → -B ≤ a → a ≤ B → -B ≤ b → b ≤ B → Gd B a b (FL84b_1 x y n a b).1
  | 0, a, b, h, _, _, _, _ => by omega
  | n + 1, a, b, h, a1, a2, b1, b2 => by
    show Gd B a b (FS84b_1 x y n (FL84b_1 x y n) a b).1
    unfold FS84b_1
    by_cases ha : a = 0
    · subst ha
      exact gd_end hB b1 b2
    · rw [if_pos (by simpa using ha)]
      have := tmod_lt (b := b) ha
      have hb := tmod_bd (b := b) ha a1 a2
      exact gd_step (FL84b_1gd x y hB n _ _ (by omega) hb.1 hb.2 a1 a2)
theorem FL84b_0gd (x y : Int) {B : Int} (hB : B ≤ 1000000000000) (y1 : -B ≤ y) (y2 : y ≤ B) : ∀ (n : Nat) (a b : Int), a.natAbs < n → -B ≤ a → a ≤ B → -B ≤ b → b ≤ B → Gd B a b (FL84b_0 x y n a b).1 ∧ (FL84b_0 x y n a b).1 ∣ y
  | 0, a, b, h, _, _, _, _ => by omega
  | n + 1, a, b, h, a1, a2, b1, b2 => by
    show Gd B a b (FS84b_0 x y n (FL84b_0 x y n) a b).1 ∧ (FS84b_0 x y n (FL84b_0 x y n) a b).1 ∣ y
    unfold FS84b_0
    by_cases ha : a = 0
    · subst ha
      rw [if_neg (by decide)]
      obtain ⟨q1, q2, q3, q4⟩ := FL84b_1gd x y hB _ y b (Nat.lt_succ_self _) y1 y2 b1 b2
      exact ⟨⟨q1, q2, Int.dvd_zero _, q4⟩, q3⟩
    · rw [if_pos (by simpa using ha)]
      have := tmod_lt (b := b) ha
      have hb := tmod_bd (b := b) ha a1 a2
      obtain ⟨q1, q2⟩ := FL84b_0gd x y hB y1 y2 n _ _ (by omega) hb.1 hb.2 a1 a2
      exact ⟨gd_step q1, q2⟩
theorem F84a_gd {B x : Int} (hB : B ≤ 1000000000000) (h1 : -B ≤ x) (h2 : x ≤ B) : 0 ≤ (F84a x).1 ∧ (F84a x).1 ≤ B ∧ (F84a x).1 ∣ x := by
  obtain ⟨q1, q2, q3, _⟩ := FL84a_gd x hB _ x (Int.ofNat 0) (Nat.lt_succ_self _) h1 h2 (by show _ ≤ (0:Int); omega) (by show (0:Int) ≤ _; omega)
  exact ⟨q1, q2, q3⟩
theorem F84b_gd {B x y : Int} (hB : B ≤ 1000000000000) (h1 : -B ≤ x) (h2 : x ≤ B) (y1 : -B ≤ y) (y2 : y ≤ B) : 0 ≤ (F84b x y).1 ∧ (F84b x y).1 ≤ B ∧ (F84b x y).1 ∣ x ∧ (F84b x y).1 ∣ y := by
  obtain ⟨⟨q1, q2, q3, _⟩, q4⟩ := FL84b_0gd x y hB y1 y2 _ x (Int.ofNat 0) (Nat.lt_succ_self _) h1 h2 (by show _ ≤ (0:Int); omega) (by show (0:Int) ≤ _; omega)
  exact ⟨q1, q2, q3, q4⟩
end Go.Proofs.YtomcbkfnbagekaaGreat
/- Spans: what the functions of the affine law answer for small numbers. -/
set_option linter.unusedVariables false
set_option linter.unusedSimpArgs false
set_option maxRecDepth 100000
namespace Go.Proofs.YtomcbkfnbagekaaGreat
open Go Go.Vm
/-- a number is an element -/
def In (lo hi st v : Int) : Prop := lo ≤ v ∧ v ≤ hi ∧ st ∣ v - lo
theorem F81_y {x : Int} (h1 : -1000000000000 ≤ x) (h2 : x ≤ 1000000000000) : F81 x = true := by
  unfold F81
  rw [if_pos (decide_eq_true (by show (-1099511627776:Int) ≤ x; omega))]
  exact decide_eq_true (by show x ≤ (1099511627776:Int); omega)
theorem F93_eq (a b c : Int) : F93 a b c = (a, b, if a = b then 0 else c) := by
  unfold F93
  by_cases h : a = b
  · rw [if_pos (by simpa using h), if_pos h]; rfl
  · rw [if_neg (by simpa using h), if_neg h]
theorem F83_eq {a b c : Int} (a1 : -1000000000000 ≤ a) (a2 : a ≤ 1000000000000) (b1 : -1000000000000 ≤ b) (b2 : b ≤ 1000000000000) : F83 a b c = (a, b, (if a = b then 0 else c), 0) := by
  unfold F83
  rw [F81_y a1 a2, F81_y b1 b2, F93_eq]
  rfl
/-- sums -/
theorem F60_s {a b c d e f : Int} (ha : -1000000000 ≤ a ∧ a ≤ 1000000000) (hb : -1000000000 ≤ b ∧ b ≤ 1000000000) (hc : 0 ≤ c ∧ c ≤ 1000000000) (hd : -1000000000 ≤ d ∧ d ≤ 1000000000) (he : -1000000000 ≤ e ∧ e ≤ 1000000000) (hf : 0 ≤ f ∧ f ≤ 1000000000) :
    ∃ s, F60 a b c d e f = (a + d, b + e, s, 0) ∧ 0 ≤ s ∧ s ≤ 1000000000 ∧ ∀ v u, In a b c v → In d e f u → In (a + d) (b + e) s (v + u) := by
  obtain ⟨g1, g2, g3, g4⟩ := F84b_gd (B := 1000000000) (by omega) (by omega : -1000000000 ≤ c) hc.2 (by omega : -1000000000 ≤ f) hf.2
  have e1 : wr .i64 (a + d) = a + d := w_id (by omega) (by omega)
  have e2 : wr .i64 (b + e) = b + e := w_id (by omega) (by omega)
  refine ⟨if a + d = b + e then 0 else (F84b c f).1, ?_, ?_, ?_, ?_⟩
  · unfold F60
    rw [e1, e2, F83_eq (by omega) (by omega) (by omega) (by omega)]
  · split <;> omega
  · split <;> omega
  · intro v u ⟨v1, v2, v3⟩ ⟨u1, u2, u3⟩
    refine ⟨by omega, by omega, ?_⟩
    split
    · have : v + u - (a + d) = 0 := by omega
      rw [this]; exact Int.dvd_zero _
    · have : v + u - (a + d) = (v - a) + (u - d) := by omega
      rw [this]
      exact Int.dvd_add (Int.dvd_trans g3 v3) (Int.dvd_trans g4 u3)
theorem F70_s {n : Int} (h1 : 2 ≤ n) (h2 : n ≤ 1000) : F70 (Int.ofNat 0) (wr .i64 (n - Int.ofNat 1)) (Int.ofNat 1) = (0, n - 1, 1, 0) := by
  have e1 : wr .i64 (n - Int.ofNat 1) = n - 1 := w_id (by show _ ≤ n - (1:Int); omega) (by show n - (1:Int) ≤ _; omega)
  rw [e1]
  unfold F70
  rw [F81_y (by show _ ≤ (0:Int); omega) (by show (0:Int) ≤ _; omega), F81_y (by omega) (by omega)]
  have e2 : wr .i64 (n - 1 - (wr .i64 (n - 1 - Int.ofNat 0)).tmod (Int.ofNat 1)) = n - 1 := by
    have : (wr .i64 (n - 1 - Int.ofNat 0)).tmod (Int.ofNat 1) = 0 := Int.tmod_one _
    rw [this, Int.sub_zero, w_id (by omega) (by omega)]
  have e3 : ¬ (decide (Int.ofNat 0 > n - 1) = true) := by
    intro h
    have : (0:Int) > n - 1 := of_decide_eq_true h
    omega
  rw [if_neg (by decide), if_neg (by decide), if_neg e3, if_neg (by decide), e2, F93_eq, if_neg (by show ¬ (0:Int) = n - 1; omega)]
  rfl
/-- absolute values, products -/
theorem F128_eq {x : Int} (h1 : -1000000 ≤ x) (h2 : x ≤ 1000000) : F128 x = if x < 0 then -x else x := by
  unfold F128
  by_cases h : x < 0
  · have e : wr .u64 (Int.ofNat 0 - wr .u64 x) = -x := by
      have e1 : wr .u64 x = if x % 18446744073709551616 < 18446744073709551616 then x % 18446744073709551616 else x % 18446744073709551616 - 18446744073709551616 := rfl
      have e2 : wr .u64 x = x + 18446744073709551616 := by rw [e1]; split <;> omega
      rw [e2]
      have e3 : ∀ n : Int, wr .u64 n = if n % 18446744073709551616 < 18446744073709551616 then n % 18446744073709551616 else n % 18446744073709551616 - 18446744073709551616 := fun _ => rfl
      rw [e3]
      have e4 : Int.ofNat 0 - (x + 18446744073709551616) = -x - 18446744073709551616 := by show (0:Int) - _ = _; omega
      rw [e4]
      split <;> omega
    rw [if_pos (decide_eq_true (by show x < (0:Int); exact h)), if_pos h, e]
  · rw [if_neg (by have : ¬ x < (0:Int) := h
                   simpa using this), if_neg h, u_id (by omega) (by omega)]
theorem mask32 {x : Int} (h1 : 0 ≤ x) (h2 : x < 4294967296) : ((BitVec.ofInt IntKind.u64.bits x &&& BitVec.ofInt IntKind.u64.bits 4294967295).toNat : Int) = x := by
  obtain ⟨n, rfl⟩ : ∃ n : Nat, x = n := ⟨x.toNat, by omega⟩
  have hb : IntKind.u64.bits = 64 := rfl
  rw [hb]
  have e1 : BitVec.ofInt 64 (n : Int) = BitVec.ofNat 64 n := BitVec.ofInt_natCast 64 n
  have e2 : BitVec.ofInt 64 4294967295 = BitVec.ofNat 64 4294967295 := rfl
  rw [e1, e2, BitVec.toNat_and, BitVec.toNat_ofNat, BitVec.toNat_ofNat]
  have e3 : (4294967295 : Nat) % 2 ^ 64 = 2 ^ 32 - 1 := by decide
  rw [e3, Nat.and_two_pow_sub_one_eq_mod]
  omega
theorem p32 : pow2 .u64 32 = 4294967296 := by decide
theorem fdiv_lo {x : Int} (h1 : 0 ≤ x) (h2 : x < 4294967296) : x.fdiv 4294967296 = 0 := by
  rw [Int.fdiv_eq_ediv_of_nonneg _ (by omega)]; omega
theorem F118_eq {x y : Int} (x1 : 0 ≤ x) (x2 : x ≤ 1000000) (y1 : 0 ≤ y) (y2 : y ≤ 1000000) : F118 x y = (0, x * y) := by
  have hp0 : 0 ≤ x * y := Int.mul_nonneg x1 y1
  have hp1 : x * y ≤ 1000000 * 1000000 := Int.mul_le_mul x2 y2 y1 (by omega)
  unfold F118
  rw [mask32 x1 (by omega), mask32 y1 (by omega), p32, fdiv_lo x1 (by omega), fdiv_lo y1 (by omega), u_id x1 (by omega), u_id y1 (by omega)]
  simp only [Int.zero_mul, Int.mul_zero, Int.zero_add]
  generalize x * y = p at hp0 hp1
  rw [u_id hp0 (by omega)]
  have hq : 0 ≤ p.fdiv 4294967296 ∧ p.fdiv 4294967296 < 4294967296 := by
    rw [Int.fdiv_eq_ediv_of_nonneg _ (by omega)]; omega
  have h0 : wr .u64 0 = 0 := u_id (by omega) (by omega)
  rw [h0]
  simp only [Int.zero_add]
  rw [u_id hq.1 (by omega), mask32 hq.1 hq.2, fdiv_lo hq.1 hq.2, u_id hq.1 (by omega), h0]
  simp only [Int.add_zero, Int.zero_add]
  rw [u_id hq.1 (by omega), fdiv_lo hq.1 hq.2, h0]
theorem F121_eq {x y : Int} (x1 : -100000 ≤ x) (x2 : x ≤ 100000) (y1 : -100000 ≤ y) (y2 : y ≤ 100000) : F121 x y = (x * y, true) := by
  have hx : 0 ≤ (if x < 0 then -x else x) ∧ (if x < 0 then -x else x) ≤ 100000 := by split <;> omega
  have hy : 0 ≤ (if y < 0 then -y else y) ∧ (if y < 0 then -y else y) ≤ 100000 := by split <;> omega
  have hz : x * y = (if x < 0 then -x else x) * (if y < 0 then -y else y) ∨ x * y = -((if x < 0 then -x else x) * (if y < 0 then -y else y)) := by
    split <;> split <;> simp [Int.neg_mul, Int.mul_neg]
  unfold F121
  rw [F128_eq (by omega) (by omega), F128_eq (by omega) (by omega)]
  generalize (if x < 0 then -x else x) = a at *
  generalize (if y < 0 then -y else y) = b at *
  have hp0 : 0 ≤ a * b := Int.mul_nonneg hx.1 hy.1
  have hp1 : a * b ≤ 100000 * 100000 := Int.mul_le_mul hx.2 hy.2 hy.1 (by omega)
  rw [F118_eq hx.1 (by omega) hy.1 (by omega)]
  rw [if_pos (by rfl)]
  have e : wr .i64 (x * y) = x * y := w_id (by rcases hz with h | h <;> rw [h] <;> omega) (by rcases hz with h | h <;> rw [h] <;> omega)
  rw [e]
  have : decide ((0, a * b).snd ≤ Int.ofNat 1099511627776) = true := decide_eq_true (by show a * b ≤ (1099511627776:Int); omega)
  rw [this]
end Go.Proofs.YtomcbkfnbagekaaGreat
/- Spans: multiples, ranges of forms. -/
set_option linter.unusedVariables false
set_option linter.unusedSimpArgs false
set_option maxRecDepth 100000
namespace Go.Proofs.YtomcbkfnbagekaaGreat
open Go Go.Vm
theorem P121_t (a b : Int) : P121 a b = true := by
  unfold P121; simp only [P128_t, P118_t, allB_cons, allB_nil, Bool.and_true]; split <;> rfl
theorem P100_t (a b c d e f : Int) : P100 a b c d e f = true := by
  unfold P100; simp only [P121_t, allB_cons, allB_nil, Bool.and_true]; repeat' (split <;> try rfl)
theorem P82_t (a b c d : Int) : P82 a b c d = true := by
  unfold P82; simp only [P100_t, P84a_t, P93_t, allB_cons, allB_nil, Bool.and_true]; repeat' (split <;> try rfl)
theorem P59_t (a b : Int) : P59 a b = true := by
  unfold P59; simp only [P70_t, P82_t, allB_cons, allB_nil, Bool.and_true]; repeat' (split <;> try rfl)
theorem F100_s {m k st z : Int} (m1 : 0 ≤ m) (m2 : m ≤ 100000) (k1 : -100000 ≤ k) (k2 : k ≤ 100000) : F100 0 m st k k z = (if m * k < 0 then m * k else 0, if m * k < 0 then 0 else m * k, true) := by
  have e0 : F121 0 k = (0, true) := by rw [F121_eq (by omega) (by omega) k1 k2, Int.zero_mul]
  have e1 : F121 m k = (m * k, true) := F121_eq (by omega) m2 k1 k2
  have hb : -10000000000 ≤ m * k ∧ m * k ≤ 10000000000 := by
    have h1 : m * k ≤ m * 100000 := Int.mul_le_mul_of_nonneg_left k2 m1
    have h2 : m * (-100000) ≤ m * k := Int.mul_le_mul_of_nonneg_left k1 m1
    omega
  unfold F100
  simp only [List.getD_cons_zero, List.getD_cons_succ, e0, e1, cond_true, if_true]
  generalize m * k = p at *
  have z : Int.ofNat 1099511627776 = 1099511627776 := rfl
  have y : Int.negSucc 1099511627775 = -1099511627776 := rfl
  simp only [z, y]
  by_cases h : p < 0
  · simp only [if_pos h]
    simp (config := { decide := true }) only [if_pos, if_neg, gt_iff_lt, ite_true, ite_false]
    have : ¬ (0:Int) < p := by omega
    simp [h, this]
  · simp only [if_neg h]
    have : 0 ≤ p := by omega
    by_cases h0 : p = 0
    · subst h0; simp
    · have : (0:Int) < p := by omega
      simp [h, this]
/-- multiples -/
theorem F59_s {k n : Int} (n1 : 1 ≤ n) (n2 : n ≤ 200) (k1 : -100000 ≤ k) (k2 : k ≤ 100000) :
    ∃ a b c, F59 k n = (a, b, c, true) ∧ -20000000 ≤ a ∧ a ≤ 0 ∧ 0 ≤ b ∧ b ≤ 20000000 ∧ 0 ≤ c ∧ c ≤ 100000 ∧ (∀ j, 0 ≤ j → j < n → In a b c (k * j)) ∧
      k * (if k < 0 then n - 1 else 0) = a ∧ k * (if k < 0 then 0 else n - 1) = b := by
  by_cases h1 : n < 2
  · have hn : n = 1 := by omega
    subst hn
    refine ⟨0, 0, 0, ?_, by omega, by omega, by omega, by omega, by omega, by omega, ?_, ?_, ?_⟩
    · unfold F59; rw [if_pos (by decide)]; rfl
    · intro j j1 j2
      have : j = 0 := by omega
      subst this
      rw [Int.mul_zero]; exact ⟨by omega, by omega, Int.dvd_refl _⟩
    · split <;> simp
    · split <;> simp
  · by_cases h2 : k = 0
    · subst h2
      refine ⟨0, 0, 0, ?_, by omega, by omega, by omega, by omega, by omega, by omega, ?_, ?_, ?_⟩
      · unfold F59
        rw [if_neg (by intro h; exact h1 (of_decide_eq_true h)), if_pos (by decide)]; rfl
      · intro j j1 j2
        rw [Int.zero_mul]; exact ⟨by omega, by omega, Int.dvd_refl _⟩
      · simp
      · simp
    · obtain ⟨g1, g2, g3⟩ := F84a_gd (B := 100000) (by omega) (by omega : -100000 ≤ k) (by omega)
      have e1 : wr .i64 (1 * k) = k := by rw [Int.one_mul, w_id (by omega) (by omega)]
      have hb : ∀ j, 0 ≤ j → j < n → -20000000 ≤ k * j ∧ k * j ≤ 20000000 := fun j j1 j2 => by
        have q1 : k * j ≤ 100000 * j := Int.mul_le_mul_of_nonneg_right k2 j1
        have q2 : (-100000) * j ≤ k * j := Int.mul_le_mul_of_nonneg_right k1 j1
        omega
      have hN := hb (n - 1) (by omega) (by omega)
      have hm : (n - 1) * k = k * (n - 1) := Int.mul_comm _ _
      have hF : F59 k n = ((if k * (n - 1) < 0 then k * (n - 1) else 0), (if k * (n - 1) < 0 then 0 else k * (n - 1)), (if (if k * (n - 1) < 0 then k * (n - 1) else 0) = (if k * (n - 1) < 0 then 0 else k * (n - 1)) then 0 else (F84a k).1), true) := by
        unfold F59
        rw [F70_s (by omega) (by omega)]
        rw [if_neg (by intro h; exact h1 (of_decide_eq_true h)), if_neg (by intro h; exact h2 (by simpa using h)), if_pos (by rfl)]
        have e82 : F82 0 (n - 1) 1 k = ((if k * (n - 1) < 0 then k * (n - 1) else 0), (if k * (n - 1) < 0 then 0 else k * (n - 1)), (if (if k * (n - 1) < 0 then k * (n - 1) else 0) = (if k * (n - 1) < 0 then 0 else k * (n - 1)) then 0 else (F84a k).1), 0) := by
          unfold F82
          have z : Int.ofNat 0 = 0 := rfl
          rw [z, F100_s (by omega) (by omega) (by omega) (by omega), e1, hm, F93_eq]
          rfl
        simp only [e82]
        rfl
      refine ⟨_, _, _, hF, ?_, ?_, ?_, ?_, ?_, ?_, ?_, ?_, ?_⟩
      · split <;> omega
      · split <;> omega
      · split <;> omega
      · split <;> omega
      · split <;> omega
      · split <;> omega
      · intro j j1 j2
        have hj := hb j j1 j2
        by_cases hk : k < 0
        · have q1 : k * (n - 1) < 0 := Int.mul_neg_of_neg_of_pos hk (by omega)
          have q2 : k * (n - 1) ≤ k * j := Int.mul_le_mul_of_nonpos_left (by omega) (by omega)
          have q3 : k * j ≤ 0 := Int.mul_nonpos_of_nonpos_of_nonneg (by omega) j1
          simp only [if_pos q1]
          refine ⟨q2, q3, ?_⟩
          rw [if_neg (by omega), ← Int.mul_sub]
          exact Int.dvd_trans g3 (Int.dvd_mul_right _ _)
        · have q0 : 0 < k := by omega
          have q1 : 0 < k * (n - 1) := Int.mul_pos q0 (by omega)
          have q2 : k * j ≤ k * (n - 1) := Int.mul_le_mul_of_nonneg_left (by omega) (by omega)
          have q3 : 0 ≤ k * j := Int.mul_nonneg (by omega) j1
          simp only [if_neg (by omega : ¬ k * (n - 1) < 0)]
          refine ⟨q3, q2, ?_⟩
          rw [if_neg (by omega), Int.sub_zero]
          exact Int.dvd_trans g3 (Int.dvd_mul_right _ _)
      · by_cases hk : k < 0
        · have q1 : k * (n - 1) < 0 := Int.mul_neg_of_neg_of_pos hk (by omega)
          rw [if_pos hk, if_pos q1]
        · have q1 : 0 ≤ k * (n - 1) := Int.mul_nonneg (by omega) (by omega)
          rw [if_neg hk, if_neg (by omega), Int.mul_zero]
      · by_cases hk : k < 0
        · have q1 : k * (n - 1) < 0 := Int.mul_neg_of_neg_of_pos hk (by omega)
          rw [if_pos hk, if_pos q1, Int.mul_zero]
        · have q1 : 0 ≤ k * (n - 1) := Int.mul_nonneg (by omega) (by omega)
          rw [if_neg hk, if_neg (by omega)]
/-- a valid span, of small numbers -/
structure Sp (lo hi st : Int) : Prop where
  l : -1000 ≤ lo
  h : hi ≤ 1000
  le : lo ≤ hi
  s : 0 ≤ st ∧ st ≤ 1000
  z : lo = hi → st = 0
  p : lo < hi → 0 < st
  d : st ∣ hi - lo
theorem tmod_zero {a b : Int} (h : b ∣ a) : a.tmod b = 0 := Int.tmod_eq_zero_of_dvd h
theorem F58_y {lo hi st : Int} (h : Sp lo hi st) : F58 lo hi st = true := by
  have := h.l; have := h.h; have := h.le
  unfold F58
  rw [F81_y (by omega) (by omega), F81_y (by omega) (by omega)]
  have e : ¬ (decide (lo > hi) = true) := fun q => by have := of_decide_eq_true q; omega
  rw [if_neg (by decide), if_neg (by decide), if_neg e]
  by_cases h1 : lo = hi
  · rw [if_pos (by simpa using h1), h.z h1]; rfl
  · have h2 := h.p (by omega)
    rw [if_neg (by simpa using h1), if_pos (decide_eq_true (by show st > (0:Int); omega)), w_id (by omega) (by omega), tmod_zero h.d]
    rfl
end Go.Proofs.YtomcbkfnbagekaaGreat
/- Canonical coefficients. Numbers alone. -/
set_option linter.unusedVariables false
set_option linter.unusedSimpArgs false
set_option maxRecDepth 100000
namespace Go.Proofs.YtomcbkfnbagekaaGreat
open Go Go.Vm
def cL (G I L : Int) : Int := if G = 1 then 0 else L + I
def cQ (N G I Q : Int) : Int := if N = 1 then 0 else Q + I * G
def can (G N I L Q : Int) : Int × Int × Int := if cL G I L ≠ 0 ∧ cQ N G I Q = cL G I L * G then (cL G I L, 0, 0) else (0, cL G I L, cQ N G I Q)
theorem cL_can {G N I L Q : Int} (g1 : 1 ≤ G) : cL G (can G N I L Q).1 (can G N I L Q).2.1 = cL G I L := by
  unfold can
  split
  · rename_i h
    show cL G (cL G I L) 0 = _
    by_cases hg : G = 1
    · exact absurd (by unfold cL; rw [if_pos hg]) h.1
    · generalize cL G I L = l; unfold cL; rw [if_neg hg]; omega
  · show cL G 0 (cL G I L) = _
    by_cases hg : G = 1
    · unfold cL; simp [hg]
    · generalize cL G I L = l; unfold cL; rw [if_neg hg]; omega
theorem cQ_can {G N I L Q : Int} (g1 : 1 ≤ G) : cQ N G (can G N I L Q).1 (can G N I L Q).2.2 = cQ N G I Q := by
  unfold can
  split
  · rename_i h
    show cQ N G (cL G I L) 0 = _
    by_cases hn : N = 1
    · unfold cQ; simp [hn]
    · rw [h.2]; generalize cL G I L = l; unfold cQ; rw [if_neg hn]; omega
  · show cQ N G 0 (cQ N G I Q) = _
    by_cases hn : N = 1
    · unfold cQ; simp [hn]
    · generalize cQ N G I Q = l; unfold cQ; rw [if_neg hn]; omega
theorem can_of {G N I L Q I' L' Q' : Int} (h1 : cL G I L = cL G I' L') (h2 : cQ N G I Q = cQ N G I' Q') : can G N I L Q = can G N I' L' Q' := by
  unfold can; rw [h1, h2]
theorem can_can {G N I L Q : Int} (g1 : 1 ≤ G) : can G N (can G N I L Q).1 (can G N I L Q).2.1 (can G N I L Q).2.2 = can G N I L Q := can_of (cL_can g1) (cQ_can g1)
theorem cL_add {G a b c d : Int} : cL G (a + b) (c + d) = cL G a c + cL G b d := by unfold cL; split <;> omega
theorem cQ_add {N G a b c d : Int} : cQ N G (a + b) (c + d) = cQ N G a c + cQ N G b d := by unfold cQ; split <;> (try rw [Int.add_mul]) <;> omega
theorem cL_sub {G a b c d : Int} : cL G (a - b) (c - d) = cL G a c - cL G b d := by unfold cL; split <;> omega
theorem cQ_sub {N G a b c d : Int} : cQ N G (a - b) (c - d) = cQ N G a c - cQ N G b d := by unfold cQ; split <;> (try rw [Int.sub_mul]) <;> omega
theorem cL_mul {G a c k : Int} : cL G (a * k) (c * k) = cL G a c * k := by unfold cL; split <;> simp [Int.add_mul]
theorem cQ_mul {N G a c k : Int} : cQ N G (a * k) (c * k) = cQ N G a c * k := by
  unfold cQ; split
  · simp
  · rw [Int.add_mul, Int.mul_assoc, Int.mul_assoc, Int.mul_comm k G]
theorem can_add {G N a b c d e f : Int} (g1 : 1 ≤ G) : can G N ((can G N a b c).1 + (can G N d e f).1) ((can G N a b c).2.1 + (can G N d e f).2.1) ((can G N a b c).2.2 + (can G N d e f).2.2) = can G N (a + d) (b + e) (c + f) :=
  can_of (by rw [cL_add, cL_can g1, cL_can g1, cL_add]) (by rw [cQ_add, cQ_can g1, cQ_can g1, cQ_add])
theorem can_sub {G N a b c d e f : Int} (g1 : 1 ≤ G) : can G N ((can G N a b c).1 - (can G N d e f).1) ((can G N a b c).2.1 - (can G N d e f).2.1) ((can G N a b c).2.2 - (can G N d e f).2.2) = can G N (a - d) (b - e) (c - f) :=
  can_of (by rw [cL_sub, cL_can g1, cL_can g1, cL_sub]) (by rw [cQ_sub, cQ_can g1, cQ_can g1, cQ_sub])
theorem can_mul {G N a b c k : Int} (g1 : 1 ≤ G) : can G N ((can G N a b c).1 * k) ((can G N a b c).2.1 * k) ((can G N a b c).2.2 * k) = can G N (a * k) (b * k) (c * k) :=
  can_of (by rw [cL_mul, cL_can g1, cL_mul]) (by rw [cQ_mul, cQ_can g1, cQ_mul])
/-- bounds of coefficients -/
theorem can_bd {G N I L Q B : Int} (g1 : 1 ≤ G) (g2 : G ≤ 16) (b0 : 0 ≤ B) (i1 : -B ≤ I) (i2 : I ≤ B) (l1 : -B ≤ L) (l2 : L ≤ B) (q1 : -B ≤ Q) (q2 : Q ≤ B) :
    (-(17 * B) ≤ (can G N I L Q).1 ∧ (can G N I L Q).1 ≤ 17 * B) ∧ (-(17 * B) ≤ (can G N I L Q).2.1 ∧ (can G N I L Q).2.1 ≤ 17 * B) ∧ (-(17 * B) ≤ (can G N I L Q).2.2 ∧ (can G N I L Q).2.2 ≤ 17 * B) := by
  have hl : -(2 * B) ≤ cL G I L ∧ cL G I L ≤ 2 * B := by unfold cL; split <;> omega
  have hm1 : I * G ≤ B * G := Int.mul_le_mul_of_nonneg_right i2 (by omega)
  have hm2 : (-B) * G ≤ I * G := Int.mul_le_mul_of_nonneg_right i1 (by omega)
  have hm3 : B * G ≤ B * 16 := Int.mul_le_mul_of_nonneg_left g2 b0
  rw [Int.neg_mul] at hm2
  have hq : -(17 * B) ≤ cQ N G I Q ∧ cQ N G I Q ≤ 17 * B := by unfold cQ; split <;> omega
  unfold can
  split <;> (refine ⟨⟨?_, ?_⟩, ⟨?_, ?_⟩, ?_, ?_⟩ <;> simp only [] <;> omega)
/-- the value of a form at an item -/
theorem can_val {G N I L Q x : Int} (g1 : 1 ≤ G) (x1 : 0 ≤ x) (x2 : x < N * G) :
    (can G N I L Q).1 * x + (can G N I L Q).2.1 * x.tmod G + (can G N I L Q).2.2 * x.tdiv G = I * x + L * x.tmod G + Q * x.tdiv G := by
  have hx : x = G * x.tdiv G + x.tmod G := (Int.mul_tdiv_add_tmod x G).symm
  have h0 : 0 ≤ x.tmod G := Int.tmod_nonneg _ x1
  have hlt : x.tmod G < G := Int.tmod_lt_of_pos x (by omega)
  have k0 : 0 ≤ x.tdiv G := Int.tdiv_nonneg x1 (by omega)
  have kN : x.tdiv G < N := by rw [Int.tdiv_eq_ediv_of_nonneg x1]; exact Int.ediv_lt_of_lt_mul (by omega) x2
  generalize x.tmod G = j at *
  generalize x.tdiv G = k at *
  subst hx
  have hL : cL G I L * j = (L + I) * j := by
    unfold cL
    split
    · have : j = 0 := by omega
      subst this; simp
    · rfl
  have hQ : cQ N G I Q * k = (Q + I * G) * k := by
    unfold cQ
    split
    · have : k = 0 := by omega
      subst this; simp
    · rfl
  have goal : I * (G * k + j) + L * j + Q * k = (L + I) * j + (Q + I * G) * k := by
    rw [Int.mul_add, Int.add_mul, Int.add_mul, Int.mul_assoc]; omega
  rw [goal, ← hL, ← hQ]
  unfold can
  split
  · rename_i h
    show cL G I L * (G * k + j) + 0 * j + 0 * k = _
    rw [h.2, Int.mul_add, Int.mul_assoc]; omega
  · show 0 * (G * k + j) + cL G I L * j + cQ N G I Q * k = cL G I L * j + cQ N G I Q * k
    omega
end Go.Proofs.YtomcbkfnbagekaaGreat
