/- A part of the proof that the law of the statement is true of all inputs: VQ1, VQ2, VQ3, VQ4, VQ5. -/
import Derived.Test.YtomcbkfnbagekaaGreatVm
/- Numbers and spans: what the functions of the affine law answer, without any program. -/
set_option linter.unusedVariables false
set_option linter.unusedSimpArgs false
set_option maxRecDepth 100000
namespace Go.Proofs.YtomcbkfnbagekaaGreat
open Go Go.Vm
theorem w_id {n : Int} (h1 : -9223372036854775808 ≤ n) (h2 : n ≤ 9223372036854775807) : wr .i64 n = n := by
  have e : wr .i64 n = if n % 18446744073709551616 < 9223372036854775808 then n % 18446744073709551616 else n % 18446744073709551616 - 18446744073709551616 := rfl
  rw [e]; split <;> omega
theorem u_id {n : Int} (h1 : 0 ≤ n) (h2 : n < 18446744073709551616) : wr .u64 n = n := by
  have e : wr .u64 n = if n % 18446744073709551616 < 18446744073709551616 then n % 18446744073709551616 else n % 18446744073709551616 - 18446744073709551616 := rfl
  rw [e]; split <;> omega
theorem allB_cons (b : Bool) (l : List Bool) : allB (b :: l) = (b && allB l) := rfl
theorem allB_nil : allB [] = true := rfl
theorem P24_t (a b c : Int) : P24 a b c = true := by unfold P24; split <;> rfl
theorem P27_t (a : Int) : P27 a = true := by unfold P27; split <;> rfl
theorem P29_t (a b c : Int) (d : Bool) : P29 a b c d = true := by
  unfold P29
  split <;> try rfl
  split <;> rfl
theorem P55_t (a : Int) : P55 a = true := by unfold P55; split <;> rfl
theorem P57_t (a b : Int) : P57 a b = true := by unfold P57; repeat' (split <;> try rfl)
theorem P81_t (a : Int) : P81 a = true := by unfold P81; split <;> rfl
theorem P93_t (a b c : Int) : P93 a b c = true := by unfold P93; split <;> rfl
theorem P128_t (a : Int) : P128 a = true := by unfold P128; split <;> rfl
theorem P118_t (a b : Int) : P118 a b = true := rfl
theorem P28_t (a b c d e f : Int) (g : Bool) (h i j k l m : Int) : P28z1 a b c d e f g h i j k l m = true := by unfold P28z1; repeat' (split <;> try rfl)
theorem P26_t (a b c : Int) : P26 a b c = true := by
  unfold P26
  simp only [P55_t, allB_cons, allB_nil, Bool.and_true]
  split <;> try rfl
  split <;> try rfl
  split <;> try rfl
  split <;> try rfl
  split <;> try rfl
  rename_i h
  have : ¬ c = 0 := by have := of_decide_eq_true h; simp only [ge_iff_le] at this; intro e; subst e; exact absurd this (by decide)
  simp [this]
theorem P58_t (a b c : Int) : P58 a b c = true := by
  unfold P58
  simp only [P81_t, allB_cons, allB_nil, Bool.and_true]
  split <;> try rfl
  split <;> try rfl
  split <;> try rfl
  split <;> try rfl
  split <;> try rfl
  rename_i h
  have : ¬ c = 0 := by have := of_decide_eq_true h; intro e; subst e; exact absurd this (by decide)
  simp [this]
theorem P70_t (a b c : Int) : P70 a b c = true := by
  unfold P70
  simp only [P81_t, P93_t, allB_cons, allB_nil, Bool.and_true]
  split <;> try rfl
  split <;> try rfl
  split <;> try rfl
  split <;> try rfl
  rename_i h
  have : ¬ c = 0 := by intro e; subst e; exact h (by decide)
  simp [this]
theorem P83_t (a b c : Int) : P83 a b c = true := by
  unfold P83; simp only [P81_t, P93_t, allB_cons, allB_nil, Bool.and_true]; repeat' (split <;> try rfl)
theorem P98_t (a b c : Int) : P98 a b c = true := by
  unfold P98; simp only [P55_t, P24_t, allB_cons, allB_nil, Bool.and_true]; repeat' (split <;> try rfl)
theorem P11_t (a b c d : Int) : P11 a b c d = true := by
  unfold P11
  split <;> try rfl
  split <;> try rfl
  split <;> try rfl
  rename_i h
  have : (c == 0) = false := by simpa using h
  simp [allB_cons, allB_nil]
  simpa using h
theorem tmod_lt {a b : Int} (h : a ≠ 0) : (b.tmod a).natAbs < a.natAbs := by
  rw [Int.natAbs_tmod]
  exact Nat.mod_lt _ (by omega)
theorem PL99_t : ∀ (n : Nat) (a b : Int), a.natAbs < n → PL99_0 n a b = true
  | 0, a, b, h => by omega
  | n + 1, a, b, h => by
    show PS99_0 (PL99_0 n) a b = true
    unfold PS99_0
    split
    · rename_i ha
      have ha : a ≠ 0 := by simpa using ha
      have := tmod_lt (b := b) ha
      simp only [allB_cons, allB_nil, PL99_t n _ _ (by omega : (b.tmod a).natAbs < n)]
      simpa using ha
    · rfl
theorem P99_t (a b : Int) : P99 a b = true := by
  unfold P99
  simp only [PL99_t _ _ _ (Nat.lt_succ_self _), allB_cons, allB_nil]
  repeat' (split <;> try rfl)
theorem P80_t (a b c d e f : Int) : P80 a b c d e f = true := by
  unfold P80; simp only [P99_t, P98_t, allB_cons, allB_nil, Bool.and_true]
theorem P56_t (a b c : Int) (x : Bool) (d e f : Int) : P56 a b c x d e f = true := by
  unfold P56; simp only [P26_t, P80_t, allB_cons, allB_nil, Bool.and_true]; repeat' (split <;> try rfl)
theorem P30_t (a b c d e f : Int) (g : Bool) (h i j k l m : Int) : P30z2 a b c d e f g h i j k l m = true := by
  unfold P30z2; simp only [P26_t, P56_t, P57_t, allB_cons, allB_nil, Bool.and_true]; repeat' (split <;> try rfl)
theorem P8_t (a b c d e f : Int) (g : Bool) (h i j k l m : Int) : P8z0 a b c d e f g h i j k l m = true := by
  unfold P8z0; simp only [P26_t, P27_t, P28_t, P30_t, P29_t, allB_cons, allB_nil, Bool.and_true]; repeat' (split <;> try rfl)
theorem P7_t (a b c : Int) : P7 a b c = true := by
  unfold P7; simp only [P24_t, allB_cons, allB_nil, Bool.and_true]
/-! gcd -/
theorem PL84a_t (x : Int) : ∀ (n : Nat) (a b : Int), a.natAbs < n → PL84a_0 x n a b = true
  | 0, a, b, h => by omega
  | n + 1, a, b, h => by
    show PS84a_0 x n (PL84a_0 x n) a b = true
    unfold PS84a_0
    split
    · rename_i ha
      have ha : a ≠ 0 := by simpa using ha
      have := tmod_lt (b := b) ha
      simp only [allB_cons, allB_nil, PL84a_t x n _ _ (by omega : (b.tmod a).natAbs < n)]
      simpa using ha
    · rfl
theorem PL84b_1t (x y : Int) : ∀ (n : Nat) (a b : Int), a.natAbs < n → PL84b_1 x y n a b = true
  | 0, a, b, h => by omega
  | n + 1, a, b, h => by
    show PS84b_1 x y n (PL84b_1 x y n) a b = true
    unfold PS84b_1
    split
    · rename_i ha
      have ha : a ≠ 0 := by simpa using ha
      have := tmod_lt (b := b) ha
      simp only [allB_cons, allB_nil, PL84b_1t x y n _ _ (by omega : (b.tmod a).natAbs < n)]
      simpa using ha
    · rfl
theorem PL84b_0t (x y : Int) : ∀ (n : Nat) (a b : Int), a.natAbs < n → PL84b_0 x y n a b = true
  | 0, a, b, h => by omega
  | n + 1, a, b, h => by
    show PS84b_0 x y n (PL84b_0 x y n) a b = true
    unfold PS84b_0
    split
    · rename_i ha
      have ha : a ≠ 0 := by simpa using ha
      have := tmod_lt (b := b) ha
      simp only [allB_cons, allB_nil, PL84b_0t x y n _ _ (by omega : (b.tmod a).natAbs < n)]
      simpa using ha
    · simp only [allB_cons, allB_nil, PL84b_1t x y _ _ _ (Nat.lt_succ_self _), Bool.and_true]
theorem P84a_t (x : Int) : P84a x = true := by unfold P84a; simp only [PL84a_t x _ _ _ (Nat.lt_succ_self _), allB_cons, allB_nil, Bool.and_true]
theorem P84b_t (x y : Int) : P84b x y = true := by unfold P84b; simp only [PL84b_0t x y _ _ _ (Nat.lt_succ_self _), allB_cons, allB_nil, Bool.and_true]
theorem P60_t (a b c d e f : Int) : P60 a b c d e f = true := by unfold P60; simp only [P84b_t, P83_t, allB_cons, allB_nil, Bool.and_true]
/-- a divisor of both, not negative, no more than the bound -/
def Gd (B a b r : Int) : Prop := 0 ≤ r ∧ r ≤ B ∧ r ∣ a ∧ r ∣ b
theorem abs_w {B b : Int} (hB : B ≤ 1000000) (h1 : -B ≤ b) (h2 : b ≤ B) : (if wr .i64 (Int.ofNat 0 - b) > b then wr .i64 (Int.ofNat 0 - b) else b) = (if b < 0 then -b else b) := by
  have e : wr .i64 (Int.ofNat 0 - b) = -b := by rw [w_id (by show _ ≤ (0:Int) - b; omega) (by show (0:Int) - b ≤ _; omega)]; show (0:Int) - b = -b; omega
  rw [e]; split <;> split <;> omega
theorem gd_end {B b : Int} (hB : B ≤ 1000000) (h1 : -B ≤ b) (h2 : b ≤ B) : Gd B 0 b (if wr .i64 (Int.ofNat 0 - b) > b then wr .i64 (Int.ofNat 0 - b) else b) := by
  rw [abs_w hB h1 h2]
  split
  · exact ⟨by omega, by omega, Int.dvd_zero _, Int.neg_dvd.2 (Int.dvd_refl _)⟩
  · exact ⟨by omega, by omega, Int.dvd_zero _, Int.dvd_refl _⟩
theorem gd_step {B a b r : Int} (h : Gd B (b.tmod a) a r) : Gd B a b r := by
  obtain ⟨h1, h2, h3, h4⟩ := h
  refine ⟨h1, h2, h4, ?_⟩
  have := Int.tmod_add_mul_tdiv b a
  rw [← this]
  exact Int.dvd_add h3 (Int.dvd_trans h4 (Int.dvd_mul_right _ _))
theorem tmod_bd {a b B : Int} (h : a ≠ 0) (h1 : -B ≤ a) (h2 : a ≤ B) : -B ≤ b.tmod a ∧ b.tmod a ≤ B := by
  have := tmod_lt (b := b) h
  omega
theorem FL84a_gd (x : Int) {B : Int} (hB : B ≤ 1000000) : ∀ (n : Nat) (a b : Int), a.natAbs < n → -B ≤ a → a ≤ B → -B ≤ b → b ≤ B → Gd B a b (FL84a_0 x n a b).1
  | 0, a, b, h, _, _, _, _ => by omega
  | n + 1, a, b, h, a1, a2, b1, b2 => by
    show Gd B a b (FS84a_0 x n (FL84a_0 x n) a b).1
    unfold FS84a_0
    by_cases ha : a = 0
    · subst ha
      exact gd_end hB b1 b2
    · rw [if_pos (by simpa using ha)]
      have := tmod_lt (b := b) ha
      have hb := tmod_bd (b := b) ha a1 a2
      exact gd_step (FL84a_gd x hB n _ _ (by omega) hb.1 hb.2 a1 a2)
theorem FL84b_1gd (x y : Int) {B : Int} (hB : B ≤ 1000000) : ∀ (n : Nat) (a b : Int), a.natAbs < n → -B ≤ a → a ≤ B → -B ≤ b → b ≤ B → Gd B a b (FL84b_1 x y n a b).1
  | 0, a, b, h, _, _, _, _ => by omega
  | n + 1, a, b, h, a1, a2, b1, b2 => by
    show Gd B a b (FS84b_1 x y n (FL84b_1 x y n) a b).1
    unfold FS84b_1
    by_cases ha : a = 0
    · subst ha
      exact gd_end hB b1 b2
    · rw [if_pos (by simpa using ha)]
      have := tmod_lt (b := b) ha
      have hb := tmod_bd (b := b) ha a1 a2
      exact gd_step (FL84b_1gd x y hB n _ _ (by omega) hb.1 hb.2 a1 a2)
theorem FL84b_0gd (x y : Int) {B : Int} (hB : B ≤ 1000000) (y1 : -B ≤ y) (y2 : y ≤ B) : ∀ (n : Nat) (a b : Int), a.natAbs < n → -B ≤ a → a ≤ B → -B ≤ b → b ≤ B → Gd B a b (FL84b_0 x y n a b).1 ∧ (FL84b_0 x y n a b).1 ∣ y
  | 0, a, b, h, _, _, _, _ => by omega
  | n + 1, a, b, h, a1, a2, b1, b2 => by
    show Gd B a b (FS84b_0 x y n (FL84b_0 x y n) a b).1 ∧ (FS84b_0 x y n (FL84b_0 x y n) a b).1 ∣ y
    unfold FS84b_0
    by_cases ha : a = 0
    · subst ha
      rw [if_neg (by decide)]
      obtain ⟨q1, q2, q3, q4⟩ := FL84b_1gd x y hB _ y b (Nat.lt_succ_self _) y1 y2 b1 b2
      exact ⟨⟨q1, q2, Int.dvd_zero _, q4⟩, q3⟩
    · rw [if_pos (by simpa using ha)]
      have := tmod_lt (b := b) ha
      have hb := tmod_bd (b := b) ha a1 a2
      obtain ⟨q1, q2⟩ := FL84b_0gd x y hB y1 y2 n _ _ (by omega) hb.1 hb.2 a1 a2
      exact ⟨gd_step q1, q2⟩
theorem F84a_gd {B x : Int} (hB : B ≤ 1000000) (h1 : -B ≤ x) (h2 : x ≤ B) : 0 ≤ (F84a x).1 ∧ (F84a x).1 ≤ B ∧ (F84a x).1 ∣ x := by
  obtain ⟨q1, q2, q3, _⟩ := FL84a_gd x hB _ x (Int.ofNat 0) (Nat.lt_succ_self _) h1 h2 (by show _ ≤ (0:Int); omega) (by show (0:Int) ≤ _; omega)
  exact ⟨q1, q2, q3⟩
theorem F84b_gd {B x y : Int} (hB : B ≤ 1000000) (h1 : -B ≤ x) (h2 : x ≤ B) (y1 : -B ≤ y) (y2 : y ≤ B) : 0 ≤ (F84b x y).1 ∧ (F84b x y).1 ≤ B ∧ (F84b x y).1 ∣ x ∧ (F84b x y).1 ∣ y := by
  obtain ⟨⟨q1, q2, q3, _⟩, q4⟩ := FL84b_0gd x y hB y1 y2 _ x (Int.ofNat 0) (Nat.lt_succ_self _) h1 h2 (by show _ ≤ (0:Int); omega) (by show (0:Int) ≤ _; omega)
  exact ⟨q1, q2, q3, q4⟩
end Go.Proofs.YtomcbkfnbagekaaGreat
/- Spans: what the functions of the affine law answer for small numbers. -/
set_option linter.unusedVariables false
set_option linter.unusedSimpArgs false
set_option maxRecDepth 100000
namespace Go.Proofs.YtomcbkfnbagekaaGreat
open Go Go.Vm
/-- a number is an element -/
def In (lo hi st v : Int) : Prop := lo ≤ v ∧ v ≤ hi ∧ st ∣ v - lo
theorem F81_y {x : Int} (h1 : -1000000000 ≤ x) (h2 : x ≤ 1000000000) : F81 x = true := by
  unfold F81
  rw [if_pos (decide_eq_true (by show (-1099511627776:Int) ≤ x; omega))]
  exact decide_eq_true (by show x ≤ (1099511627776:Int); omega)
theorem F93_eq (a b c : Int) : F93 a b c = (a, b, if a = b then 0 else c) := by
  unfold F93
  by_cases h : a = b
  · rw [if_pos (by simpa using h), if_pos h]; rfl
  · rw [if_neg (by simpa using h), if_neg h]
theorem F83_eq {a b c : Int} (a1 : -1000000000 ≤ a) (a2 : a ≤ 1000000000) (b1 : -1000000000 ≤ b) (b2 : b ≤ 1000000000) : F83 a b c = (a, b, (if a = b then 0 else c), 0) := by
  unfold F83
  rw [F81_y a1 a2, F81_y b1 b2, F93_eq]
  rfl
/-- sums -/
theorem F60_s {a b c d e f : Int} (ha : -100000 ≤ a ∧ a ≤ 100000) (hb : -100000 ≤ b ∧ b ≤ 100000) (hc : 0 ≤ c ∧ c ≤ 100000) (hd : -100000 ≤ d ∧ d ≤ 100000) (he : -100000 ≤ e ∧ e ≤ 100000) (hf : 0 ≤ f ∧ f ≤ 100000) :
    ∃ s, F60 a b c d e f = (a + d, b + e, s, 0) ∧ 0 ≤ s ∧ s ≤ 100000 ∧ ∀ v u, In a b c v → In d e f u → In (a + d) (b + e) s (v + u) := by
  obtain ⟨g1, g2, g3, g4⟩ := F84b_gd (B := 100000) (by omega) (by omega : -100000 ≤ c) hc.2 (by omega : -100000 ≤ f) hf.2
  have e1 : wr .i64 (a + d) = a + d := w_id (by omega) (by omega)
  have e2 : wr .i64 (b + e) = b + e := w_id (by omega) (by omega)
  refine ⟨if a + d = b + e then 0 else (F84b c f).1, ?_, ?_, ?_, ?_⟩
  · unfold F60
    rw [e1, e2, F83_eq (by omega) (by omega) (by omega) (by omega)]
  · split <;> omega
  · split <;> omega
  · intro v u ⟨v1, v2, v3⟩ ⟨u1, u2, u3⟩
    refine ⟨by omega, by omega, ?_⟩
    split
    · have : v + u - (a + d) = 0 := by omega
      rw [this]; exact Int.dvd_zero _
    · have : v + u - (a + d) = (v - a) + (u - d) := by omega
      rw [this]
      exact Int.dvd_add (Int.dvd_trans g3 v3) (Int.dvd_trans g4 u3)
theorem F70_s {n : Int} (h1 : 2 ≤ n) (h2 : n ≤ 1000) : F70 (Int.ofNat 0) (wr .i64 (n - Int.ofNat 1)) (Int.ofNat 1) = (0, n - 1, 1, 0) := by
  have e1 : wr .i64 (n - Int.ofNat 1) = n - 1 := w_id (by show _ ≤ n - (1:Int); omega) (by show n - (1:Int) ≤ _; omega)
  rw [e1]
  unfold F70
  rw [F81_y (by show _ ≤ (0:Int); omega) (by show (0:Int) ≤ _; omega), F81_y (by omega) (by omega)]
  have e2 : wr .i64 (n - 1 - (wr .i64 (n - 1 - Int.ofNat 0)).tmod (Int.ofNat 1)) = n - 1 := by
    have : (wr .i64 (n - 1 - Int.ofNat 0)).tmod (Int.ofNat 1) = 0 := Int.tmod_one _
    rw [this, Int.sub_zero, w_id (by omega) (by omega)]
  have e3 : ¬ (decide (Int.ofNat 0 > n - 1) = true) := by
    intro h
    have : (0:Int) > n - 1 := of_decide_eq_true h
    omega
  rw [if_neg (by decide), if_neg (by decide), if_neg e3, if_neg (by decide), e2, F93_eq, if_neg (by show ¬ (0:Int) = n - 1; omega)]
  rfl
/-- absolute values, products -/
theorem F128_eq {x : Int} (h1 : -1000000 ≤ x) (h2 : x ≤ 1000000) : F128 x = if x < 0 then -x else x := by
  unfold F128
  by_cases h : x < 0
  · have e : wr .u64 (Int.ofNat 0 - wr .u64 x) = -x := by
      have e1 : wr .u64 x = if x % 18446744073709551616 < 18446744073709551616 then x % 18446744073709551616 else x % 18446744073709551616 - 18446744073709551616 := rfl
      have e2 : wr .u64 x = x + 18446744073709551616 := by rw [e1]; split <;> omega
      rw [e2]
      have e3 : ∀ n : Int, wr .u64 n = if n % 18446744073709551616 < 18446744073709551616 then n % 18446744073709551616 else n % 18446744073709551616 - 18446744073709551616 := fun _ => rfl
      rw [e3]
      have e4 : Int.ofNat 0 - (x + 18446744073709551616) = -x - 18446744073709551616 := by show (0:Int) - _ = _; omega
      rw [e4]
      split <;> omega
    rw [if_pos (decide_eq_true (by show x < (0:Int); exact h)), if_pos h, e]
  · rw [if_neg (by have : ¬ x < (0:Int) := h
                   simpa using this), if_neg h, u_id (by omega) (by omega)]
theorem mask32 {x : Int} (h1 : 0 ≤ x) (h2 : x < 4294967296) : ((BitVec.ofInt IntKind.u64.bits x &&& BitVec.ofInt IntKind.u64.bits 4294967295).toNat : Int) = x := by
  obtain ⟨n, rfl⟩ : ∃ n : Nat, x = n := ⟨x.toNat, by omega⟩
  have hb : IntKind.u64.bits = 64 := rfl
  rw [hb]
  have e1 : BitVec.ofInt 64 (n : Int) = BitVec.ofNat 64 n := BitVec.ofInt_natCast 64 n
  have e2 : BitVec.ofInt 64 4294967295 = BitVec.ofNat 64 4294967295 := rfl
  rw [e1, e2, BitVec.toNat_and, BitVec.toNat_ofNat, BitVec.toNat_ofNat]
  have e3 : (4294967295 : Nat) % 2 ^ 64 = 2 ^ 32 - 1 := by decide
  rw [e3, Nat.and_two_pow_sub_one_eq_mod]
  omega
theorem p32 : pow2 .u64 32 = 4294967296 := by decide
theorem fdiv_lo {x : Int} (h1 : 0 ≤ x) (h2 : x < 4294967296) : x.fdiv 4294967296 = 0 := by
  rw [Int.fdiv_eq_ediv_of_nonneg _ (by omega)]; omega
theorem F118_eq {x y : Int} (x1 : 0 ≤ x) (x2 : x ≤ 1000000) (y1 : 0 ≤ y) (y2 : y ≤ 1000000) : F118 x y = (0, x * y) := by
  have hp0 : 0 ≤ x * y := Int.mul_nonneg x1 y1
  have hp1 : x * y ≤ 1000000 * 1000000 := Int.mul_le_mul x2 y2 y1 (by omega)
  unfold F118
  rw [mask32 x1 (by omega), mask32 y1 (by omega), p32, fdiv_lo x1 (by omega), fdiv_lo y1 (by omega), u_id x1 (by omega), u_id y1 (by omega)]
  simp only [Int.zero_mul, Int.mul_zero, Int.zero_add]
  generalize x * y = p at hp0 hp1
  rw [u_id hp0 (by omega)]
  have hq : 0 ≤ p.fdiv 4294967296 ∧ p.fdiv 4294967296 < 4294967296 := by
    rw [Int.fdiv_eq_ediv_of_nonneg _ (by omega)]; omega
  have h0 : wr .u64 0 = 0 := u_id (by omega) (by omega)
  rw [h0]
  simp only [Int.zero_add]
  rw [u_id hq.1 (by omega), mask32 hq.1 hq.2, fdiv_lo hq.1 hq.2, u_id hq.1 (by omega), h0]
  simp only [Int.add_zero, Int.zero_add]
  rw [u_id hq.1 (by omega), fdiv_lo hq.1 hq.2, h0]
theorem F121_eq {x y : Int} (x1 : -1000 ≤ x) (x2 : x ≤ 1000) (y1 : -1000 ≤ y) (y2 : y ≤ 1000) : F121 x y = (x * y, true) := by
  have hx : 0 ≤ (if x < 0 then -x else x) ∧ (if x < 0 then -x else x) ≤ 1000 := by split <;> omega
  have hy : 0 ≤ (if y < 0 then -y else y) ∧ (if y < 0 then -y else y) ≤ 1000 := by split <;> omega
  have hz : x * y = (if x < 0 then -x else x) * (if y < 0 then -y else y) ∨ x * y = -((if x < 0 then -x else x) * (if y < 0 then -y else y)) := by
    split <;> split <;> simp [Int.neg_mul, Int.mul_neg]
  unfold F121
  rw [F128_eq (by omega) (by omega), F128_eq (by omega) (by omega)]
  generalize (if x < 0 then -x else x) = a at *
  generalize (if y < 0 then -y else y) = b at *
  have hp0 : 0 ≤ a * b := Int.mul_nonneg hx.1 hy.1
  have hp1 : a * b ≤ 1000 * 1000 := Int.mul_le_mul hx.2 hy.2 hy.1 (by omega)
  rw [F118_eq hx.1 (by omega) hy.1 (by omega)]
  rw [if_pos (by rfl)]
  have e : wr .i64 (x * y) = x * y := w_id (by rcases hz with h | h <;> rw [h] <;> omega) (by rcases hz with h | h <;> rw [h] <;> omega)
  rw [e]
  have : decide ((0, a * b).snd ≤ Int.ofNat 1099511627776) = true := decide_eq_true (by show a * b ≤ (1099511627776:Int); omega)
  rw [this]
end Go.Proofs.YtomcbkfnbagekaaGreat
/- Spans: multiples, ranges of forms. -/
set_option linter.unusedVariables false
set_option linter.unusedSimpArgs false
set_option maxRecDepth 100000
namespace Go.Proofs.YtomcbkfnbagekaaGreat
open Go Go.Vm
theorem P121_t (a b : Int) : P121 a b = true := by
  unfold P121; simp only [P128_t, P118_t, allB_cons, allB_nil, Bool.and_true]; split <;> rfl
theorem P100_t (a b c d e f : Int) : P100 a b c d e f = true := by
  unfold P100; simp only [P121_t, allB_cons, allB_nil, Bool.and_true]; repeat' (split <;> try rfl)
theorem P82_t (a b c d : Int) : P82 a b c d = true := by
  unfold P82; simp only [P100_t, P84a_t, P93_t, allB_cons, allB_nil, Bool.and_true]; repeat' (split <;> try rfl)
theorem P59_t (a b : Int) : P59 a b = true := by
  unfold P59; simp only [P70_t, P82_t, allB_cons, allB_nil, Bool.and_true]; repeat' (split <;> try rfl)
theorem P31_t (a b c d e f : Int) (g : Bool) (h i j k l m : Int) : P31z4 a b c d e f g h i j k l m = true := by
  unfold P31z4; simp only [P58_t, P59_t, P60_t, allB_cons, allB_nil, Bool.and_true]; repeat' (split <;> try rfl)
theorem P9_t (a b c d e f : Int) (g : Bool) (h i j k l m : Int) : P9z3 a b c d e f g h i j k l m = true := by
  unfold P9z3; simp only [P31_t, allB_cons, allB_nil, Bool.and_true]
theorem F100_s {m k st z : Int} (m1 : 0 ≤ m) (m2 : m ≤ 1000) (k1 : -1000 ≤ k) (k2 : k ≤ 1000) : F100 0 m st k k z = (if m * k < 0 then m * k else 0, if m * k < 0 then 0 else m * k, true) := by
  have e0 : F121 0 k = (0, true) := by rw [F121_eq (by omega) (by omega) k1 k2, Int.zero_mul]
  have e1 : F121 m k = (m * k, true) := F121_eq (by omega) m2 k1 k2
  have hb : -1000000 ≤ m * k ∧ m * k ≤ 1000000 := by
    have h1 : m * k ≤ m * 1000 := Int.mul_le_mul_of_nonneg_left k2 m1
    have h2 : m * (-1000) ≤ m * k := Int.mul_le_mul_of_nonneg_left k1 m1
    omega
  unfold F100
  simp only [List.getD_cons_zero, List.getD_cons_succ, e0, e1, cond_true, if_true]
  generalize m * k = p at *
  have z : Int.ofNat 1099511627776 = 1099511627776 := rfl
  have y : Int.negSucc 1099511627775 = -1099511627776 := rfl
  simp only [z, y]
  by_cases h : p < 0
  · simp only [if_pos h]
    simp (config := { decide := true }) only [if_pos, if_neg, gt_iff_lt, ite_true, ite_false]
    have : ¬ (0:Int) < p := by omega
    simp [h, this]
  · simp only [if_neg h]
    have : 0 ≤ p := by omega
    by_cases h0 : p = 0
    · subst h0; simp
    · have : (0:Int) < p := by omega
      simp [h, this]
/-- multiples -/
theorem F59_s {k n : Int} (n1 : 1 ≤ n) (n2 : n ≤ 40) (k1 : -200 ≤ k) (k2 : k ≤ 200) :
    ∃ a b c, F59 k n = (a, b, c, true) ∧ -8000 ≤ a ∧ a ≤ 0 ∧ 0 ≤ b ∧ b ≤ 8000 ∧ 0 ≤ c ∧ c ≤ 1000 ∧ (∀ j, 0 ≤ j → j < n → In a b c (k * j)) ∧
      k * (if k < 0 then n - 1 else 0) = a ∧ k * (if k < 0 then 0 else n - 1) = b := by
  by_cases h1 : n < 2
  · have hn : n = 1 := by omega
    subst hn
    refine ⟨0, 0, 0, ?_, by omega, by omega, by omega, by omega, by omega, by omega, ?_, ?_, ?_⟩
    · unfold F59; rw [if_pos (by decide)]; rfl
    · intro j j1 j2
      have : j = 0 := by omega
      subst this
      rw [Int.mul_zero]; exact ⟨by omega, by omega, Int.dvd_refl _⟩
    · split <;> simp
    · split <;> simp
  · by_cases h2 : k = 0
    · subst h2
      refine ⟨0, 0, 0, ?_, by omega, by omega, by omega, by omega, by omega, by omega, ?_, ?_, ?_⟩
      · unfold F59
        rw [if_neg (by intro h; exact h1 (of_decide_eq_true h)), if_pos (by decide)]; rfl
      · intro j j1 j2
        rw [Int.zero_mul]; exact ⟨by omega, by omega, Int.dvd_refl _⟩
      · simp
      · simp
    · obtain ⟨g1, g2, g3⟩ := F84a_gd (B := 1000) (by omega) (by omega : -1000 ≤ k) (by omega)
      have e1 : wr .i64 (1 * k) = k := by rw [Int.one_mul, w_id (by omega) (by omega)]
      have hb : ∀ j, 0 ≤ j → j < n → -8000 ≤ k * j ∧ k * j ≤ 8000 := fun j j1 j2 => by
        have q1 : k * j ≤ 200 * j := Int.mul_le_mul_of_nonneg_right k2 j1
        have q2 : (-200) * j ≤ k * j := Int.mul_le_mul_of_nonneg_right k1 j1
        omega
      have hN := hb (n - 1) (by omega) (by omega)
      have hm : (n - 1) * k = k * (n - 1) := Int.mul_comm _ _
      have hF : F59 k n = ((if k * (n - 1) < 0 then k * (n - 1) else 0), (if k * (n - 1) < 0 then 0 else k * (n - 1)), (if (if k * (n - 1) < 0 then k * (n - 1) else 0) = (if k * (n - 1) < 0 then 0 else k * (n - 1)) then 0 else (F84a k).1), true) := by
        unfold F59
        rw [F70_s (by omega) (by omega)]
        rw [if_neg (by intro h; exact h1 (of_decide_eq_true h)), if_neg (by intro h; exact h2 (by simpa using h)), if_pos (by rfl)]
        have e82 : F82 0 (n - 1) 1 k = ((if k * (n - 1) < 0 then k * (n - 1) else 0), (if k * (n - 1) < 0 then 0 else k * (n - 1)), (if (if k * (n - 1) < 0 then k * (n - 1) else 0) = (if k * (n - 1) < 0 then 0 else k * (n - 1)) then 0 else (F84a k).1), 0) := by
          unfold F82
          have z : Int.ofNat 0 = 0 := rfl
          rw [z, F100_s (by omega) (by omega) (by omega) (by omega), e1, hm, F93_eq]
          rfl
        simp only [e82]
        rfl
      refine ⟨_, _, _, hF, ?_, ?_, ?_, ?_, ?_, ?_, ?_, ?_, ?_⟩
      · split <;> omega
      · split <;> omega
      · split <;> omega
      · split <;> omega
      · split <;> omega
      · split <;> omega
      · intro j j1 j2
        have hj := hb j j1 j2
        by_cases hk : k < 0
        · have q1 : k * (n - 1) < 0 := Int.mul_neg_of_neg_of_pos hk (by omega)
          have q2 : k * (n - 1) ≤ k * j := Int.mul_le_mul_of_nonpos_left (by omega) (by omega)
          have q3 : k * j ≤ 0 := Int.mul_nonpos_of_nonpos_of_nonneg (by omega) j1
          simp only [if_pos q1]
          refine ⟨q2, q3, ?_⟩
          rw [if_neg (by omega), ← Int.mul_sub]
          exact Int.dvd_trans g3 (Int.dvd_mul_right _ _)
        · have q0 : 0 < k := by omega
          have q1 : 0 < k * (n - 1) := Int.mul_pos q0 (by omega)
          have q2 : k * j ≤ k * (n - 1) := Int.mul_le_mul_of_nonneg_left (by omega) (by omega)
          have q3 : 0 ≤ k * j := Int.mul_nonneg (by omega) j1
          simp only [if_neg (by omega : ¬ k * (n - 1) < 0)]
          refine ⟨q3, q2, ?_⟩
          rw [if_neg (by omega), Int.sub_zero]
          exact Int.dvd_trans g3 (Int.dvd_mul_right _ _)
      · by_cases hk : k < 0
        · have q1 : k * (n - 1) < 0 := Int.mul_neg_of_neg_of_pos hk (by omega)
          rw [if_pos hk, if_pos q1]
        · have q1 : 0 ≤ k * (n - 1) := Int.mul_nonneg (by omega) (by omega)
          rw [if_neg hk, if_neg (by omega), Int.mul_zero]
      · by_cases hk : k < 0
        · have q1 : k * (n - 1) < 0 := Int.mul_neg_of_neg_of_pos hk (by omega)
          rw [if_pos hk, if_pos q1, Int.mul_zero]
        · have q1 : 0 ≤ k * (n - 1) := Int.mul_nonneg (by omega) (by omega)
          rw [if_neg hk, if_neg (by omega)]
/-- a valid span, of small numbers -/
structure Sp (lo hi st : Int) : Prop where
  l : -1000 ≤ lo
  h : hi ≤ 1000
  le : lo ≤ hi
  s : 0 ≤ st ∧ st ≤ 1000
  z : lo = hi → st = 0
  p : lo < hi → 0 < st
  d : st ∣ hi - lo
theorem tmod_zero {a b : Int} (h : b ∣ a) : a.tmod b = 0 := Int.tmod_eq_zero_of_dvd h
theorem F58_y {lo hi st : Int} (h : Sp lo hi st) : F58 lo hi st = true := by
  have := h.l; have := h.h; have := h.le
  unfold F58
  rw [F81_y (by omega) (by omega), F81_y (by omega) (by omega)]
  have e : ¬ (decide (lo > hi) = true) := fun q => by have := of_decide_eq_true q; omega
  rw [if_neg (by decide), if_neg (by decide), if_neg e]
  by_cases h1 : lo = hi
  · rw [if_pos (by simpa using h1), h.z h1]; rfl
  · have h2 := h.p (by omega)
    rw [if_neg (by simpa using h1), if_pos (decide_eq_true (by show st > (0:Int); omega)), w_id (by omega) (by omega), tmod_zero h.d]
    rfl
/-- the range of a form -/
theorem F9_s {G N I L Q lo hi st a1 a2 a3 a4 : Int} (g1 : 1 ≤ G) (g2 : G ≤ 8) (n1 : 1 ≤ N) (n2 : N ≤ 4) (i1 : -200 ≤ I) (i2 : I ≤ 200) (l1 : -200 ≤ L) (l2 : L ≤ 200) (q1 : -200 ≤ Q) (q2 : Q ≤ 200) (h : Sp lo hi st) :
    ∃ x y z, F9z3 G a1 a2 a3 a4 N false I L Q lo hi st = (x, y, z, true) ∧ x ≤ lo ∧ hi ≤ y ∧ -100000 ≤ x ∧ y ≤ 100000 ∧ 0 ≤ z ∧ z ≤ 100000 ∧
      (∀ r i j k, In lo hi st r → 0 ≤ i → i < N * G → 0 ≤ j → j < G → 0 ≤ k → k < N → In x y z (r + I * i + L * j + Q * k)) ∧
      x = lo + I * (if I < 0 then N * G - 1 else 0) + L * (if L < 0 then G - 1 else 0) + Q * (if Q < 0 then N - 1 else 0) ∧
      y = hi + I * (if I < 0 then 0 else N * G - 1) + L * (if L < 0 then 0 else G - 1) + Q * (if Q < 0 then 0 else N - 1) := by
  have hl := h.l; have hh := h.h; have hle := h.le; have hs := h.s
  have m1 : N * G ≤ 4 * 8 := Int.mul_le_mul n2 g2 (by omega) (by omega)
  have m2 : 1 * 1 ≤ N * G := Int.mul_le_mul n1 g1 (by omega) (by omega)
  obtain ⟨ia, ib, ic, ie, i3, i4, i5, i6, i7, i8, i9, i10, i11⟩ := F59_s (k := I) (n := N * G) (by omega) (by omega) i1 i2
  obtain ⟨la, lb, lc, le, l3, l4, l5, l6, l7, l8, l9, l10, l11⟩ := F59_s (k := L) (n := G) g1 (by omega) l1 l2
  obtain ⟨qa, qb, qc, qe, q3, q4, q5, q6, q7, q8, q9, q10, q11⟩ := F59_s (k := Q) (n := N) n1 (by omega) q1 q2
  have ew : wr .i64 (N * G) = N * G := w_id (by omega) (by omega)
  obtain ⟨s1, e1, s1a, s1b, s1c⟩ := F60_s (a := lo) (b := hi) (c := st) (d := ia) (e := ib) (f := ic) ⟨by omega, by omega⟩ ⟨by omega, by omega⟩ ⟨by omega, by omega⟩ ⟨by omega, by omega⟩ ⟨by omega, by omega⟩ ⟨by omega, by omega⟩
  obtain ⟨s2, e2, s2a, s2b, s2c⟩ := F60_s (a := lo + ia) (b := hi + ib) (c := s1) (d := la) (e := lb) (f := lc) ⟨by omega, by omega⟩ ⟨by omega, by omega⟩ ⟨by omega, by omega⟩ ⟨by omega, by omega⟩ ⟨by omega, by omega⟩ ⟨by omega, by omega⟩
  obtain ⟨s3, e3, s3a, s3b, s3c⟩ := F60_s (a := lo + ia + la) (b := hi + ib + lb) (c := s2) (d := qa) (e := qb) (f := qc) ⟨by omega, by omega⟩ ⟨by omega, by omega⟩ ⟨by omega, by omega⟩ ⟨by omega, by omega⟩ ⟨by omega, by omega⟩ ⟨by omega, by omega⟩
  refine ⟨lo + ia + la + qa, hi + ib + lb + qb, s3, ?_, by omega, by omega, by omega, by omega, s3a, s3b, ?_, ?_, ?_⟩
  · have e31 : F31z4 G a1 a2 a3 a4 N false I L Q lo hi st = (lo + ia + la + qa, hi + ib + lb + qb, s3, true) := by
      unfold F31z4
      simp only [F58_y h, ew, ie, le, qe, e1, e2, e3]
      rfl
    unfold F9z3
    rw [e31]
  · intro r i j k hr i0 iN j0 jG k0 kN
    exact s3c _ _ (s2c _ _ (s1c _ _ hr (i9 i i0 iN)) (l9 j j0 jG)) (q9 k k0 kN)
  · rw [i10, l10, q10]
  · rw [i11, l11, q11]
end Go.Proofs.YtomcbkfnbagekaaGreat
/- The two loops of the law on ranges, and the law itself on numbers. -/
set_option linter.unusedVariables false
set_option linter.unusedSimpArgs false
set_option maxRecDepth 100000
namespace Go.Proofs.YtomcbkfnbagekaaGreat
open Go Go.Vm
theorem i32_id {n : Int} (h1 : -2147483648 ≤ n) (h2 : n ≤ 2147483647) : wr .i32 n = n := by
  have e : wr .i32 n = if n % 4294967296 < 2147483648 then n % 4294967296 else n % 4294967296 - 4294967296 := rfl
  rw [e]; split <;> omega
theorem i8_id {n : Int} (h1 : -128 ≤ n) (h2 : n ≤ 127) : wr .i8 n = n := by
  have e : wr .i8 n = if n % 256 < 128 then n % 256 else n % 256 - 256 := rfl
  rw [e]; split <;> omega
theorem F11_y {lo hi st v : Int} (l : -200000 ≤ lo) (h : hi ≤ 200000) (k : In lo hi st v) : F11 lo hi st v = true := by
  obtain ⟨k1, k2, k3⟩ := k
  unfold F11
  rw [if_neg (by intro q; have := of_decide_eq_true q; omega), if_neg (by intro q; have : v > hi := of_decide_eq_true q; omega)]
  by_cases e : st = 0
  · rw [if_pos (by simpa using e)]
  · rw [if_neg (by simpa using e), w_id (by omega) (by omega), tmod_zero k3]; rfl
theorem F32_in {lo hi st v : Int} (h : Sp lo hi st) (k : F32 lo hi st v = true) : In lo hi st v := by
  have := h.l; have := h.h; have := h.le
  unfold F32 at k
  split at k
  · rename_i k1
    split at k
    · rename_i k2
      have k1 : lo ≤ v := of_decide_eq_true k1
      have k2 : v ≤ hi := of_decide_eq_true k2
      refine ⟨k1, k2, ?_⟩
      split at k
      · rename_i k3
        have k3 : v = lo := by simpa using k3
        rw [k3, Int.sub_self]; exact Int.dvd_zero _
      · rw [w_id (by omega) (by omega)] at k
        exact Int.dvd_of_tmod_eq_zero (by simpa using k)
    · cases k
  · cases k
theorem F32_lo {lo hi st : Int} (h : Sp lo hi st) : F32 lo hi st lo = true := by
  have := h.le
  unfold F32
  rw [if_pos (decide_eq_true (Int.le_refl _)), if_pos (decide_eq_true h.le), if_pos (by simp)]
theorem F32_hi {lo hi st : Int} (h : Sp lo hi st) : F32 lo hi st hi = true := by
  have := h.le; have := h.l; have := h.h
  unfold F32
  rw [if_pos (decide_eq_true h.le), if_pos (decide_eq_true (Int.le_refl _))]
  split
  · rfl
  · rw [w_id (by omega) (by omega), tmod_zero h.d]; rfl
theorem P32_y {lo hi st v : Int} (h : Sp lo hi st) : P32 lo hi st v = true := by
  unfold P32
  split
  · rename_i k1
    split
    · rename_i k2
      have k1 : lo ≤ v := of_decide_eq_true k1
      have k2 : v ≤ hi := of_decide_eq_true k2
      split
      · rfl
      · rename_i k3
        have k3 : v ≠ lo := by simpa using k3
        have := h.p (by omega)
        have : st ≠ 0 := by omega
        simp only [allB_cons, allB_nil, Bool.and_true]
        simpa using this
    · rfl
  · rfl
/-- the value that a form leaves to its rest -/
theorem mul_bd {a b A B : Int} (a1 : -A ≤ a) (a2 : a ≤ A) (b1 : 0 ≤ b) (b2 : b ≤ B) (hA : 0 ≤ A) : -(A * B) ≤ a * b ∧ a * b ≤ A * B := by
  have h1 : a * b ≤ A * b := Int.mul_le_mul_of_nonneg_right a2 b1
  have h2 : A * b ≤ A * B := Int.mul_le_mul_of_nonneg_left b2 hA
  have h3 : (-A) * b ≤ a * b := Int.mul_le_mul_of_nonneg_right a1 b1
  rw [Int.neg_mul] at h3
  omega
theorem F10_eq {I L Q lo hi st x j k v : Int} (i1 : -200 ≤ I) (i2 : I ≤ 200) (l1 : -200 ≤ L) (l2 : L ≤ 200) (q1 : -200 ≤ Q) (q2 : Q ≤ 200) (x1 : 0 ≤ x) (x2 : x ≤ 100) (j1 : 0 ≤ j) (j2 : j ≤ 100) (k1 : 0 ≤ k) (k2 : k ≤ 100) (v1 : -3000 ≤ v) (v2 : v ≤ 3000) :
    F10 false I L Q lo hi st x j (wr .i64 k) (wr .i32 v) = F32 lo hi st (v - I * x - L * j - Q * k) := by
  have b1 := mul_bd i1 i2 x1 x2 (by omega)
  have b2 := mul_bd l1 l2 j1 j2 (by omega)
  have b3 := mul_bd q1 q2 k1 k2 (by omega)
  unfold F10
  rw [if_neg (by decide), i32_id (by omega) (by omega), w_id (by omega : _ ≤ k) (by omega), w_id (by omega : _ ≤ v) (by omega), w_id (by omega : _ ≤ I * x) (by omega), w_id (by omega : _ ≤ L * j) (by omega), w_id (by omega : _ ≤ Q * k) (by omega),
    w_id (by omega : _ ≤ v - I * x) (by omega), w_id (by omega : _ ≤ v - I * x - L * j) (by omega), w_id (by omega : _ ≤ v - I * x - L * j - Q * k) (by omega)]

theorem inner0 {x p0_1 p0_12 p0_13 p0_14 p0_15 p0_16 p0_5 p0_17 p0_18 p0_19 : Int} {K PK : Int → Bool → Bool → Bool} (g0 : p0_5 ≠ 0)
    (hT : ∀ v, -2100 ≤ v → v ≤ 2200 → F10 false (Int.ofNat 0) p0_12 p0_13 p0_14 p0_15 p0_16 x (x.tmod p0_5) (wr IntKind.i64 (x.tdiv p0_5)) (wr IntKind.i32 v) = true → F11 p0_17 p0_18 p0_19 v = true)
    (hP : ∀ v, -2100 ≤ v → v ≤ 2200 → P10 false (Int.ofNat 0) p0_12 p0_13 p0_14 p0_15 p0_16 x (x.tmod p0_5) (wr IntKind.i64 (x.tdiv p0_5)) (wr IntKind.i32 v) = true) :
    ∀ (n : Nat) (y : Int) (a b : Bool), 2201 - y < n → -2100 ≤ y → y ≤ 2201 → ∃ a' b', FL3_1 x p0_1 p0_12 p0_13 p0_14 p0_15 p0_16 p0_5 p0_17 p0_18 p0_19 K n y a b = K (wr .i64 (x + Int.ofNat 1)) a' b' ∧ PL3_1 x p0_1 p0_12 p0_13 p0_14 p0_15 p0_16 p0_5 p0_17 p0_18 p0_19 PK n y a b = PK (wr .i64 (x + Int.ofNat 1)) a' b' ∧
      (a = true → a' = true) ∧ (b = true → b' = true) ∧ ∀ v, y ≤ v → v ≤ 2200 → F10 false (Int.ofNat 0) p0_12 p0_13 p0_14 p0_15 p0_16 x (x.tmod p0_5) (wr IntKind.i64 (x.tdiv p0_5)) (wr IntKind.i32 v) = true → (v = p0_17 → a' = true) ∧ (v = p0_18 → b' = true)
  | 0, y, a, b, h, _, _ => by omega
  | n + 1, y, a, b, h, y1, y2 => by
    have e1 : wr .i64 (y + Int.ofNat 1) = y + 1 := w_id (by show _ ≤ y + (1:Int); omega) (by show y + (1:Int) ≤ _; omega)
    have hg : (!p0_5 == Int.ofNat 0) = true := by simpa using g0
    show ∃ a' b', FS3_1 x p0_1 p0_12 p0_13 p0_14 p0_15 p0_16 p0_5 p0_17 p0_18 p0_19 K n (FL3_1 x p0_1 p0_12 p0_13 p0_14 p0_15 p0_16 p0_5 p0_17 p0_18 p0_19 K n) y a b = _ ∧ PS3_1 x p0_1 p0_12 p0_13 p0_14 p0_15 p0_16 p0_5 p0_17 p0_18 p0_19 PK n (PL3_1 x p0_1 p0_12 p0_13 p0_14 p0_15 p0_16 p0_5 p0_17 p0_18 p0_19 PK n) y a b = _ ∧ _
    unfold FS3_1 PS3_1
    by_cases c : y ≤ 2200
    · rw [if_pos (decide_eq_true (by show y ≤ (2200:Int); exact c)), if_pos (decide_eq_true (by show y ≤ (2200:Int); exact c)), e1, hg, hP y y1 c, P11_t]
      by_cases cf : F10 false (Int.ofNat 0) p0_12 p0_13 p0_14 p0_15 p0_16 x (x.tmod p0_5) (wr IntKind.i64 (x.tdiv p0_5)) (wr IntKind.i32 y) = true
      · have hT1 := hT y y1 c cf
        rw [if_pos cf, if_pos cf, hT1]
        simp only [Bool.not_true, Bool.false_eq_true, if_false]
        have key : ∀ a0 b0 : Bool, (a = true → a0 = true) → (b = true → b0 = true) → (y = p0_17 → a0 = true) → (y = p0_18 → b0 = true) → ∃ a' b', FL3_1 x p0_1 p0_12 p0_13 p0_14 p0_15 p0_16 p0_5 p0_17 p0_18 p0_19 K n (y + 1) a0 b0 = K (wr .i64 (x + Int.ofNat 1)) a' b' ∧ allB [true, true, true, PL3_1 x p0_1 p0_12 p0_13 p0_14 p0_15 p0_16 p0_5 p0_17 p0_18 p0_19 PK n (y + 1) a0 b0] = PK (wr .i64 (x + Int.ofNat 1)) a' b' ∧
            (a = true → a' = true) ∧ (b = true → b' = true) ∧ ∀ v, y ≤ v → v ≤ 2200 → F10 false (Int.ofNat 0) p0_12 p0_13 p0_14 p0_15 p0_16 x (x.tmod p0_5) (wr IntKind.i64 (x.tdiv p0_5)) (wr IntKind.i32 v) = true → (v = p0_17 → a' = true) ∧ (v = p0_18 → b' = true) := by
          intro a0 b0 h1 h2 h3 h4
          obtain ⟨a', b', k1, k2, k3, k4, k5⟩ := inner0 (K := K) (PK := PK) g0 hT hP n (y + 1) a0 b0 (by omega) (by omega) (by omega)
          refine ⟨a', b', k1, ?_, fun q => k3 (h1 q), fun q => k4 (h2 q), fun v v1 v2 v3 => ?_⟩
          · rw [← k2]; simp only [allB_cons, allB_nil, Bool.true_and, Bool.and_true]
          · by_cases e : v = y
            · subst e
              exact ⟨fun q => k3 (h3 q), fun q => k4 (h4 q)⟩
            · exact k5 v (by omega) v2 v3
        cases a <;> cases b
        all_goals simp only [Bool.false_eq_true, if_false, if_true] at key ⊢
        all_goals refine key _ _ ?_ ?_ ?_ ?_
        all_goals (intro q; simp_all)
      · rw [if_neg cf, if_neg cf]
        obtain ⟨a', b', k1, k2, k3, k4, k5⟩ := inner0 (K := K) (PK := PK) g0 hT hP n (y + 1) a b (by omega) (by omega) (by omega)
        refine ⟨a', b', k1, ?_, k3, k4, fun v v1 v2 v3 => ?_⟩
        · rw [← k2]; simp only [allB_cons, allB_nil, Bool.true_and, Bool.and_true]
        · by_cases e : v = y
          · subst e; exact absurd v3 cf
          · exact k5 v (by omega) v2 v3
    · have c' : ¬ (decide (y ≤ Int.ofNat 2200) = true) := fun q => c (of_decide_eq_true q)
      rw [if_neg c', if_neg c']
      refine ⟨a, b, rfl, ?_, id, id, fun v v1 v2 => by omega⟩
      simp only [allB_cons, allB_nil, Bool.and_true]

theorem outer0 {p0_1 p0_5 p0_12 p0_13 p0_14 p0_15 p0_16 p0_17 p0_18 p0_19 : Int} (g1 : 1 ≤ p0_5) (g2 : p0_5 ≤ 8) (n1 : 1 ≤ p0_1) (n2 : p0_1 ≤ 4)
    (hT : ∀ x v, 0 ≤ x → x < p0_1 * p0_5 → -2100 ≤ v → v ≤ 2200 → F10 false (Int.ofNat 0) p0_12 p0_13 p0_14 p0_15 p0_16 x (x.tmod p0_5) (wr IntKind.i64 (x.tdiv p0_5)) (wr IntKind.i32 v) = true → F11 p0_17 p0_18 p0_19 v = true)
    (hP : ∀ x v, 0 ≤ x → x < p0_1 * p0_5 → -2100 ≤ v → v ≤ 2200 → P10 false (Int.ofNat 0) p0_12 p0_13 p0_14 p0_15 p0_16 x (x.tmod p0_5) (wr IntKind.i64 (x.tdiv p0_5)) (wr IntKind.i32 v) = true) :
    ∀ (n : Nat) (x : Int) (a b : Bool), p0_1 * p0_5 - x < n → 0 ≤ x → x ≤ p0_1 * p0_5 →
      (a = true ∨ p0_17 < -2100 ∨ ∃ z, x ≤ z ∧ z < p0_1 * p0_5 ∧ -2100 ≤ p0_17 ∧ p0_17 ≤ 2200 ∧ F10 false (Int.ofNat 0) p0_12 p0_13 p0_14 p0_15 p0_16 z (z.tmod p0_5) (wr IntKind.i64 (z.tdiv p0_5)) (wr IntKind.i32 p0_17) = true) →
      (b = true ∨ p0_18 > 2200 ∨ ∃ z, x ≤ z ∧ z < p0_1 * p0_5 ∧ -2100 ≤ p0_18 ∧ p0_18 ≤ 2200 ∧ F10 false (Int.ofNat 0) p0_12 p0_13 p0_14 p0_15 p0_16 z (z.tmod p0_5) (wr IntKind.i64 (z.tdiv p0_5)) (wr IntKind.i32 p0_18) = true) →
      FL3_0 p0_1 p0_5 p0_12 p0_13 p0_14 p0_15 p0_16 p0_17 p0_18 p0_19 n x a b = true ∧ PL3_0 p0_1 p0_5 p0_12 p0_13 p0_14 p0_15 p0_16 p0_17 p0_18 p0_19 n x a b = true
  | 0, x, a, b, h, _, _, _, _ => by omega
  | n + 1, x, a, b, h, x1, x2, ha, hb => by
    have m1 : p0_1 * p0_5 ≤ 4 * 8 := Int.mul_le_mul n2 g2 (by omega) (by omega)
    have m2 : 1 * 1 ≤ p0_1 * p0_5 := Int.mul_le_mul n1 g1 (by omega) (by omega)
    have e1 : wr .i64 (p0_1 * p0_5) = p0_1 * p0_5 := w_id (by omega) (by omega)
    have e2 : wr .i64 (x + Int.ofNat 1) = x + 1 := w_id (by show _ ≤ x + (1:Int); omega) (by show x + (1:Int) ≤ _; omega)
    show FS3_0 p0_1 p0_5 p0_12 p0_13 p0_14 p0_15 p0_16 p0_17 p0_18 p0_19 n (FL3_0 p0_1 p0_5 p0_12 p0_13 p0_14 p0_15 p0_16 p0_17 p0_18 p0_19 n) x a b = true ∧ PS3_0 p0_1 p0_5 p0_12 p0_13 p0_14 p0_15 p0_16 p0_17 p0_18 p0_19 n (PL3_0 p0_1 p0_5 p0_12 p0_13 p0_14 p0_15 p0_16 p0_17 p0_18 p0_19 n) x a b = true
    unfold FS3_0 PS3_0
    rw [e1]
    by_cases c : x < p0_1 * p0_5
    · rw [if_pos (decide_eq_true c), if_pos (decide_eq_true c)]
      obtain ⟨a', b', k1, k2, k3, k4, k5⟩ := inner0 (K := FL3_0 p0_1 p0_5 p0_12 p0_13 p0_14 p0_15 p0_16 p0_17 p0_18 p0_19 n) (PK := PL3_0 p0_1 p0_5 p0_12 p0_13 p0_14 p0_15 p0_16 p0_17 p0_18 p0_19 n) (by omega : p0_5 ≠ 0) (fun v => hT x v x1 c) (fun v => hP x v x1 c) 5000 (Int.negSucc 2099) a b (by show (2201:Int) - (-2100) < _; omega) (by show (-2100:Int) ≤ -2100; omega) (by show (-2100:Int) ≤ _; omega)
      rw [k1, e2]
      have hrec := outer0 g1 g2 n1 n2 hT hP n (x + 1) a' b' (by omega) (by omega) (by omega) (by
          rcases ha with ha | ha | ⟨z, z1, z2, z3, z4, z5⟩
          · exact .inl (k3 ha)
          · exact .inr (.inl ha)
          · by_cases e : z = x
            · subst e
              exact .inl ((k5 _ (by show (-2100:Int) ≤ _; exact z3) z4 z5).1 rfl)
            · exact .inr (.inr ⟨z, by omega, z2, z3, z4, z5⟩)) (by
          rcases hb with hb | hb | ⟨z, z1, z2, z3, z4, z5⟩
          · exact .inl (k4 hb)
          · exact .inr (.inl hb)
          · by_cases e : z = x
            · subst e
              exact .inl ((k5 _ (by show (-2100:Int) ≤ _; exact z3) z4 z5).2 rfl)
            · exact .inr (.inr ⟨z, by omega, z2, z3, z4, z5⟩))
      refine ⟨hrec.1, ?_⟩
      rw [k2, e2, hrec.2]; rfl
    · have c' : ¬ (decide (x < p0_1 * p0_5) = true) := fun q => c (of_decide_eq_true q)
      rw [if_neg c', if_neg c']
      have ha' : a = true ∨ p0_17 < -2100 := by
        rcases ha with ha | ha | ⟨z, z1, z2, _⟩
        · exact .inl ha
        · exact .inr ha
        · omega
      have hb' : b = true ∨ p0_18 > 2200 := by
        rcases hb with hb | hb | ⟨z, z1, z2, _⟩
        · exact .inl hb
        · exact .inr hb
        · omega
      have da : a = false → decide (p0_17 < Int.negSucc 2099) = true := fun q => by
        subst q
        rcases ha' with h | h
        · cases h
        · exact decide_eq_true h
      have db : b = false → decide (p0_18 > Int.ofNat 2200) = true := fun q => by
        subst q
        rcases hb' with h | h
        · cases h
        · exact decide_eq_true h
      cases a <;> cases b
      · simp only [cond_true, da rfl, db rfl, allB, if_true, if_false, Bool.false_eq_true, and_self]
      · simp only [cond_true, da rfl, allB, if_true, if_false, Bool.false_eq_true, and_self]
      · simp only [cond_true, db rfl, allB, if_true, if_false, Bool.false_eq_true, and_self]
      · simp only [allB, if_true, and_self]

theorem inner2 {x p2_1 p2_11 p2_14 p2_15 p2_16 p2_5 p2_17 p2_18 p2_19 : Int} {K PK : Int → Bool → Bool → Bool} (g0 : p2_5 ≠ 0)
    (hT : ∀ v, -2100 ≤ v → v ≤ 2200 → F10 false p2_11 (Int.ofNat 0) (Int.ofNat 0) p2_14 p2_15 p2_16 x (x.tmod p2_5) (wr IntKind.i64 (x.tdiv p2_5)) (wr IntKind.i32 v) = true → F11 p2_17 p2_18 p2_19 v = true)
    (hP : ∀ v, -2100 ≤ v → v ≤ 2200 → P10 false p2_11 (Int.ofNat 0) (Int.ofNat 0) p2_14 p2_15 p2_16 x (x.tmod p2_5) (wr IntKind.i64 (x.tdiv p2_5)) (wr IntKind.i32 v) = true) :
    ∀ (n : Nat) (y : Int) (a b : Bool), 2201 - y < n → -2100 ≤ y → y ≤ 2201 → ∃ a' b', FL3_3 x p2_1 p2_11 p2_14 p2_15 p2_16 p2_5 p2_17 p2_18 p2_19 K n y a b = K (wr .i64 (x + Int.ofNat 1)) a' b' ∧ PL3_3 x p2_1 p2_11 p2_14 p2_15 p2_16 p2_5 p2_17 p2_18 p2_19 PK n y a b = PK (wr .i64 (x + Int.ofNat 1)) a' b' ∧
      (a = true → a' = true) ∧ (b = true → b' = true) ∧ ∀ v, y ≤ v → v ≤ 2200 → F10 false p2_11 (Int.ofNat 0) (Int.ofNat 0) p2_14 p2_15 p2_16 x (x.tmod p2_5) (wr IntKind.i64 (x.tdiv p2_5)) (wr IntKind.i32 v) = true → (v = p2_17 → a' = true) ∧ (v = p2_18 → b' = true)
  | 0, y, a, b, h, _, _ => by omega
  | n + 1, y, a, b, h, y1, y2 => by
    have e1 : wr .i64 (y + Int.ofNat 1) = y + 1 := w_id (by show _ ≤ y + (1:Int); omega) (by show y + (1:Int) ≤ _; omega)
    have hg : (!p2_5 == Int.ofNat 0) = true := by simpa using g0
    show ∃ a' b', FS3_3 x p2_1 p2_11 p2_14 p2_15 p2_16 p2_5 p2_17 p2_18 p2_19 K n (FL3_3 x p2_1 p2_11 p2_14 p2_15 p2_16 p2_5 p2_17 p2_18 p2_19 K n) y a b = _ ∧ PS3_3 x p2_1 p2_11 p2_14 p2_15 p2_16 p2_5 p2_17 p2_18 p2_19 PK n (PL3_3 x p2_1 p2_11 p2_14 p2_15 p2_16 p2_5 p2_17 p2_18 p2_19 PK n) y a b = _ ∧ _
    unfold FS3_3 PS3_3
    by_cases c : y ≤ 2200
    · rw [if_pos (decide_eq_true (by show y ≤ (2200:Int); exact c)), if_pos (decide_eq_true (by show y ≤ (2200:Int); exact c)), e1, hg, hP y y1 c, P11_t]
      by_cases cf : F10 false p2_11 (Int.ofNat 0) (Int.ofNat 0) p2_14 p2_15 p2_16 x (x.tmod p2_5) (wr IntKind.i64 (x.tdiv p2_5)) (wr IntKind.i32 y) = true
      · have hT1 := hT y y1 c cf
        rw [if_pos cf, if_pos cf, hT1]
        simp only [Bool.not_true, Bool.false_eq_true, if_false]
        have key : ∀ a0 b0 : Bool, (a = true → a0 = true) → (b = true → b0 = true) → (y = p2_17 → a0 = true) → (y = p2_18 → b0 = true) → ∃ a' b', FL3_3 x p2_1 p2_11 p2_14 p2_15 p2_16 p2_5 p2_17 p2_18 p2_19 K n (y + 1) a0 b0 = K (wr .i64 (x + Int.ofNat 1)) a' b' ∧ allB [true, true, true, PL3_3 x p2_1 p2_11 p2_14 p2_15 p2_16 p2_5 p2_17 p2_18 p2_19 PK n (y + 1) a0 b0] = PK (wr .i64 (x + Int.ofNat 1)) a' b' ∧
            (a = true → a' = true) ∧ (b = true → b' = true) ∧ ∀ v, y ≤ v → v ≤ 2200 → F10 false p2_11 (Int.ofNat 0) (Int.ofNat 0) p2_14 p2_15 p2_16 x (x.tmod p2_5) (wr IntKind.i64 (x.tdiv p2_5)) (wr IntKind.i32 v) = true → (v = p2_17 → a' = true) ∧ (v = p2_18 → b' = true) := by
          intro a0 b0 h1 h2 h3 h4
          obtain ⟨a', b', k1, k2, k3, k4, k5⟩ := inner2 (K := K) (PK := PK) g0 hT hP n (y + 1) a0 b0 (by omega) (by omega) (by omega)
          refine ⟨a', b', k1, ?_, fun q => k3 (h1 q), fun q => k4 (h2 q), fun v v1 v2 v3 => ?_⟩
          · rw [← k2]; simp only [allB_cons, allB_nil, Bool.true_and, Bool.and_true]
          · by_cases e : v = y
            · subst e
              exact ⟨fun q => k3 (h3 q), fun q => k4 (h4 q)⟩
            · exact k5 v (by omega) v2 v3
        cases a <;> cases b
        all_goals simp only [Bool.false_eq_true, if_false, if_true] at key ⊢
        all_goals refine key _ _ ?_ ?_ ?_ ?_
        all_goals (intro q; simp_all)
      · rw [if_neg cf, if_neg cf]
        obtain ⟨a', b', k1, k2, k3, k4, k5⟩ := inner2 (K := K) (PK := PK) g0 hT hP n (y + 1) a b (by omega) (by omega) (by omega)
        refine ⟨a', b', k1, ?_, k3, k4, fun v v1 v2 v3 => ?_⟩
        · rw [← k2]; simp only [allB_cons, allB_nil, Bool.true_and, Bool.and_true]
        · by_cases e : v = y
          · subst e; exact absurd v3 cf
          · exact k5 v (by omega) v2 v3
    · have c' : ¬ (decide (y ≤ Int.ofNat 2200) = true) := fun q => c (of_decide_eq_true q)
      rw [if_neg c', if_neg c']
      refine ⟨a, b, rfl, ?_, id, id, fun v v1 v2 => by omega⟩
      simp only [allB_cons, allB_nil, Bool.and_true]

theorem outer2 {p2_1 p2_5 p2_11 p2_14 p2_15 p2_16 p2_17 p2_18 p2_19 : Int} (g1 : 1 ≤ p2_5) (g2 : p2_5 ≤ 8) (n1 : 1 ≤ p2_1) (n2 : p2_1 ≤ 4)
    (hT : ∀ x v, 0 ≤ x → x < p2_1 * p2_5 → -2100 ≤ v → v ≤ 2200 → F10 false p2_11 (Int.ofNat 0) (Int.ofNat 0) p2_14 p2_15 p2_16 x (x.tmod p2_5) (wr IntKind.i64 (x.tdiv p2_5)) (wr IntKind.i32 v) = true → F11 p2_17 p2_18 p2_19 v = true)
    (hP : ∀ x v, 0 ≤ x → x < p2_1 * p2_5 → -2100 ≤ v → v ≤ 2200 → P10 false p2_11 (Int.ofNat 0) (Int.ofNat 0) p2_14 p2_15 p2_16 x (x.tmod p2_5) (wr IntKind.i64 (x.tdiv p2_5)) (wr IntKind.i32 v) = true) :
    ∀ (n : Nat) (x : Int) (a b : Bool), p2_1 * p2_5 - x < n → 0 ≤ x → x ≤ p2_1 * p2_5 →
      (a = true ∨ p2_17 < -2100 ∨ ∃ z, x ≤ z ∧ z < p2_1 * p2_5 ∧ -2100 ≤ p2_17 ∧ p2_17 ≤ 2200 ∧ F10 false p2_11 (Int.ofNat 0) (Int.ofNat 0) p2_14 p2_15 p2_16 z (z.tmod p2_5) (wr IntKind.i64 (z.tdiv p2_5)) (wr IntKind.i32 p2_17) = true) →
      (b = true ∨ p2_18 > 2200 ∨ ∃ z, x ≤ z ∧ z < p2_1 * p2_5 ∧ -2100 ≤ p2_18 ∧ p2_18 ≤ 2200 ∧ F10 false p2_11 (Int.ofNat 0) (Int.ofNat 0) p2_14 p2_15 p2_16 z (z.tmod p2_5) (wr IntKind.i64 (z.tdiv p2_5)) (wr IntKind.i32 p2_18) = true) →
      FL3_2 p2_1 p2_5 p2_11 p2_14 p2_15 p2_16 p2_17 p2_18 p2_19 n x a b = true ∧ PL3_2 p2_1 p2_5 p2_11 p2_14 p2_15 p2_16 p2_17 p2_18 p2_19 n x a b = true
  | 0, x, a, b, h, _, _, _, _ => by omega
  | n + 1, x, a, b, h, x1, x2, ha, hb => by
    have m1 : p2_1 * p2_5 ≤ 4 * 8 := Int.mul_le_mul n2 g2 (by omega) (by omega)
    have m2 : 1 * 1 ≤ p2_1 * p2_5 := Int.mul_le_mul n1 g1 (by omega) (by omega)
    have e1 : wr .i64 (p2_1 * p2_5) = p2_1 * p2_5 := w_id (by omega) (by omega)
    have e2 : wr .i64 (x + Int.ofNat 1) = x + 1 := w_id (by show _ ≤ x + (1:Int); omega) (by show x + (1:Int) ≤ _; omega)
    show FS3_2 p2_1 p2_5 p2_11 p2_14 p2_15 p2_16 p2_17 p2_18 p2_19 n (FL3_2 p2_1 p2_5 p2_11 p2_14 p2_15 p2_16 p2_17 p2_18 p2_19 n) x a b = true ∧ PS3_2 p2_1 p2_5 p2_11 p2_14 p2_15 p2_16 p2_17 p2_18 p2_19 n (PL3_2 p2_1 p2_5 p2_11 p2_14 p2_15 p2_16 p2_17 p2_18 p2_19 n) x a b = true
    unfold FS3_2 PS3_2
    rw [e1]
    by_cases c : x < p2_1 * p2_5
    · rw [if_pos (decide_eq_true c), if_pos (decide_eq_true c)]
      obtain ⟨a', b', k1, k2, k3, k4, k5⟩ := inner2 (K := FL3_2 p2_1 p2_5 p2_11 p2_14 p2_15 p2_16 p2_17 p2_18 p2_19 n) (PK := PL3_2 p2_1 p2_5 p2_11 p2_14 p2_15 p2_16 p2_17 p2_18 p2_19 n) (by omega : p2_5 ≠ 0) (fun v => hT x v x1 c) (fun v => hP x v x1 c) 5000 (Int.negSucc 2099) a b (by show (2201:Int) - (-2100) < _; omega) (by show (-2100:Int) ≤ -2100; omega) (by show (-2100:Int) ≤ _; omega)
      rw [k1, e2]
      have hrec := outer2 g1 g2 n1 n2 hT hP n (x + 1) a' b' (by omega) (by omega) (by omega) (by
          rcases ha with ha | ha | ⟨z, z1, z2, z3, z4, z5⟩
          · exact .inl (k3 ha)
          · exact .inr (.inl ha)
          · by_cases e : z = x
            · subst e
              exact .inl ((k5 _ (by show (-2100:Int) ≤ _; exact z3) z4 z5).1 rfl)
            · exact .inr (.inr ⟨z, by omega, z2, z3, z4, z5⟩)) (by
          rcases hb with hb | hb | ⟨z, z1, z2, z3, z4, z5⟩
          · exact .inl (k4 hb)
          · exact .inr (.inl hb)
          · by_cases e : z = x
            · subst e
              exact .inl ((k5 _ (by show (-2100:Int) ≤ _; exact z3) z4 z5).2 rfl)
            · exact .inr (.inr ⟨z, by omega, z2, z3, z4, z5⟩))
      refine ⟨hrec.1, ?_⟩
      rw [k2, e2, hrec.2]; rfl
    · have c' : ¬ (decide (x < p2_1 * p2_5) = true) := fun q => c (of_decide_eq_true q)
      rw [if_neg c', if_neg c']
      have ha' : a = true ∨ p2_17 < -2100 := by
        rcases ha with ha | ha | ⟨z, z1, z2, _⟩
        · exact .inl ha
        · exact .inr ha
        · omega
      have hb' : b = true ∨ p2_18 > 2200 := by
        rcases hb with hb | hb | ⟨z, z1, z2, _⟩
        · exact .inl hb
        · exact .inr hb
        · omega
      have da : a = false → decide (p2_17 < Int.negSucc 2099) = true := fun q => by
        subst q
        rcases ha' with h | h
        · cases h
        · exact decide_eq_true h
      have db : b = false → decide (p2_18 > Int.ofNat 2200) = true := fun q => by
        subst q
        rcases hb' with h | h
        · cases h
        · exact decide_eq_true h
      cases a <;> cases b
      · simp only [cond_true, da rfl, db rfl, allB, if_true, if_false, Bool.false_eq_true, and_self]
      · simp only [cond_true, da rfl, allB, if_true, if_false, Bool.false_eq_true, and_self]
      · simp only [cond_true, db rfl, allB, if_true, if_false, Bool.false_eq_true, and_self]
      · simp only [allB, if_true, and_self]

end Go.Proofs.YtomcbkfnbagekaaGreat
/- The law on ranges, on numbers: it is true of all of them. -/
set_option linter.unusedVariables false
set_option linter.unusedSimpArgs false
set_option maxRecDepth 100000
namespace Go.Proofs.YtomcbkfnbagekaaGreat
open Go Go.Vm
theorem tmod_range {x m : Int} (hm : 0 < m) : -m < x.tmod m ∧ x.tmod m < m := by
  have h := tmod_lt (b := x) (a := m) (by omega)
  omega
theorem tmod_nn {x m : Int} (hx : 0 ≤ x) : 0 ≤ x.tmod m := Int.tmod_nonneg _ hx
theorem F7_s {a b c : Int} (hb : 0 ≤ b) (hc : 0 ≤ c) : ∃ lo hi st, F7 a b c = (lo, hi, st) ∧ Sp lo hi st := by
  have i41 : Int.ofNat 41 = 41 := rfl
  have i9 : Int.ofNat 9 = 9 := rfl
  have i15 : Int.ofNat 15 = 15 := rfl
  have i1 : Int.ofNat 1 = 1 := rfl
  have ha := tmod_range (x := a) (m := 41) (by omega)
  have hb2 := tmod_range (x := b) (m := 9) (by omega)
  have hb1 := tmod_nn (x := b) (m := 9) hb
  have hc2 := tmod_range (x := c) (m := 15) (by omega)
  have hc1 := tmod_nn (x := c) (m := 15) hc
  unfold F7
  simp only [i41, i9, i15, i1]
  generalize a.tmod 41 = p at *
  generalize b.tmod 9 = q at *
  generalize c.tmod 15 = r at *
  rw [w_id (by omega : _ ≤ q) (by omega), w_id (by omega : _ ≤ r) (by omega), w_id (by omega : _ ≤ q + 1) (by omega)]
  have h1 : 0 ≤ (q + 1) * r := Int.mul_nonneg (by omega) hc1
  have h2 : (q + 1) * r ≤ 9 * 14 := Int.mul_le_mul (by omega) (by omega) hc1 (by omega)
  rw [w_id (by omega : _ ≤ (q + 1) * r) (by omega), w_id (by omega : _ ≤ p + (q + 1) * r) (by omega)]
  have hd : (q + 1) ∣ p + (q + 1) * r - p := by
    have : p + (q + 1) * r - p = (q + 1) * r := by omega
    rw [this]; exact Int.dvd_mul_right _ _
  generalize (q + 1) * r = s at *
  have e : F24 p (p + s) (q + 1) = if p = p + s then (p, p, 0) else (p, p + s, q + 1) := by
    unfold F24
    by_cases h : p = p + s
    · rw [if_pos (by simpa using h), if_pos h]; rfl
    · rw [if_neg (by simpa using h), if_neg h]
  rw [e]
  by_cases h : p = p + s
  · rw [if_pos h]
    exact ⟨p, p, 0, rfl, ⟨by omega, by omega, by omega, by omega, fun _ => rfl, fun q => by omega, by simp⟩⟩
  · rw [if_neg h]
    exact ⟨p, p + s, q + 1, rfl, ⟨by omega, by omega, by omega, by omega, fun q => by omega, fun _ => by omega, hd⟩⟩
theorem mask_bd (x m : Int) (hm : 0 ≤ m) (hm2 : m ≤ 7) : 0 ≤ ((BitVec.ofInt IntKind.i8.bits x &&& BitVec.ofInt IntKind.i8.bits m).toNat : Int) ∧ ((BitVec.ofInt IntKind.i8.bits x &&& BitVec.ofInt IntKind.i8.bits m).toNat : Int) ≤ m := by
  obtain ⟨k, rfl⟩ : ∃ k : Nat, m = k := ⟨m.toNat, by omega⟩
  refine ⟨by omega, ?_⟩
  have hb : IntKind.i8.bits = 8 := rfl
  rw [hb, BitVec.toNat_and]
  have e1 : BitVec.ofInt 8 (k : Int) = BitVec.ofNat 8 k := BitVec.ofInt_natCast 8 k
  rw [e1, BitVec.toNat_ofNat]
  have h1 : (BitVec.ofInt 8 x).toNat &&& (k % 2 ^ 8) ≤ k % 2 ^ 8 := Nat.and_le_right
  have h2 : k % 2 ^ 8 ≤ k := Nat.mod_le _ _
  omega
theorem G_bd (x m : Int) (hm : 0 ≤ m) (hm2 : m ≤ 7) : 1 ≤ wr .i64 (Int.ofNat 1 + wr .i64 (wr .i8 ((BitVec.ofInt IntKind.i8.bits x &&& BitVec.ofInt IntKind.i8.bits m).toNat : Int))) ∧ wr .i64 (Int.ofNat 1 + wr .i64 (wr .i8 ((BitVec.ofInt IntKind.i8.bits x &&& BitVec.ofInt IntKind.i8.bits m).toNat : Int))) ≤ m + 1 := by
  have h := mask_bd x m hm hm2
  have i1 : Int.ofNat 1 = 1 := rfl
  rw [i1, i8_id (by omega) (by omega), w_id (by omega : _ ≤ ((BitVec.ofInt IntKind.i8.bits x &&& BitVec.ofInt IntKind.i8.bits m).toNat : Int)) (by omega), w_id (by omega) (by omega)]
  omega
/-- what is asked of an item's numbers -/
theorem split_x {x N G : Int} (g1 : 1 ≤ G) (x1 : 0 ≤ x) (x2 : x < N * G) : 0 ≤ x.tmod G ∧ x.tmod G < G ∧ 0 ≤ x.tdiv G ∧ x.tdiv G < N := by
  refine ⟨tmod_nn x1, (tmod_range (by omega)).2, Int.tdiv_nonneg x1 (by omega), ?_⟩
  rw [Int.tdiv_eq_ediv_of_nonneg x1]
  exact Int.ediv_lt_of_lt_mul (by omega) x2
theorem join_x {j k N G : Int} (g1 : 1 ≤ G) (j1 : 0 ≤ j) (j2 : j < G) (k1 : 0 ≤ k) (k2 : k < N) : 0 ≤ k * G + j ∧ k * G + j < N * G ∧ (k * G + j).tmod G = j ∧ (k * G + j).tdiv G = k := by
  have h0 : 0 ≤ k * G := Int.mul_nonneg k1 (by omega)
  have h1 : (k + 1) * G ≤ N * G := Int.mul_le_mul_of_nonneg_right (by omega) (by omega)
  rw [Int.add_mul, Int.one_mul] at h1
  refine ⟨by omega, by omega, ?_, ?_⟩
  · rw [Int.tmod_eq_emod_of_nonneg (by omega), Int.add_comm, Int.add_mul_emod_self_right, Int.emod_eq_of_lt j1 j2]
  · rw [Int.tdiv_eq_ediv_of_nonneg (by omega), Int.add_comm, Int.add_mul_ediv_right _ _ (by omega), Int.ediv_eq_zero_of_lt j1 j2, Int.zero_add]
theorem core_T {G N I L Q lo hi st X Y Z : Int} (g1 : 1 ≤ G) (g2 : G ≤ 8) (n1 : 1 ≤ N) (n2 : N ≤ 4) (i1 : -200 ≤ I) (i2 : I ≤ 200) (l1 : -200 ≤ L) (l2 : L ≤ 200) (q1 : -200 ≤ Q) (q2 : Q ≤ 200) (hs : Sp lo hi st) (hX : -100000 ≤ X) (hY : Y ≤ 100000) (hin : ∀ r i j k, In lo hi st r → 0 ≤ i → i < N * G → 0 ≤ j → j < G → 0 ≤ k → k < N → In X Y Z (r + I * i + L * j + Q * k)) (x v : Int) (x1 : 0 ≤ x) (x2 : x < N * G) (v1 : -2100 ≤ v) (v2 : v ≤ 2200)
    (h : F10 false I L Q lo hi st x (x.tmod G) (wr IntKind.i64 (x.tdiv G)) (wr IntKind.i32 v) = true) : F11 X Y Z v = true := by
  have m1 : N * G ≤ 4 * 8 := Int.mul_le_mul n2 g2 (by omega) (by omega)
  obtain ⟨j1, j2, k1, k2⟩ := split_x g1 x1 x2
  rw [F10_eq i1 i2 l1 l2 q1 q2 x1 (by omega) j1 (by omega) k1 (by omega) (by omega) (by omega)] at h
  have h2 := hin _ x _ _ (F32_in hs h) x1 x2 j1 j2 k1 k2
  have e : v - I * x - L * x.tmod G - Q * x.tdiv G + I * x + L * x.tmod G + Q * x.tdiv G = v := by omega
  rw [e] at h2
  exact F11_y (by omega) (by omega) h2
theorem core_P {G N I L Q lo hi st : Int} (g1 : 1 ≤ G) (g2 : G ≤ 8) (n1 : 1 ≤ N) (n2 : N ≤ 4) (i1 : -200 ≤ I) (i2 : I ≤ 200) (l1 : -200 ≤ L) (l2 : L ≤ 200) (q1 : -200 ≤ Q) (q2 : Q ≤ 200) (hs : Sp lo hi st) (x v : Int) : P10 false I L Q lo hi st x (x.tmod G) (wr IntKind.i64 (x.tdiv G)) (wr IntKind.i32 v) = true := by
  unfold P10
  rw [if_neg (by decide), P32_y hs]; rfl
theorem core_E {G N I L Q lo hi st : Int} (g1 : 1 ≤ G) (g2 : G ≤ 8) (n1 : 1 ≤ N) (n2 : N ≤ 4) (i1 : -200 ≤ I) (i2 : I ≤ 200) (l1 : -200 ≤ L) (l2 : L ≤ 200) (q1 : -200 ≤ Q) (q2 : Q ≤ 200) (hs : Sp lo hi st) {z V r : Int} (hr : F32 lo hi st r = true) (z1 : 0 ≤ z) (z2 : z < N * G) (v1 : -2100 ≤ V) (v2 : V ≤ 2200) (e : V = r + I * z + L * z.tmod G + Q * z.tdiv G) :
    F10 false I L Q lo hi st z (z.tmod G) (wr IntKind.i64 (z.tdiv G)) (wr IntKind.i32 V) = true := by
  have m1 : N * G ≤ 4 * 8 := Int.mul_le_mul n2 g2 (by omega) (by omega)
  obtain ⟨j1, j2, k1, k2⟩ := split_x g1 z1 z2
  rw [F10_eq i1 i2 l1 l2 q1 q2 z1 (by omega) j1 (by omega) k1 (by omega) (by omega) (by omega)]
  have e2 : V - I * z - L * z.tmod G - Q * z.tdiv G = r := by omega
  rw [e2]; exact hr
theorem law_t (x0 x1 x2 x3 x4 x5 : Int) (b0 : -128 ≤ x0 ∧ x0 ≤ 127) (b1 : -128 ≤ x1 ∧ x1 ≤ 127) (b2 : -128 ≤ x2 ∧ x2 ≤ 127) (b4 : 0 ≤ x4) (b5 : 0 ≤ x5) : F3 x0 x1 x2 x3 x4 x5 = true ∧ P3 x0 x1 x2 x3 x4 x5 = true := by
  obtain ⟨lo, hi, st, e7, hs⟩ := F7_s (a := x3) b4 b5
  have hl := hs.l; have hh := hs.h; have hle := hs.le
  have hG := G_bd x0 (Int.ofNat 7) (by decide) (by decide)
  have hN := G_bd x1 (Int.ofNat 3) (by decide) (by decide)
  unfold F3 P3
  simp only [e7, P7_t, P8_t, P9_t]
  generalize wr .i64 (Int.ofNat 1 + wr .i64 (wr .i8 ((BitVec.ofInt IntKind.i8.bits x0 &&& BitVec.ofInt IntKind.i8.bits (Int.ofNat 7)).toNat : Int))) = G at *
  generalize wr .i64 (Int.ofNat 1 + wr .i64 (wr .i8 ((BitVec.ofInt IntKind.i8.bits x1 &&& BitVec.ofInt IntKind.i8.bits (Int.ofNat 3)).toNat : Int))) = N at *
  rw [w_id (by omega : _ ≤ x0) (by omega), w_id (by omega : _ ≤ x1) (by omega), w_id (by omega : _ ≤ x2) (by omega)]
  have i7 : Int.ofNat 7 = 7 := rfl
  have i3 : Int.ofNat 3 = 3 := rfl
  have i0 : Int.ofNat 0 = 0 := rfl
  rw [i7] at hG
  rw [i3] at hN
  have m1 : N * G ≤ 4 * 8 := Int.mul_le_mul (by omega) (by omega) (by omega) (by omega)
  have m2 : 1 * 1 ≤ N * G := Int.mul_le_mul hN.1 hG.1 (by omega) (by omega)
  by_cases hc : (x2.tmod (Int.ofNat 2) == Int.ofNat 0) = true
  · rw [if_pos hc, if_pos hc]
    obtain ⟨X, Y, Z, e9, x1', x2', x3', x4', x5', x6', hin, eX, eY⟩ := F9_s (a1 := Int.ofNat 1) (a2 := Int.ofNat 0) (a3 := Int.ofNat 0) (a4 := Int.ofNat 0) hG.1 (by omega) hN.1 (by omega) (by rw [i0]; omega : -200 ≤ Int.ofNat 0) (by rw [i0]; omega) (by omega : -200 ≤ x1) (by omega) (by omega : -200 ≤ x2) (by omega) hs
    simp only [e9]
    have hX := join_x hG.1 (j := if x1 < 0 then G - 1 else 0) (k := if x2 < 0 then N - 1 else 0) (N := N) (by split <;> omega) (by split <;> omega) (by split <;> omega) (by split <;> omega)
    have hY := join_x hG.1 (j := if x1 < 0 then 0 else G - 1) (k := if x2 < 0 then 0 else N - 1) (N := N) (by split <;> omega) (by split <;> omega) (by split <;> omega) (by split <;> omega)
    have key := outer0 (p0_1 := N) (p0_5 := G) (p0_12 := x1) (p0_13 := x2) (p0_14 := lo) (p0_15 := hi) (p0_16 := st) (p0_17 := X) (p0_18 := Y) (p0_19 := Z) hG.1 (by omega) hN.1 (by omega)
      (core_T hG.1 (by omega) hN.1 (by omega) (by rw [i0]; omega) (by rw [i0]; omega) (by omega) (by omega) (by omega) (by omega) hs x3' x4' hin)
      (fun x v _ _ _ _ => core_P hG.1 (by omega) hN.1 (by omega) (by rw [i0]; omega) (by rw [i0]; omega) (by omega) (by omega) (by omega) (by omega) hs x v)
      100 (Int.ofNat 0) false false (by rw [i0]; omega) (by rw [i0]; omega) (by rw [i0]; omega)
      (by
        by_cases h : X < -2100
        · exact .inr (.inl h)
        · refine .inr (.inr ⟨_, hX.1, hX.2.1, by omega, by omega, core_E hG.1 (by omega) hN.1 (by omega) (by rw [i0]; omega) (by rw [i0]; omega) (by omega) (by omega) (by omega) (by omega) hs (F32_lo hs) hX.1 hX.2.1 (by omega) (by omega) ?_⟩)
          rw [hX.2.2.1, hX.2.2.2, eX, i0, Int.zero_mul, Int.zero_mul])
      (by
        by_cases h : Y > 2200
        · exact .inr (.inl h)
        · refine .inr (.inr ⟨_, hY.1, hY.2.1, by omega, by omega, core_E hG.1 (by omega) hN.1 (by omega) (by rw [i0]; omega) (by rw [i0]; omega) (by omega) (by omega) (by omega) (by omega) hs (F32_hi hs) hY.1 hY.2.1 (by omega) (by omega) ?_⟩)
          rw [hY.2.2.1, hY.2.2.2, eY, i0, Int.zero_mul, Int.zero_mul])
    rw [key.1, key.2]
    constructor <;> (split <;> rfl)
  · rw [if_neg hc, if_neg hc]
    obtain ⟨X, Y, Z, e9, x1', x2', x3', x4', x5', x6', hin, eX, eY⟩ := F9_s (a1 := Int.ofNat 1) (a2 := Int.ofNat 0) (a3 := Int.ofNat 0) (a4 := Int.ofNat 0) hG.1 (by omega) hN.1 (by omega) (by omega : -200 ≤ x0) (by omega) (by rw [i0]; omega : -200 ≤ Int.ofNat 0) (by rw [i0]; omega) (by rw [i0]; omega : -200 ≤ Int.ofNat 0) (by rw [i0]; omega) hs
    simp only [e9]
    have hX : 0 ≤ (if x0 < 0 then N * G - 1 else 0) ∧ (if x0 < 0 then N * G - 1 else 0) < N * G := by split <;> omega
    have hY : 0 ≤ (if x0 < 0 then 0 else N * G - 1) ∧ (if x0 < 0 then 0 else N * G - 1) < N * G := by split <;> omega
    have key := outer2 (p2_1 := N) (p2_5 := G) (p2_11 := x0) (p2_14 := lo) (p2_15 := hi) (p2_16 := st) (p2_17 := X) (p2_18 := Y) (p2_19 := Z) hG.1 (by omega) hN.1 (by omega)
      (core_T hG.1 (by omega) hN.1 (by omega) (by omega) (by omega) (by rw [i0]; omega) (by rw [i0]; omega) (by rw [i0]; omega) (by rw [i0]; omega) hs x3' x4' hin)
      (fun x v _ _ _ _ => core_P hG.1 (by omega) hN.1 (by omega) (by omega) (by omega) (by rw [i0]; omega) (by rw [i0]; omega) (by rw [i0]; omega) (by rw [i0]; omega) hs x v)
      100 (Int.ofNat 0) false false (by rw [i0]; omega) (by rw [i0]; omega) (by rw [i0]; omega)
      (by
        by_cases h : X < -2100
        · exact .inr (.inl h)
        · refine .inr (.inr ⟨_, hX.1, hX.2, by omega, by omega, core_E hG.1 (by omega) hN.1 (by omega) (by omega) (by omega) (by rw [i0]; omega) (by rw [i0]; omega) (by rw [i0]; omega) (by rw [i0]; omega) hs (F32_lo hs) hX.1 hX.2 (by omega) (by omega) ?_⟩)
          rw [eX, i0]; simp only [Int.zero_mul])
      (by
        by_cases h : Y > 2200
        · exact .inr (.inl h)
        · refine .inr (.inr ⟨_, hY.1, hY.2, by omega, by omega, core_E hG.1 (by omega) hN.1 (by omega) (by omega) (by omega) (by rw [i0]; omega) (by rw [i0]; omega) (by rw [i0]; omega) (by rw [i0]; omega) hs (F32_hi hs) hY.1 hY.2 (by omega) (by omega) ?_⟩)
          rw [eY, i0]; simp only [Int.zero_mul])
    rw [key.1, key.2]
    constructor <;> (split <;> rfl)
end Go.Proofs.YtomcbkfnbagekaaGreat
