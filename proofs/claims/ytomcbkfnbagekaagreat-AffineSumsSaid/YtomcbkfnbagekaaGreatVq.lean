/- A part of the proof that the law of the statement is true of all inputs: VU1, VU2, VU3, VU4, VU5. -/
import Derived.Test.YtomcbkfnbagekaaGreatVp
/- Forms with one rest, what made, scale, add, subtract answer. -/
set_option linter.unusedVariables false
set_option linter.unusedSimpArgs false
set_option maxRecDepth 100000
namespace Go.Proofs.YtomcbkfnbagekaaGreat
open Go Go.Vm
theorem F100_1 {a b st z : Int} (a1 : -10000 ≤ a) (a2 : a ≤ 10000) (b1 : -100000 ≤ b) (b2 : b ≤ 100000) : F100 a a st b b z = (a * b, a * b, true) := by
  have e : F121 a b = (a * b, true) := F121_eq (by omega) (by omega) b1 b2
  have hb : -1000000000 ≤ a * b ∧ a * b ≤ 1000000000 := by
    by_cases h : 0 ≤ a
    · have h1 : a * b ≤ a * 100000 := Int.mul_le_mul_of_nonneg_left b2 h
      have h2 : a * (-100000) ≤ a * b := Int.mul_le_mul_of_nonneg_left b1 h
      omega
    · have h1 : a * b ≤ a * (-100000) := Int.mul_le_mul_of_nonpos_left (by omega) b1
      have h2 : a * 100000 ≤ a * b := Int.mul_le_mul_of_nonpos_left (by omega) b2
      omega
  unfold F100
  simp only [List.getD_cons_zero, List.getD_cons_succ, e, cond_true, if_true]
  generalize a * b = p at *
  have z1 : Int.ofNat 1099511627776 = 1099511627776 := rfl
  have y1 : Int.negSucc 1099511627775 = -1099511627776 := rfl
  simp only [z1, y1]
  have h1 : p < 1099511627776 := by omega
  have h2 : -1099511627776 < p := by omega
  simp [h1, h2]
theorem F82_1 {a b : Int} (a1 : -10000 ≤ a) (a2 : a ≤ 10000) (b1 : -100000 ≤ b) (b2 : b ≤ 100000) : F82 a a 0 b = (a * b, a * b, 0, 0) := by
  unfold F82
  rw [F100_1 a1 a2 b1 b2, F93_eq]
  simp
theorem F60_1 {a b : Int} (a1 : -10000 ≤ a) (a2 : a ≤ 10000) (b1 : -10000 ≤ b) (b2 : b ≤ 10000) : F60 a a 0 b b 0 = (a + b, a + b, 0, 0) := by
  have e1 : wr .i64 (a + b) = a + b := w_id (by omega) (by omega)
  unfold F60
  rw [e1, F83_eq (by omega) (by omega) (by omega) (by omega)]
  simp
theorem F122_1 {a b : Int} (a1 : -10000 ≤ a) (a2 : a ≤ 10000) (b1 : -10000 ≤ b) (b2 : b ≤ 10000) : F122z52 a a 0 b b 0 = (a - b, a - b, 0, 0) := by
  have e1 : wr .i64 (a - b) = a - b := w_id (by omega) (by omega)
  unfold F122z52 F122z52_r273 F122z52_r274
  rw [e1, F83_eq (by omega) (by omega) (by omega) (by omega)]
  simp
theorem P122_t (a b c d e f : Int) : P122z52 a b c d e f = true := by
  unfold P122z52 P122z52_r273 P122z52_r274
  simp only [P84b_t, P83_t, allB_nil, Bool.and_true]
theorem F74_y {I L Q a b c : Int} (i1 : -2000000000 ≤ I) (i2 : I ≤ 2000000000) (l1 : -2000000000 ≤ L) (l2 : L ≤ 2000000000) (q1 : -2000000000 ≤ Q) (q2 : Q ≤ 2000000000) : F74 false I L Q a b c = true := by
  unfold F74
  have h1 : (if Q < if L < I then L else I then Q else if L < I then L else I) ≥ Int.negSucc 2147483647 := by
    show (-2147483648 : Int) ≤ _
    split <;> split <;> omega
  have h2 : (if Q > if L > I then L else I then Q else if L > I then L else I) ≤ Int.ofNat 2147483648 := by
    show _ ≤ (2147483648 : Int)
    split <;> split <;> omega
  rw [if_pos (decide_eq_true h1)]
  exact decide_eq_true h2
theorem P74_t (x : Bool) (a b c d e f : Int) : P74 x a b c d e f = true := by
  unfold P74
  by_cases h : decide ((if c < if b < a then b else a then c else if b < a then b else a) ≥ Int.negSucc 2147483647) = true
  · rw [if_pos h]; rfl
  · rw [if_neg h]; rfl
theorem P75_t (a b c d e f : Int) (x : Bool) (g h i j k l m n o p : Int) : P75z9 a b c d e f x g h i j k l m n o p = true := by
  unfold P75z9; repeat' (split <;> try rfl)
theorem F75_eq {G N I L Q a b c d e f g k0 k1 k2 k3 : Int} {x : Bool} (g1 : 1 ≤ G) (g2 : G ≤ 16) (i1 : -1000000 ≤ I) (i2 : I ≤ 1000000) (l1 : -1000000 ≤ L) (l2 : L ≤ 1000000) (q1 : -1000000 ≤ Q) (q2 : Q ≤ 1000000) : F75z9 G a b c d N x I L Q e f g k0 k1 k2 k3 = can G N I L Q := by
  have hm1 : I * G ≤ 1000000 * G := Int.mul_le_mul_of_nonneg_right i2 (by omega)
  have hm2 : (-1000000) * G ≤ I * G := Int.mul_le_mul_of_nonneg_right i1 (by omega)
  have hl1 : (L + I) * G ≤ 2000000 * G := Int.mul_le_mul_of_nonneg_right (by omega) (by omega)
  have hl2 : (-2000000) * G ≤ (L + I) * G := Int.mul_le_mul_of_nonneg_right (by omega) (by omega)
  have e1 : wr .i64 (L + I) = L + I := w_id (by omega) (by omega)
  have e2 : wr .i64 (I * G) = I * G := w_id (by omega) (by omega)
  have e3 : wr .i64 (Q + I * G) = Q + I * G := w_id (by omega) (by omega)
  have e4 : wr .i64 ((L + I) * G) = (L + I) * G := w_id (by omega) (by omega)
  have z0 : Int.ofNat 0 = 0 := rfl
  have z1 : Int.ofNat 1 = 1 := rfl
  unfold F75z9
  rw [e1, e2, e3, e4, z0, z1]
  unfold can cL cQ
  by_cases hn : N = 1
  · by_cases hg : G = 1
    · simp [hn, hg]
    · have : ∀ a : Int, (a * G = 0) = (a = 0) := fun a => by rw [Int.mul_eq_zero]; simp; omega
      by_cases hz : L + I = 0
      · simp [hn, hg, hz]
      · have h3 : ¬ (L + I) * G = 0 := by rw [this]; exact hz
        have h4 : ¬ 0 = (L + I) * G := fun h => h3 h.symm
        simp [hn, hg, hz, h4]
  · by_cases hg : G = 1
    · simp [hn, hg]
    · by_cases hz : L + I = 0
      · simp [hn, hg, hz]
      · by_cases hq : Q + I * G = (L + I) * G
        · simp [hn, hg, hz, hq]
        · simp [hn, hg, hz, hq]
theorem P31_u (a b c d e f : Int) (x : Bool) (g h i j k l m n o p : Int) : P31z11 a b c d e f x g h i j k l m n o p = true := by
  unfold P31z11 P31z11_r43 P31z11_r44 P31z11_r45 P31z11_r46 P31z11_r47 P31z11_r48 P31z11_r49
  simp only [P58_t, P59_t, P60_t, allB_nil, Bool.true_and]
  repeat' (split <;> try rfl)
theorem Sp1 {c : Int} (h1 : -1000 ≤ c) (h2 : c ≤ 1000) : Sp c c 0 := ⟨h1, h2, Int.le_refl _, by omega, fun _ => rfl, fun h => by omega, by simp⟩
theorem F31_u {G N I L Q c a1 a2 a3 a4 k0 k1 k2 k3 : Int} (g1 : 1 ≤ G) (g2 : G ≤ 16) (n1 : 1 ≤ N) (n2 : N ≤ 8) (i1 : -100000 ≤ I) (i2 : I ≤ 100000) (l1 : -100000 ≤ L) (l2 : L ≤ 100000) (q1 : -100000 ≤ Q) (q2 : Q ≤ 100000) (c1 : -1000 ≤ c) (c2 : c ≤ 1000) :
    ∃ X Y Z, F31z11 G a1 a2 a3 a4 N false I L Q c c 0 k0 k1 k2 k3 = (X, Y, Z, true) ∧ -2147483648 ≤ X ∧ Y ≤ 2147483647 := by
  have m1 : N * G ≤ 8 * 16 := Int.mul_le_mul n2 g2 (by omega) (by omega)
  have m2 : 1 * 1 ≤ N * G := Int.mul_le_mul n1 g1 (by omega) (by omega)
  obtain ⟨ia, ib, ic, ie, i3, i4, i5, i6, i7, i8, i9, i10, i11⟩ := F59_s (k := I) (n := N * G) (by omega) (by omega) i1 i2
  obtain ⟨la, lb, lc, le, l3, l4, l5, l6, l7, l8, l9, l10, l11⟩ := F59_s (k := L) (n := G) g1 (by omega) l1 l2
  obtain ⟨qa, qb, qc, qe, q3, q4, q5, q6, q7, q8, q9, q10, q11⟩ := F59_s (k := Q) (n := N) n1 (by omega) q1 q2
  have ew : wr .i64 (N * G) = N * G := w_id (by omega) (by omega)
  obtain ⟨s1, e1, s1a, s1b, _⟩ := F60_s (a := c) (b := c) (c := 0) (d := ia) (e := ib) (f := ic) ⟨by omega, by omega⟩ ⟨by omega, by omega⟩ ⟨by omega, by omega⟩ ⟨by omega, by omega⟩ ⟨by omega, by omega⟩ ⟨by omega, by omega⟩
  obtain ⟨s2, e2, s2a, s2b, _⟩ := F60_s (a := c + ia) (b := c + ib) (c := s1) (d := la) (e := lb) (f := lc) ⟨by omega, by omega⟩ ⟨by omega, by omega⟩ ⟨by omega, by omega⟩ ⟨by omega, by omega⟩ ⟨by omega, by omega⟩ ⟨by omega, by omega⟩
  obtain ⟨s3, e3, s3a, s3b, _⟩ := F60_s (a := c + ia + la) (b := c + ib + lb) (c := s2) (d := qa) (e := qb) (f := qc) ⟨by omega, by omega⟩ ⟨by omega, by omega⟩ ⟨by omega, by omega⟩ ⟨by omega, by omega⟩ ⟨by omega, by omega⟩ ⟨by omega, by omega⟩
  refine ⟨c + ia + la + qa, c + ib + lb + qb, s3, ?_, by omega, by omega⟩
  unfold F31z11 F31z11_r43 F31z11_r44 F31z11_r45 F31z11_r46 F31z11_r47 F31z11_r48 F31z11_r49
  simp only [F58_y (Sp1 c1 c2), ew, ie, le, qe, e1, e2, e3]
  rfl
theorem P41_u (a b c d e f : Int) (x : Bool) (g h i j k l m n o p : Int) : P41z10 a b c d e f x g h i j k l m n o p = true := by
  unfold P41z10 P41z10_r51 P41z10_r52 P41z10_r53
  simp only [P31_u, P74_t, P75_t, show P44 = true from rfl, allB_nil, allB_cons, Bool.true_and, Bool.and_true]
  repeat' (split <;> try rfl)
theorem F41_u {G N I L Q c a1 a2 a3 a4 k0 k1 k2 k3 : Int} (g1 : 1 ≤ G) (g2 : G ≤ 16) (n1 : 1 ≤ N) (n2 : N ≤ 8) (i1 : -5000 ≤ I) (i2 : I ≤ 5000) (l1 : -5000 ≤ L) (l2 : L ≤ 5000) (q1 : -5000 ≤ Q) (q2 : Q ≤ 5000) (c1 : -1000 ≤ c) (c2 : c ≤ 1000) :
    F41z10 G a1 a2 a3 a4 N false (can G N I L Q).1 (can G N I L Q).2.1 (can G N I L Q).2.2 c c 0 k0 k1 k2 k3 = true := by
  obtain ⟨⟨b1, b2⟩, ⟨b3, b4⟩, b5, b6⟩ := can_bd (N := N) (B := 5000) g1 g2 (by omega) i1 i2 l1 l2 q1 q2
  obtain ⟨X, Y, Z, e, h1, h2⟩ := F31_u (a1 := a1) (a2 := a2) (a3 := a3) (a4 := a4) (k0 := k0) (k1 := k1) (k2 := k2) (k3 := k3) g1 g2 n1 n2 (by omega : -100000 ≤ (can G N I L Q).1) (by omega) (by omega : -100000 ≤ (can G N I L Q).2.1) (by omega) (by omega : -100000 ≤ (can G N I L Q).2.2) (by omega) c1 c2
  unfold F41z10 F41z10_r51 F41z10_r52 F41z10_r53
  rw [F74_y (by omega) (by omega) (by omega) (by omega) (by omega) (by omega), F75_eq g1 g2 (by omega) (by omega) (by omega) (by omega) (by omega) (by omega), can_can g1, e]
  simp
  exact ⟨h1, h2⟩
def Fm (G N A B C c : Int) : Bool × Int × Int × Int × Int × Int × Int := (false, (can G N A B C).1, (can G N A B C).2.1, (can G N A B C).2.2, c, c, 0)
theorem P87_u (a b c d e f : Int) (x : Bool) (g h i j k l m n o p q : Int) : P87z8 a b c d e f x g h i j k l m n o p q = true := by
  unfold P87z8 P87z8_r56 P87z8_r58 P87z8_r59
  simp only [P41_u, P74_t, P75_t, show P44 = true from rfl, allB_nil, allB_cons, Bool.true_and, Bool.and_true]
  repeat' (split <;> try rfl)
theorem F87_u {G N I L Q c a1 a2 a3 a4 k0 k1 k2 k3 : Int} (g1 : 1 ≤ G) (g2 : G ≤ 16) (n1 : 1 ≤ N) (n2 : N ≤ 8) (i1 : -5000 ≤ I) (i2 : I ≤ 5000) (l1 : -5000 ≤ L) (l2 : L ≤ 5000) (q1 : -5000 ≤ Q) (q2 : Q ≤ 5000) (c1 : -1000 ≤ c) (c2 : c ≤ 1000) :
    F87z8 G a1 a2 a3 a4 N false I L Q c c 0 0 k0 k1 k2 k3 = Fm G N I L Q c := by
  unfold F87z8 F87z8_r56 F87z8_r58 F87z8_r59
  rw [F74_y (by omega) (by omega) (by omega) (by omega) (by omega) (by omega), F75_eq g1 g2 (by omega) (by omega) (by omega) (by omega) (by omega) (by omega), F41_u g1 g2 n1 n2 i1 i2 l1 l2 q1 q2 c1 c2]
  rfl
theorem P101_u (a b c d e f : Int) (x : Bool) (g h i j k l m n o p q : Int) : P101z33 a b c d e f x g h i j k l m n o p q = true := by
  unfold P101z33 P101z33_r139 P101z33_r140
  simp only [P82_t, P87_u, show P44 = true from rfl, allB_nil, allB_cons, Bool.true_and, Bool.and_true]
  repeat' (split <;> try rfl)
theorem F101_u {G N A B C c k a1 a2 a3 a4 k0 k1 k2 k3 i l q : Int} (hi : i = (can G N A B C).1) (hl : l = (can G N A B C).2.1) (hq : q = (can G N A B C).2.2) (g1 : 1 ≤ G) (g2 : G ≤ 16) (n1 : 1 ≤ N) (n2 : N ≤ 8) (i1 : -17 ≤ i) (i2 : i ≤ 17) (l1 : -17 ≤ l) (l2 : l ≤ 17) (q1 : -17 ≤ q) (q2 : q ≤ 17) (k1' : -128 ≤ k) (k2' : k ≤ 128) (c1 : -128 ≤ c) (c2 : c ≤ 128) (hc : -1000 ≤ c * k ∧ c * k ≤ 1000) :
    F101z33 G a1 a2 a3 a4 N false i l q c c 0 k k0 k1 k2 k3 = Fm G N (A * k) (B * k) (C * k) (c * k) := by
  have bi : -2176 ≤ i * k ∧ i * k ≤ 2176 := by
    rcases Int.le_total 0 k with h | h
    · have h1 : i * k ≤ 17 * k := Int.mul_le_mul_of_nonneg_right i2 h
      have h2 : (-17) * k ≤ i * k := Int.mul_le_mul_of_nonneg_right i1 h
      omega
    · have h1 : 17 * k ≤ i * k := Int.mul_le_mul_of_nonpos_right i2 h
      have h2 : i * k ≤ (-17) * k := Int.mul_le_mul_of_nonpos_right i1 h
      omega
  have bl : -2176 ≤ l * k ∧ l * k ≤ 2176 := by
    rcases Int.le_total 0 k with h | h
    · have h1 : l * k ≤ 17 * k := Int.mul_le_mul_of_nonneg_right l2 h
      have h2 : (-17) * k ≤ l * k := Int.mul_le_mul_of_nonneg_right l1 h
      omega
    · have h1 : 17 * k ≤ l * k := Int.mul_le_mul_of_nonpos_right l2 h
      have h2 : l * k ≤ (-17) * k := Int.mul_le_mul_of_nonpos_right l1 h
      omega
  have bq : -2176 ≤ q * k ∧ q * k ≤ 2176 := by
    rcases Int.le_total 0 k with h | h
    · have h1 : q * k ≤ 17 * k := Int.mul_le_mul_of_nonneg_right q2 h
      have h2 : (-17) * k ≤ q * k := Int.mul_le_mul_of_nonneg_right q1 h
      omega
    · have h1 : 17 * k ≤ q * k := Int.mul_le_mul_of_nonpos_right q2 h
      have h2 : q * k ≤ (-17) * k := Int.mul_le_mul_of_nonpos_right q1 h
      omega
  have n1' : ¬ (decide (k < Int.negSucc 2147483647) = true) := fun h => by have : k < (-2147483648 : Int) := of_decide_eq_true h; omega
  have n2' : ¬ (decide (k > Int.ofNat 2147483648) = true) := fun h => by have : k > (2147483648 : Int) := of_decide_eq_true h; omega
  unfold F101z33 F101z33_r139 F101z33_r140
  rw [if_neg (by decide), if_neg n1', if_neg n2', F82_1 (by omega) (by omega) (by omega) (by omega), w_id (by omega : _ ≤ i * k) (by omega), w_id (by omega : _ ≤ l * k) (by omega), w_id (by omega : _ ≤ q * k) (by omega)]
  simp only []
  rw [F87_u g1 g2 n1 n2 (by omega) (by omega) (by omega) (by omega) (by omega) (by omega) hc.1 hc.2]
  unfold Fm
  rw [hi, hl, hq, can_mul g1]
theorem P104_u (a b c d e f : Int) (x : Bool) (g h i j k l : Int) (y : Bool) (m n o p q r s t u v : Int) : P104z45 a b c d e f x g h i j k l y m n o p q r s t u v = true := by
  unfold P104z45 P104z45_r222 P104z45_r223
  simp only [P60_t, P87_u, show P44 = true from rfl, allB_nil, allB_cons, Bool.true_and, Bool.and_true]
  repeat' (split <;> try rfl)
theorem P102_u (a b c d e f : Int) (x : Bool) (g h i j k l : Int) (y : Bool) (m n o p q r s t u v : Int) : P102z51 a b c d e f x g h i j k l y m n o p q r s t u v = true := by
  unfold P102z51 P102z51_r277 P102z51_r278
  simp only [P122_t, P87_u, show P44 = true from rfl, allB_nil, allB_cons, Bool.true_and, Bool.and_true]
  repeat' (split <;> try rfl)
end Go.Proofs.YtomcbkfnbagekaaGreat
/- Every call of the sums' law comes to an end: the printed conditions are true. -/
set_option linter.unusedVariables false
set_option linter.unusedSimpArgs false
set_option maxRecDepth 100000
namespace Go.Proofs.YtomcbkfnbagekaaGreat
open Go Go.Vm
theorem P43_t (a : Int) : P43 a = true := rfl
theorem P44_t : P44 = true := rfl
theorem P14_t (a : Int) : P14 a = true := rfl
theorem P15_t (a : Int) : P15 a = true := rfl
theorem P12_t (a b : Int) : P12 a b = true := rfl
theorem P13_t (a b c d e f g h : Int) : P13 a b c d e f g h = true := rfl
theorem P88_t (a b c : Int) : P88 a b c = true := by unfold P88; split <;> rfl
theorem P64_t (a b c d e f g h i j k l m n o : Int) : P64 a b c d e f g h i j k l m n o = true := by
  unfold P64; simp only [P88_t, allB_cons, allB_nil, Bool.and_true]; repeat' (split <;> try rfl)
theorem PL84_2u (a b c : Int) : ∀ (n : Nat) (x y : Int), x.natAbs < n → PL84z35_2 a b c n x y = true
  | 0, x, y, h => by omega
  | n + 1, x, y, h => by
    show PS84z35_2 a b c (PL84z35_2 a b c n) x y = true
    unfold PS84z35_2
    split
    · rename_i ha
      have ha : x ≠ 0 := by simpa using ha
      have := tmod_lt (b := y) ha
      simp only [allB_cons, allB_nil, PL84_2u a b c n _ _ (by omega : (y.tmod x).natAbs < n)]
      simpa using ha
    · rfl
theorem PL84_1u (a b c : Int) : ∀ (n : Nat) (x y : Int), x.natAbs < n → PL84z35_1 a b c n x y = true
  | 0, x, y, h => by omega
  | n + 1, x, y, h => by
    show PS84z35_1 a b c (PL84z35_1 a b c n) x y = true
    unfold PS84z35_1
    split
    · rename_i ha
      have ha : x ≠ 0 := by simpa using ha
      have := tmod_lt (b := y) ha
      simp only [allB_cons, allB_nil, PL84_1u a b c n _ _ (by omega : (y.tmod x).natAbs < n)]
      simpa using ha
    · simp only [allB_cons, allB_nil, PL84_2u a b c _ _ _ (Nat.lt_succ_self _), Bool.and_true]
theorem PL84_0u (a b c : Int) : ∀ (n : Nat) (x y : Int), x.natAbs < n → PL84z35_0 a b c n x y = true
  | 0, x, y, h => by omega
  | n + 1, x, y, h => by
    show PS84z35_0 a b c (PL84z35_0 a b c n) x y = true
    unfold PS84z35_0
    split
    · rename_i ha
      have ha : x ≠ 0 := by simpa using ha
      have := tmod_lt (b := y) ha
      simp only [allB_cons, allB_nil, PL84_0u a b c n _ _ (by omega : (y.tmod x).natAbs < n)]
      simpa using ha
    · simp only [allB_cons, allB_nil, PL84_1u a b c _ _ _ (Nat.lt_succ_self _), Bool.and_true]
theorem P84z35_u (a b c : Int) : P84z35 a b c = true := by unfold P84z35; simp only [PL84_0u a b c _ _ _ (Nat.lt_succ_self _), allB_cons, allB_nil, Bool.and_true]
theorem P34z1_u (x0 x1 x2 x3 x4 x5 : Int) : P34z1 x0 x1 x2 x3 x4 x5 = true := by
  unfold P34z1
  simp only [P64_t, P43_t, P44_t, P14_t, P15_t, P12_t, P13_t, P88_t, P11_t, P24_t, P26_t, P27_t, P29_t, P55_t, P56_t, P57_t, P58_t, P59_t, P60_t, P70_t, P74_t, P80_t, P81_t, P82_t, P83_t, P84a_t, P84b_t, P93_t, P98_t, P99_t, P100_t, P118_t, P121_t, P128_t, allB_nil, allB_cons, Bool.true_and, Bool.and_true, Bool.and_self]
  repeat' (split <;> try rfl)
theorem P61z3_u  : P61z3  = true := by
  unfold P61z3
  simp only [P64_t, P43_t, P44_t, P14_t, P15_t, P12_t, P13_t, P88_t, P11_t, P24_t, P26_t, P27_t, P29_t, P55_t, P56_t, P57_t, P58_t, P59_t, P60_t, P70_t, P74_t, P80_t, P81_t, P82_t, P83_t, P84a_t, P84b_t, P93_t, P98_t, P99_t, P100_t, P118_t, P121_t, P128_t, P34z1_u, allB_nil, allB_cons, Bool.true_and, Bool.and_true, Bool.and_self]
  repeat' (split <;> try rfl)
theorem P33z2_u (x0 x1 x2 x3 x4 x5 : Int) : P33z2 x0 x1 x2 x3 x4 x5 = true := by
  unfold P33z2
  simp only [P64_t, P43_t, P44_t, P14_t, P15_t, P12_t, P13_t, P88_t, P11_t, P24_t, P26_t, P27_t, P29_t, P55_t, P56_t, P57_t, P58_t, P59_t, P60_t, P70_t, P74_t, P80_t, P81_t, P82_t, P83_t, P84a_t, P84b_t, P93_t, P98_t, P99_t, P100_t, P118_t, P121_t, P128_t, P34z1_u, P61z3_u, allB_nil, allB_cons, Bool.true_and, Bool.and_true, Bool.and_self]
  repeat' (split <;> try rfl)
theorem P45z6_u  : P45z6  = true := by
  unfold P45z6
  simp only [P64_t, P43_t, P44_t, P14_t, P15_t, P12_t, P13_t, P88_t, P11_t, P24_t, P26_t, P27_t, P29_t, P55_t, P56_t, P57_t, P58_t, P59_t, P60_t, P70_t, P74_t, P80_t, P81_t, P82_t, P83_t, P84a_t, P84b_t, P93_t, P98_t, P99_t, P100_t, P118_t, P121_t, P128_t, P34z1_u, P61z3_u, P33z2_u, allB_nil, allB_cons, Bool.true_and, Bool.and_true, Bool.and_self]
  repeat' (split <;> try rfl)
theorem P75z9_u (x0 x1 x2 x3 x4 x5 : Int) (x6 : Bool) (x7 x8 x9 x10 x11 x12 x13 x14 x15 x16 : Int) : P75z9 x0 x1 x2 x3 x4 x5 x6 x7 x8 x9 x10 x11 x12 x13 x14 x15 x16 = true := by
  unfold P75z9
  simp only [P64_t, P43_t, P44_t, P14_t, P15_t, P12_t, P13_t, P88_t, P11_t, P24_t, P26_t, P27_t, P29_t, P55_t, P56_t, P57_t, P58_t, P59_t, P60_t, P70_t, P74_t, P80_t, P81_t, P82_t, P83_t, P84a_t, P84b_t, P93_t, P98_t, P99_t, P100_t, P118_t, P121_t, P128_t, P34z1_u, P61z3_u, P33z2_u, P45z6_u, allB_nil, allB_cons, Bool.true_and, Bool.and_true, Bool.and_self]
  repeat' (split <;> try rfl)
theorem P31z11_u (x0 x1 x2 x3 x4 x5 : Int) (x6 : Bool) (x7 x8 x9 x10 x11 x12 x13 x14 x15 x16 : Int) : P31z11 x0 x1 x2 x3 x4 x5 x6 x7 x8 x9 x10 x11 x12 x13 x14 x15 x16 = true := by
  unfold P31z11 P31z11_r43 P31z11_r44 P31z11_r45 P31z11_r46 P31z11_r47 P31z11_r48 P31z11_r49
  simp only [P64_t, P43_t, P44_t, P14_t, P15_t, P12_t, P13_t, P88_t, P11_t, P24_t, P26_t, P27_t, P29_t, P55_t, P56_t, P57_t, P58_t, P59_t, P60_t, P70_t, P74_t, P80_t, P81_t, P82_t, P83_t, P84a_t, P84b_t, P93_t, P98_t, P99_t, P100_t, P118_t, P121_t, P128_t, P34z1_u, P61z3_u, P33z2_u, P45z6_u, P75z9_u, allB_nil, allB_cons, Bool.true_and, Bool.and_true, Bool.and_self]
  repeat' (split <;> try rfl)
theorem P41z10_u (x0 x1 x2 x3 x4 x5 : Int) (x6 : Bool) (x7 x8 x9 x10 x11 x12 x13 x14 x15 x16 : Int) : P41z10 x0 x1 x2 x3 x4 x5 x6 x7 x8 x9 x10 x11 x12 x13 x14 x15 x16 = true := by
  unfold P41z10 P41z10_r51 P41z10_r52 P41z10_r53
  simp only [P64_t, P43_t, P44_t, P14_t, P15_t, P12_t, P13_t, P88_t, P11_t, P24_t, P26_t, P27_t, P29_t, P55_t, P56_t, P57_t, P58_t, P59_t, P60_t, P70_t, P74_t, P80_t, P81_t, P82_t, P83_t, P84a_t, P84b_t, P93_t, P98_t, P99_t, P100_t, P118_t, P121_t, P128_t, P34z1_u, P61z3_u, P33z2_u, P45z6_u, P75z9_u, P31z11_u, allB_nil, allB_cons, Bool.true_and, Bool.and_true, Bool.and_self]
  repeat' (split <;> try rfl)
theorem P87z8_u (x0 x1 x2 x3 x4 x5 : Int) (x6 : Bool) (x7 x8 x9 x10 x11 x12 x13 x14 x15 x16 x17 : Int) : P87z8 x0 x1 x2 x3 x4 x5 x6 x7 x8 x9 x10 x11 x12 x13 x14 x15 x16 x17 = true := by
  unfold P87z8 P87z8_r56 P87z8_r58 P87z8_r59
  simp only [P64_t, P43_t, P44_t, P14_t, P15_t, P12_t, P13_t, P88_t, P11_t, P24_t, P26_t, P27_t, P29_t, P55_t, P56_t, P57_t, P58_t, P59_t, P60_t, P70_t, P74_t, P80_t, P81_t, P82_t, P83_t, P84a_t, P84b_t, P93_t, P98_t, P99_t, P100_t, P118_t, P121_t, P128_t, P34z1_u, P61z3_u, P33z2_u, P45z6_u, P75z9_u, P31z11_u, P41z10_u, allB_nil, allB_cons, Bool.true_and, Bool.and_true, Bool.and_self]
  repeat' (split <;> try rfl)
theorem P89z7_u (x0 x1 x2 x3 x4 x5 : Int) : P89z7 x0 x1 x2 x3 x4 x5 = true := by
  unfold P89z7 P89z7_r61
  simp only [P64_t, P43_t, P44_t, P14_t, P15_t, P12_t, P13_t, P88_t, P11_t, P24_t, P26_t, P27_t, P29_t, P55_t, P56_t, P57_t, P58_t, P59_t, P60_t, P70_t, P74_t, P80_t, P81_t, P82_t, P83_t, P84a_t, P84b_t, P93_t, P98_t, P99_t, P100_t, P118_t, P121_t, P128_t, P34z1_u, P61z3_u, P33z2_u, P45z6_u, P75z9_u, P31z11_u, P41z10_u, P87z8_u, allB_nil, allB_cons, Bool.true_and, Bool.and_true, Bool.and_self]
  repeat' (split <;> try rfl)
theorem P65z5_u (x0 x1 x2 x3 x4 x5 : Int) : P65z5 x0 x1 x2 x3 x4 x5 = true := by
  unfold P65z5 P65z5_r64
  simp only [P64_t, P43_t, P44_t, P14_t, P15_t, P12_t, P13_t, P88_t, P11_t, P24_t, P26_t, P27_t, P29_t, P55_t, P56_t, P57_t, P58_t, P59_t, P60_t, P70_t, P74_t, P80_t, P81_t, P82_t, P83_t, P84a_t, P84b_t, P93_t, P98_t, P99_t, P100_t, P118_t, P121_t, P128_t, P34z1_u, P61z3_u, P33z2_u, P45z6_u, P75z9_u, P31z11_u, P41z10_u, P87z8_u, P89z7_u, allB_nil, allB_cons, Bool.true_and, Bool.and_true, Bool.and_self]
  repeat' (split <;> try rfl)
theorem P45z13_u (x0 : Bool) (x1 x2 x3 x4 x5 x6 : Int) : P45z13 x0 x1 x2 x3 x4 x5 x6 = true := by
  unfold P45z13
  simp only [P64_t, P43_t, P44_t, P14_t, P15_t, P12_t, P13_t, P88_t, P11_t, P24_t, P26_t, P27_t, P29_t, P55_t, P56_t, P57_t, P58_t, P59_t, P60_t, P70_t, P74_t, P80_t, P81_t, P82_t, P83_t, P84a_t, P84b_t, P93_t, P98_t, P99_t, P100_t, P118_t, P121_t, P128_t, P34z1_u, P61z3_u, P33z2_u, P45z6_u, P75z9_u, P31z11_u, P41z10_u, P87z8_u, P89z7_u, P65z5_u, allB_nil, allB_cons, Bool.true_and, Bool.and_true, Bool.and_self]
  repeat' (split <;> try rfl)
theorem P89z14_u (x0 x1 x2 x3 x4 x5 : Int) : P89z14 x0 x1 x2 x3 x4 x5 = true := by
  unfold P89z14 P89z14_r72
  simp only [P64_t, P43_t, P44_t, P14_t, P15_t, P12_t, P13_t, P88_t, P11_t, P24_t, P26_t, P27_t, P29_t, P55_t, P56_t, P57_t, P58_t, P59_t, P60_t, P70_t, P74_t, P80_t, P81_t, P82_t, P83_t, P84a_t, P84b_t, P93_t, P98_t, P99_t, P100_t, P118_t, P121_t, P128_t, P34z1_u, P61z3_u, P33z2_u, P45z6_u, P75z9_u, P31z11_u, P41z10_u, P87z8_u, P89z7_u, P65z5_u, P45z13_u, allB_nil, allB_cons, Bool.true_and, Bool.and_true, Bool.and_self]
  repeat' (split <;> try rfl)
theorem P65z12_u (x0 x1 : Int) (x2 : Bool) (x3 x4 x5 x6 x7 x8 x9 x10 x11 x12 : Int) : P65z12 x0 x1 x2 x3 x4 x5 x6 x7 x8 x9 x10 x11 x12 = true := by
  unfold P65z12 P65z12_r75
  simp only [P64_t, P43_t, P44_t, P14_t, P15_t, P12_t, P13_t, P88_t, P11_t, P24_t, P26_t, P27_t, P29_t, P55_t, P56_t, P57_t, P58_t, P59_t, P60_t, P70_t, P74_t, P80_t, P81_t, P82_t, P83_t, P84a_t, P84b_t, P93_t, P98_t, P99_t, P100_t, P118_t, P121_t, P128_t, P34z1_u, P61z3_u, P33z2_u, P45z6_u, P75z9_u, P31z11_u, P41z10_u, P87z8_u, P89z7_u, P65z5_u, P45z13_u, P89z14_u, allB_nil, allB_cons, Bool.true_and, Bool.and_true, Bool.and_self]
  repeat' (split <;> try rfl)
theorem P45z16_u (x0 : Bool) (x1 x2 x3 x4 x5 x6 : Int) (x7 : Bool) (x8 x9 x10 x11 x12 x13 : Int) : P45z16 x0 x1 x2 x3 x4 x5 x6 x7 x8 x9 x10 x11 x12 x13 = true := by
  unfold P45z16
  simp only [P64_t, P43_t, P44_t, P14_t, P15_t, P12_t, P13_t, P88_t, P11_t, P24_t, P26_t, P27_t, P29_t, P55_t, P56_t, P57_t, P58_t, P59_t, P60_t, P70_t, P74_t, P80_t, P81_t, P82_t, P83_t, P84a_t, P84b_t, P93_t, P98_t, P99_t, P100_t, P118_t, P121_t, P128_t, P34z1_u, P61z3_u, P33z2_u, P45z6_u, P75z9_u, P31z11_u, P41z10_u, P87z8_u, P89z7_u, P65z5_u, P45z13_u, P89z14_u, P65z12_u, allB_nil, allB_cons, Bool.true_and, Bool.and_true, Bool.and_self]
  repeat' (split <;> try rfl)
theorem P89z17_u (x0 x1 x2 x3 x4 x5 : Int) : P89z17 x0 x1 x2 x3 x4 x5 = true := by
  unfold P89z17 P89z17_r85
  simp only [P64_t, P43_t, P44_t, P14_t, P15_t, P12_t, P13_t, P88_t, P11_t, P24_t, P26_t, P27_t, P29_t, P55_t, P56_t, P57_t, P58_t, P59_t, P60_t, P70_t, P74_t, P80_t, P81_t, P82_t, P83_t, P84a_t, P84b_t, P93_t, P98_t, P99_t, P100_t, P118_t, P121_t, P128_t, P34z1_u, P61z3_u, P33z2_u, P45z6_u, P75z9_u, P31z11_u, P41z10_u, P87z8_u, P89z7_u, P65z5_u, P45z13_u, P89z14_u, P65z12_u, P45z16_u, allB_nil, allB_cons, Bool.true_and, Bool.and_true, Bool.and_self]
  repeat' (split <;> try rfl)
theorem P65z15_u (x0 x1 : Int) (x2 : Bool) (x3 x4 x5 x6 x7 x8 : Int) (x9 : Bool) (x10 x11 x12 x13 x14 x15 x16 x17 x18 x19 : Int) : P65z15 x0 x1 x2 x3 x4 x5 x6 x7 x8 x9 x10 x11 x12 x13 x14 x15 x16 x17 x18 x19 = true := by
  unfold P65z15 P65z15_r88
  simp only [P64_t, P43_t, P44_t, P14_t, P15_t, P12_t, P13_t, P88_t, P11_t, P24_t, P26_t, P27_t, P29_t, P55_t, P56_t, P57_t, P58_t, P59_t, P60_t, P70_t, P74_t, P80_t, P81_t, P82_t, P83_t, P84a_t, P84b_t, P93_t, P98_t, P99_t, P100_t, P118_t, P121_t, P128_t, P34z1_u, P61z3_u, P33z2_u, P45z6_u, P75z9_u, P31z11_u, P41z10_u, P87z8_u, P89z7_u, P65z5_u, P45z13_u, P89z14_u, P65z12_u, P45z16_u, P89z17_u, allB_nil, allB_cons, Bool.true_and, Bool.and_true, Bool.and_self]
  repeat' (split <;> try rfl)
theorem P45z19_u (x0 : Int) (x1 : Bool) (x2 x3 x4 x5 x6 x7 : Int) (x8 : Bool) (x9 x10 x11 x12 x13 x14 : Int) (x15 : Bool) (x16 x17 x18 x19 x20 x21 : Int) : P45z19 x0 x1 x2 x3 x4 x5 x6 x7 x8 x9 x10 x11 x12 x13 x14 x15 x16 x17 x18 x19 x20 x21 = true := by
  unfold P45z19 P45z19_r97
  simp only [P64_t, P43_t, P44_t, P14_t, P15_t, P12_t, P13_t, P88_t, P11_t, P24_t, P26_t, P27_t, P29_t, P55_t, P56_t, P57_t, P58_t, P59_t, P60_t, P70_t, P74_t, P80_t, P81_t, P82_t, P83_t, P84a_t, P84b_t, P93_t, P98_t, P99_t, P100_t, P118_t, P121_t, P128_t, P34z1_u, P61z3_u, P33z2_u, P45z6_u, P75z9_u, P31z11_u, P41z10_u, P87z8_u, P89z7_u, P65z5_u, P45z13_u, P89z14_u, P65z12_u, P45z16_u, P89z17_u, P65z15_u, allB_nil, allB_cons, Bool.true_and, Bool.and_true, Bool.and_self]
  repeat' (split <;> try rfl)
theorem P45z20_u (x0 : Bool) (x1 x2 x3 x4 x5 x6 : Int) (x7 : Bool) (x8 x9 x10 x11 x12 x13 : Int) (x14 : Bool) (x15 x16 x17 x18 x19 x20 : Int) : P45z20 x0 x1 x2 x3 x4 x5 x6 x7 x8 x9 x10 x11 x12 x13 x14 x15 x16 x17 x18 x19 x20 = true := by
  unfold P45z20
  simp only [P64_t, P43_t, P44_t, P14_t, P15_t, P12_t, P13_t, P88_t, P11_t, P24_t, P26_t, P27_t, P29_t, P55_t, P56_t, P57_t, P58_t, P59_t, P60_t, P70_t, P74_t, P80_t, P81_t, P82_t, P83_t, P84a_t, P84b_t, P93_t, P98_t, P99_t, P100_t, P118_t, P121_t, P128_t, P34z1_u, P61z3_u, P33z2_u, P45z6_u, P75z9_u, P31z11_u, P41z10_u, P87z8_u, P89z7_u, P65z5_u, P45z13_u, P89z14_u, P65z12_u, P45z16_u, P89z17_u, P65z15_u, P45z19_u, allB_nil, allB_cons, Bool.true_and, Bool.and_true, Bool.and_self]
  repeat' (split <;> try rfl)
theorem P108z22_u  : P108z22  = true := by
  unfold P108z22
  simp only [P64_t, P43_t, P44_t, P14_t, P15_t, P12_t, P13_t, P88_t, P11_t, P24_t, P26_t, P27_t, P29_t, P55_t, P56_t, P57_t, P58_t, P59_t, P60_t, P70_t, P74_t, P80_t, P81_t, P82_t, P83_t, P84a_t, P84b_t, P93_t, P98_t, P99_t, P100_t, P118_t, P121_t, P128_t, P34z1_u, P61z3_u, P33z2_u, P45z6_u, P75z9_u, P31z11_u, P41z10_u, P87z8_u, P89z7_u, P65z5_u, P45z13_u, P89z14_u, P65z12_u, P45z16_u, P89z17_u, P65z15_u, P45z19_u, P45z20_u, allB_nil, allB_cons, Bool.true_and, Bool.and_true, Bool.and_self]
  repeat' (split <;> try rfl)
theorem P108z23_u  : P108z23  = true := by
  unfold P108z23
  simp only [P64_t, P43_t, P44_t, P14_t, P15_t, P12_t, P13_t, P88_t, P11_t, P24_t, P26_t, P27_t, P29_t, P55_t, P56_t, P57_t, P58_t, P59_t, P60_t, P70_t, P74_t, P80_t, P81_t, P82_t, P83_t, P84a_t, P84b_t, P93_t, P98_t, P99_t, P100_t, P118_t, P121_t, P128_t, P34z1_u, P61z3_u, P33z2_u, P45z6_u, P75z9_u, P31z11_u, P41z10_u, P87z8_u, P89z7_u, P65z5_u, P45z13_u, P89z14_u, P65z12_u, P45z16_u, P89z17_u, P65z15_u, P45z19_u, P45z20_u, P108z22_u, allB_nil, allB_cons, Bool.true_and, Bool.and_true, Bool.and_self]
  repeat' (split <;> try rfl)
theorem P108z24_u  : P108z24  = true := by
  unfold P108z24
  simp only [P64_t, P43_t, P44_t, P14_t, P15_t, P12_t, P13_t, P88_t, P11_t, P24_t, P26_t, P27_t, P29_t, P55_t, P56_t, P57_t, P58_t, P59_t, P60_t, P70_t, P74_t, P80_t, P81_t, P82_t, P83_t, P84a_t, P84b_t, P93_t, P98_t, P99_t, P100_t, P118_t, P121_t, P128_t, P34z1_u, P61z3_u, P33z2_u, P45z6_u, P75z9_u, P31z11_u, P41z10_u, P87z8_u, P89z7_u, P65z5_u, P45z13_u, P89z14_u, P65z12_u, P45z16_u, P89z17_u, P65z15_u, P45z19_u, P45z20_u, P108z22_u, P108z23_u, allB_nil, allB_cons, Bool.true_and, Bool.and_true, Bool.and_self]
  repeat' (split <;> try rfl)
theorem P108z25_u  : P108z25  = true := by
  unfold P108z25
  simp only [P64_t, P43_t, P44_t, P14_t, P15_t, P12_t, P13_t, P88_t, P11_t, P24_t, P26_t, P27_t, P29_t, P55_t, P56_t, P57_t, P58_t, P59_t, P60_t, P70_t, P74_t, P80_t, P81_t, P82_t, P83_t, P84a_t, P84b_t, P93_t, P98_t, P99_t, P100_t, P118_t, P121_t, P128_t, P34z1_u, P61z3_u, P33z2_u, P45z6_u, P75z9_u, P31z11_u, P41z10_u, P87z8_u, P89z7_u, P65z5_u, P45z13_u, P89z14_u, P65z12_u, P45z16_u, P89z17_u, P65z15_u, P45z19_u, P45z20_u, P108z22_u, P108z23_u, P108z24_u, allB_nil, allB_cons, Bool.true_and, Bool.and_true, Bool.and_self]
  repeat' (split <;> try rfl)
theorem P113z26_u  : P113z26  = true := by
  unfold P113z26
  simp only [P64_t, P43_t, P44_t, P14_t, P15_t, P12_t, P13_t, P88_t, P11_t, P24_t, P26_t, P27_t, P29_t, P55_t, P56_t, P57_t, P58_t, P59_t, P60_t, P70_t, P74_t, P80_t, P81_t, P82_t, P83_t, P84a_t, P84b_t, P93_t, P98_t, P99_t, P100_t, P118_t, P121_t, P128_t, P34z1_u, P61z3_u, P33z2_u, P45z6_u, P75z9_u, P31z11_u, P41z10_u, P87z8_u, P89z7_u, P65z5_u, P45z13_u, P89z14_u, P65z12_u, P45z16_u, P89z17_u, P65z15_u, P45z19_u, P45z20_u, P108z22_u, P108z23_u, P108z24_u, P108z25_u, allB_nil, allB_cons, Bool.true_and, Bool.and_true, Bool.and_self]
  repeat' (split <;> try rfl)
theorem P113z27_u  : P113z27  = true := by
  unfold P113z27
  simp only [P64_t, P43_t, P44_t, P14_t, P15_t, P12_t, P13_t, P88_t, P11_t, P24_t, P26_t, P27_t, P29_t, P55_t, P56_t, P57_t, P58_t, P59_t, P60_t, P70_t, P74_t, P80_t, P81_t, P82_t, P83_t, P84a_t, P84b_t, P93_t, P98_t, P99_t, P100_t, P118_t, P121_t, P128_t, P34z1_u, P61z3_u, P33z2_u, P45z6_u, P75z9_u, P31z11_u, P41z10_u, P87z8_u, P89z7_u, P65z5_u, P45z13_u, P89z14_u, P65z12_u, P45z16_u, P89z17_u, P65z15_u, P45z19_u, P45z20_u, P108z22_u, P108z23_u, P108z24_u, P108z25_u, P113z26_u, allB_nil, allB_cons, Bool.true_and, Bool.and_true, Bool.and_self]
  repeat' (split <;> try rfl)
theorem P113z28_u  : P113z28  = true := by
  unfold P113z28
  simp only [P64_t, P43_t, P44_t, P14_t, P15_t, P12_t, P13_t, P88_t, P11_t, P24_t, P26_t, P27_t, P29_t, P55_t, P56_t, P57_t, P58_t, P59_t, P60_t, P70_t, P74_t, P80_t, P81_t, P82_t, P83_t, P84a_t, P84b_t, P93_t, P98_t, P99_t, P100_t, P118_t, P121_t, P128_t, P34z1_u, P61z3_u, P33z2_u, P45z6_u, P75z9_u, P31z11_u, P41z10_u, P87z8_u, P89z7_u, P65z5_u, P45z13_u, P89z14_u, P65z12_u, P45z16_u, P89z17_u, P65z15_u, P45z19_u, P45z20_u, P108z22_u, P108z23_u, P108z24_u, P108z25_u, P113z26_u, P113z27_u, allB_nil, allB_cons, Bool.true_and, Bool.and_true, Bool.and_self]
  repeat' (split <;> try rfl)
theorem P91z21_u  : P91z21  = true := by
  unfold P91z21
  simp only [P64_t, P43_t, P44_t, P14_t, P15_t, P12_t, P13_t, P88_t, P11_t, P24_t, P26_t, P27_t, P29_t, P55_t, P56_t, P57_t, P58_t, P59_t, P60_t, P70_t, P74_t, P80_t, P81_t, P82_t, P83_t, P84a_t, P84b_t, P93_t, P98_t, P99_t, P100_t, P118_t, P121_t, P128_t, P34z1_u, P61z3_u, P33z2_u, P45z6_u, P75z9_u, P31z11_u, P41z10_u, P87z8_u, P89z7_u, P65z5_u, P45z13_u, P89z14_u, P65z12_u, P45z16_u, P89z17_u, P65z15_u, P45z19_u, P45z20_u, P108z22_u, P108z23_u, P108z24_u, P108z25_u, P113z26_u, P113z27_u, P113z28_u, allB_nil, allB_cons, Bool.true_and, Bool.and_true, Bool.and_self]
  repeat' (split <;> try rfl)
theorem P85z32_u (x0 : Bool) (x1 x2 x3 x4 x5 x6 : Int) (x7 : Bool) (x8 x9 x10 x11 x12 x13 : Int) : P85z32 x0 x1 x2 x3 x4 x5 x6 x7 x8 x9 x10 x11 x12 x13 = true := by
  unfold P85z32
  simp only [P64_t, P43_t, P44_t, P14_t, P15_t, P12_t, P13_t, P88_t, P11_t, P24_t, P26_t, P27_t, P29_t, P55_t, P56_t, P57_t, P58_t, P59_t, P60_t, P70_t, P74_t, P80_t, P81_t, P82_t, P83_t, P84a_t, P84b_t, P93_t, P98_t, P99_t, P100_t, P118_t, P121_t, P128_t, P34z1_u, P61z3_u, P33z2_u, P45z6_u, P75z9_u, P31z11_u, P41z10_u, P87z8_u, P89z7_u, P65z5_u, P45z13_u, P89z14_u, P65z12_u, P45z16_u, P89z17_u, P65z15_u, P45z19_u, P45z20_u, P108z22_u, P108z23_u, P108z24_u, P108z25_u, P113z26_u, P113z27_u, P113z28_u, P91z21_u, allB_nil, allB_cons, Bool.true_and, Bool.and_true, Bool.and_self]
  repeat' (split <;> try rfl)
theorem P66z31_u (x0 : Bool) (x1 x2 x3 x4 x5 x6 : Int) : P66z31 x0 x1 x2 x3 x4 x5 x6 = true := by
  unfold P66z31 P66z31_r133
  simp only [P64_t, P43_t, P44_t, P14_t, P15_t, P12_t, P13_t, P88_t, P11_t, P24_t, P26_t, P27_t, P29_t, P55_t, P56_t, P57_t, P58_t, P59_t, P60_t, P70_t, P74_t, P80_t, P81_t, P82_t, P83_t, P84a_t, P84b_t, P93_t, P98_t, P99_t, P100_t, P118_t, P121_t, P128_t, P34z1_u, P61z3_u, P33z2_u, P45z6_u, P75z9_u, P31z11_u, P41z10_u, P87z8_u, P89z7_u, P65z5_u, P45z13_u, P89z14_u, P65z12_u, P45z16_u, P89z17_u, P65z15_u, P45z19_u, P45z20_u, P108z22_u, P108z23_u, P108z24_u, P108z25_u, P113z26_u, P113z27_u, P113z28_u, P91z21_u, P85z32_u, allB_nil, allB_cons, Bool.true_and, Bool.and_true, Bool.and_self]
  repeat' (split <;> try rfl)
theorem P67z30_u (x0 : Bool) (x1 x2 x3 x4 x5 x6 : Int) : P67z30 x0 x1 x2 x3 x4 x5 x6 = true := by
  unfold P67z30 P67z30_r134
  simp only [P64_t, P43_t, P44_t, P14_t, P15_t, P12_t, P13_t, P88_t, P11_t, P24_t, P26_t, P27_t, P29_t, P55_t, P56_t, P57_t, P58_t, P59_t, P60_t, P70_t, P74_t, P80_t, P81_t, P82_t, P83_t, P84a_t, P84b_t, P93_t, P98_t, P99_t, P100_t, P118_t, P121_t, P128_t, P34z1_u, P61z3_u, P33z2_u, P45z6_u, P75z9_u, P31z11_u, P41z10_u, P87z8_u, P89z7_u, P65z5_u, P45z13_u, P89z14_u, P65z12_u, P45z16_u, P89z17_u, P65z15_u, P45z19_u, P45z20_u, P108z22_u, P108z23_u, P108z24_u, P108z25_u, P113z26_u, P113z27_u, P113z28_u, P91z21_u, P85z32_u, P66z31_u, allB_nil, allB_cons, Bool.true_and, Bool.and_true, Bool.and_self]
  repeat' (split <;> try rfl)
theorem P101z33_u (x0 x1 x2 x3 x4 x5 : Int) (x6 : Bool) (x7 x8 x9 x10 x11 x12 x13 x14 x15 x16 x17 : Int) : P101z33 x0 x1 x2 x3 x4 x5 x6 x7 x8 x9 x10 x11 x12 x13 x14 x15 x16 x17 = true := by
  unfold P101z33 P101z33_r139 P101z33_r140
  simp only [P64_t, P43_t, P44_t, P14_t, P15_t, P12_t, P13_t, P88_t, P11_t, P24_t, P26_t, P27_t, P29_t, P55_t, P56_t, P57_t, P58_t, P59_t, P60_t, P70_t, P74_t, P80_t, P81_t, P82_t, P83_t, P84a_t, P84b_t, P93_t, P98_t, P99_t, P100_t, P118_t, P121_t, P128_t, P34z1_u, P61z3_u, P33z2_u, P45z6_u, P75z9_u, P31z11_u, P41z10_u, P87z8_u, P89z7_u, P65z5_u, P45z13_u, P89z14_u, P65z12_u, P45z16_u, P89z17_u, P65z15_u, P45z19_u, P45z20_u, P108z22_u, P108z23_u, P108z24_u, P108z25_u, P113z26_u, P113z27_u, P113z28_u, P91z21_u, P85z32_u, P66z31_u, P67z30_u, allB_nil, allB_cons, Bool.true_and, Bool.and_true, Bool.and_self]
  repeat' (split <;> try rfl)
theorem P123z34_u (x0 x1 x2 x3 x4 x5 : Int) : P123z34 x0 x1 x2 x3 x4 x5 = true := by
  unfold P123z34 P123z34_r150 P123z34_r151 P123z34_r152
  simp only [P64_t, P43_t, P44_t, P14_t, P15_t, P12_t, P13_t, P88_t, P11_t, P24_t, P26_t, P27_t, P29_t, P55_t, P56_t, P57_t, P58_t, P59_t, P60_t, P70_t, P74_t, P80_t, P81_t, P82_t, P83_t, P84a_t, P84b_t, P93_t, P98_t, P99_t, P100_t, P118_t, P121_t, P128_t, P34z1_u, P61z3_u, P33z2_u, P45z6_u, P75z9_u, P31z11_u, P41z10_u, P87z8_u, P89z7_u, P65z5_u, P45z13_u, P89z14_u, P65z12_u, P45z16_u, P89z17_u, P65z15_u, P45z19_u, P45z20_u, P108z22_u, P108z23_u, P108z24_u, P108z25_u, P113z26_u, P113z27_u, P113z28_u, P91z21_u, P85z32_u, P66z31_u, P67z30_u, P101z33_u, P84z35_u, allB_nil, allB_cons, Bool.true_and, Bool.and_true, Bool.and_self]
  repeat' (split <;> try rfl)
theorem P105z29_u (x0 x1 x2 x3 x4 x5 : Int) (x6 : Bool) (x7 x8 x9 x10 x11 x12 : Int) (x13 : Bool) (x14 x15 x16 x17 x18 x19 x20 x21 x22 x23 : Int) : P105z29 x0 x1 x2 x3 x4 x5 x6 x7 x8 x9 x10 x11 x12 x13 x14 x15 x16 x17 x18 x19 x20 x21 x22 x23 = true := by
  unfold P105z29 P105z29_r153 P105z29_r155 P105z29_r157 P105z29_r159 P105z29_r161 P105z29_r162 P105z29_r156 P105z29_r154
  simp only [P64_t, P43_t, P44_t, P14_t, P15_t, P12_t, P13_t, P88_t, P11_t, P24_t, P26_t, P27_t, P29_t, P55_t, P56_t, P57_t, P58_t, P59_t, P60_t, P70_t, P74_t, P80_t, P81_t, P82_t, P83_t, P84a_t, P84b_t, P93_t, P98_t, P99_t, P100_t, P118_t, P121_t, P128_t, P34z1_u, P61z3_u, P33z2_u, P45z6_u, P75z9_u, P31z11_u, P41z10_u, P87z8_u, P89z7_u, P65z5_u, P45z13_u, P89z14_u, P65z12_u, P45z16_u, P89z17_u, P65z15_u, P45z19_u, P45z20_u, P108z22_u, P108z23_u, P108z24_u, P108z25_u, P113z26_u, P113z27_u, P113z28_u, P91z21_u, P85z32_u, P66z31_u, P67z30_u, P101z33_u, P84z35_u, P123z34_u, allB_nil, allB_cons, Bool.true_and, Bool.and_true, Bool.and_self]
  repeat' (split <;> try rfl)
theorem P65z18_u (x0 x1 x2 : Int) (x3 : Bool) (x4 x5 x6 x7 x8 x9 : Int) (x10 : Bool) (x11 x12 x13 x14 x15 x16 : Int) (x17 : Bool) (x18 x19 x20 x21 x22 x23 x24 x25 x26 x27 : Int) : P65z18 x0 x1 x2 x3 x4 x5 x6 x7 x8 x9 x10 x11 x12 x13 x14 x15 x16 x17 x18 x19 x20 x21 x22 x23 x24 x25 x26 x27 = true := by
  unfold P65z18 P65z18_r163 P65z18_r166
  simp only [P64_t, P43_t, P44_t, P14_t, P15_t, P12_t, P13_t, P88_t, P11_t, P24_t, P26_t, P27_t, P29_t, P55_t, P56_t, P57_t, P58_t, P59_t, P60_t, P70_t, P74_t, P80_t, P81_t, P82_t, P83_t, P84a_t, P84b_t, P93_t, P98_t, P99_t, P100_t, P118_t, P121_t, P128_t, P34z1_u, P61z3_u, P33z2_u, P45z6_u, P75z9_u, P31z11_u, P41z10_u, P87z8_u, P89z7_u, P65z5_u, P45z13_u, P89z14_u, P65z12_u, P45z16_u, P89z17_u, P65z15_u, P45z19_u, P45z20_u, P108z22_u, P108z23_u, P108z24_u, P108z25_u, P113z26_u, P113z27_u, P113z28_u, P91z21_u, P85z32_u, P66z31_u, P67z30_u, P101z33_u, P84z35_u, P123z34_u, P105z29_u, allB_nil, allB_cons, Bool.true_and, Bool.and_true, Bool.and_self]
  repeat' (split <;> try rfl)
theorem P45z37_u (x0 : Int) (x1 : Bool) (x2 x3 x4 x5 x6 x7 : Int) (x8 : Bool) (x9 x10 x11 x12 x13 x14 : Int) (x15 : Bool) (x16 x17 x18 x19 x20 x21 : Int) (x22 : Bool) (x23 x24 x25 x26 x27 x28 : Int) : P45z37 x0 x1 x2 x3 x4 x5 x6 x7 x8 x9 x10 x11 x12 x13 x14 x15 x16 x17 x18 x19 x20 x21 x22 x23 x24 x25 x26 x27 x28 = true := by
  unfold P45z37 P45z37_r177
  simp only [P64_t, P43_t, P44_t, P14_t, P15_t, P12_t, P13_t, P88_t, P11_t, P24_t, P26_t, P27_t, P29_t, P55_t, P56_t, P57_t, P58_t, P59_t, P60_t, P70_t, P74_t, P80_t, P81_t, P82_t, P83_t, P84a_t, P84b_t, P93_t, P98_t, P99_t, P100_t, P118_t, P121_t, P128_t, P34z1_u, P61z3_u, P33z2_u, P45z6_u, P75z9_u, P31z11_u, P41z10_u, P87z8_u, P89z7_u, P65z5_u, P45z13_u, P89z14_u, P65z12_u, P45z16_u, P89z17_u, P65z15_u, P45z19_u, P45z20_u, P108z22_u, P108z23_u, P108z24_u, P108z25_u, P113z26_u, P113z27_u, P113z28_u, P91z21_u, P85z32_u, P66z31_u, P67z30_u, P101z33_u, P84z35_u, P123z34_u, P105z29_u, P65z18_u, allB_nil, allB_cons, Bool.true_and, Bool.and_true, Bool.and_self]
  repeat' (split <;> try rfl)
theorem P45z38_u (x0 : Bool) (x1 x2 x3 x4 x5 x6 : Int) (x7 : Bool) (x8 x9 x10 x11 x12 x13 : Int) (x14 : Bool) (x15 x16 x17 x18 x19 x20 : Int) (x21 : Bool) (x22 x23 x24 x25 x26 x27 : Int) : P45z38 x0 x1 x2 x3 x4 x5 x6 x7 x8 x9 x10 x11 x12 x13 x14 x15 x16 x17 x18 x19 x20 x21 x22 x23 x24 x25 x26 x27 = true := by
  unfold P45z38
  simp only [P64_t, P43_t, P44_t, P14_t, P15_t, P12_t, P13_t, P88_t, P11_t, P24_t, P26_t, P27_t, P29_t, P55_t, P56_t, P57_t, P58_t, P59_t, P60_t, P70_t, P74_t, P80_t, P81_t, P82_t, P83_t, P84a_t, P84b_t, P93_t, P98_t, P99_t, P100_t, P118_t, P121_t, P128_t, P34z1_u, P61z3_u, P33z2_u, P45z6_u, P75z9_u, P31z11_u, P41z10_u, P87z8_u, P89z7_u, P65z5_u, P45z13_u, P89z14_u, P65z12_u, P45z16_u, P89z17_u, P65z15_u, P45z19_u, P45z20_u, P108z22_u, P108z23_u, P108z24_u, P108z25_u, P113z26_u, P113z27_u, P113z28_u, P91z21_u, P85z32_u, P66z31_u, P67z30_u, P101z33_u, P84z35_u, P123z34_u, P105z29_u, P65z18_u, P45z37_u, allB_nil, allB_cons, Bool.true_and, Bool.and_true, Bool.and_self]
  repeat' (split <;> try rfl)
theorem P65z36_u (x0 x1 x2 : Int) (x3 : Bool) (x4 x5 x6 x7 x8 x9 : Int) (x10 : Bool) (x11 x12 x13 x14 x15 x16 : Int) (x17 : Bool) (x18 x19 x20 x21 x22 x23 : Int) (x24 : Bool) (x25 x26 x27 x28 x29 x30 x31 x32 x33 x34 : Int) : P65z36 x0 x1 x2 x3 x4 x5 x6 x7 x8 x9 x10 x11 x12 x13 x14 x15 x16 x17 x18 x19 x20 x21 x22 x23 x24 x25 x26 x27 x28 x29 x30 x31 x32 x33 x34 = true := by
  unfold P65z36 P65z36_r179 P65z36_r182
  simp only [P64_t, P43_t, P44_t, P14_t, P15_t, P12_t, P13_t, P88_t, P11_t, P24_t, P26_t, P27_t, P29_t, P55_t, P56_t, P57_t, P58_t, P59_t, P60_t, P70_t, P74_t, P80_t, P81_t, P82_t, P83_t, P84a_t, P84b_t, P93_t, P98_t, P99_t, P100_t, P118_t, P121_t, P128_t, P34z1_u, P61z3_u, P33z2_u, P45z6_u, P75z9_u, P31z11_u, P41z10_u, P87z8_u, P89z7_u, P65z5_u, P45z13_u, P89z14_u, P65z12_u, P45z16_u, P89z17_u, P65z15_u, P45z19_u, P45z20_u, P108z22_u, P108z23_u, P108z24_u, P108z25_u, P113z26_u, P113z27_u, P113z28_u, P91z21_u, P85z32_u, P66z31_u, P67z30_u, P101z33_u, P84z35_u, P123z34_u, P105z29_u, P65z18_u, P45z37_u, P45z38_u, allB_nil, allB_cons, Bool.true_and, Bool.and_true, Bool.and_self]
  repeat' (split <;> try rfl)
theorem P45z40_u (x0 : Int) (x1 : Bool) (x2 x3 x4 x5 x6 x7 : Int) (x8 : Bool) (x9 x10 x11 x12 x13 x14 : Int) (x15 : Bool) (x16 x17 x18 x19 x20 x21 : Int) (x22 : Bool) (x23 x24 x25 x26 x27 x28 : Int) (x29 : Bool) (x30 x31 x32 x33 x34 x35 : Int) : P45z40 x0 x1 x2 x3 x4 x5 x6 x7 x8 x9 x10 x11 x12 x13 x14 x15 x16 x17 x18 x19 x20 x21 x22 x23 x24 x25 x26 x27 x28 x29 x30 x31 x32 x33 x34 x35 = true := by
  unfold P45z40 P45z40_r195
  simp only [P64_t, P43_t, P44_t, P14_t, P15_t, P12_t, P13_t, P88_t, P11_t, P24_t, P26_t, P27_t, P29_t, P55_t, P56_t, P57_t, P58_t, P59_t, P60_t, P70_t, P74_t, P80_t, P81_t, P82_t, P83_t, P84a_t, P84b_t, P93_t, P98_t, P99_t, P100_t, P118_t, P121_t, P128_t, P34z1_u, P61z3_u, P33z2_u, P45z6_u, P75z9_u, P31z11_u, P41z10_u, P87z8_u, P89z7_u, P65z5_u, P45z13_u, P89z14_u, P65z12_u, P45z16_u, P89z17_u, P65z15_u, P45z19_u, P45z20_u, P108z22_u, P108z23_u, P108z24_u, P108z25_u, P113z26_u, P113z27_u, P113z28_u, P91z21_u, P85z32_u, P66z31_u, P67z30_u, P101z33_u, P84z35_u, P123z34_u, P105z29_u, P65z18_u, P45z37_u, P45z38_u, P65z36_u, allB_nil, allB_cons, Bool.true_and, Bool.and_true, Bool.and_self]
  repeat' (split <;> try rfl)
theorem P45z41_u (x0 : Bool) (x1 x2 x3 x4 x5 x6 : Int) (x7 : Bool) (x8 x9 x10 x11 x12 x13 : Int) (x14 : Bool) (x15 x16 x17 x18 x19 x20 : Int) (x21 : Bool) (x22 x23 x24 x25 x26 x27 : Int) (x28 : Bool) (x29 x30 x31 x32 x33 x34 : Int) : P45z41 x0 x1 x2 x3 x4 x5 x6 x7 x8 x9 x10 x11 x12 x13 x14 x15 x16 x17 x18 x19 x20 x21 x22 x23 x24 x25 x26 x27 x28 x29 x30 x31 x32 x33 x34 = true := by
  unfold P45z41
  simp only [P64_t, P43_t, P44_t, P14_t, P15_t, P12_t, P13_t, P88_t, P11_t, P24_t, P26_t, P27_t, P29_t, P55_t, P56_t, P57_t, P58_t, P59_t, P60_t, P70_t, P74_t, P80_t, P81_t, P82_t, P83_t, P84a_t, P84b_t, P93_t, P98_t, P99_t, P100_t, P118_t, P121_t, P128_t, P34z1_u, P61z3_u, P33z2_u, P45z6_u, P75z9_u, P31z11_u, P41z10_u, P87z8_u, P89z7_u, P65z5_u, P45z13_u, P89z14_u, P65z12_u, P45z16_u, P89z17_u, P65z15_u, P45z19_u, P45z20_u, P108z22_u, P108z23_u, P108z24_u, P108z25_u, P113z26_u, P113z27_u, P113z28_u, P91z21_u, P85z32_u, P66z31_u, P67z30_u, P101z33_u, P84z35_u, P123z34_u, P105z29_u, P65z18_u, P45z37_u, P45z38_u, P65z36_u, P45z40_u, allB_nil, allB_cons, Bool.true_and, Bool.and_true, Bool.and_self]
  repeat' (split <;> try rfl)
theorem P65z39_u (x0 x1 x2 : Int) (x3 : Bool) (x4 x5 x6 x7 x8 x9 : Int) (x10 : Bool) (x11 x12 x13 x14 x15 x16 : Int) (x17 : Bool) (x18 x19 x20 x21 x22 x23 : Int) (x24 : Bool) (x25 x26 x27 x28 x29 x30 : Int) (x31 : Bool) (x32 x33 x34 x35 x36 x37 x38 x39 x40 x41 : Int) : P65z39 x0 x1 x2 x3 x4 x5 x6 x7 x8 x9 x10 x11 x12 x13 x14 x15 x16 x17 x18 x19 x20 x21 x22 x23 x24 x25 x26 x27 x28 x29 x30 x31 x32 x33 x34 x35 x36 x37 x38 x39 x40 x41 = true := by
  unfold P65z39 P65z39_r197 P65z39_r200
  simp only [P64_t, P43_t, P44_t, P14_t, P15_t, P12_t, P13_t, P88_t, P11_t, P24_t, P26_t, P27_t, P29_t, P55_t, P56_t, P57_t, P58_t, P59_t, P60_t, P70_t, P74_t, P80_t, P81_t, P82_t, P83_t, P84a_t, P84b_t, P93_t, P98_t, P99_t, P100_t, P118_t, P121_t, P128_t, P34z1_u, P61z3_u, P33z2_u, P45z6_u, P75z9_u, P31z11_u, P41z10_u, P87z8_u, P89z7_u, P65z5_u, P45z13_u, P89z14_u, P65z12_u, P45z16_u, P89z17_u, P65z15_u, P45z19_u, P45z20_u, P108z22_u, P108z23_u, P108z24_u, P108z25_u, P113z26_u, P113z27_u, P113z28_u, P91z21_u, P85z32_u, P66z31_u, P67z30_u, P101z33_u, P84z35_u, P123z34_u, P105z29_u, P65z18_u, P45z37_u, P45z38_u, P65z36_u, P45z40_u, P45z41_u, allB_nil, allB_cons, Bool.true_and, Bool.and_true, Bool.and_self]
  repeat' (split <;> try rfl)
theorem P45z43_u (x0 : Bool) (x1 x2 x3 x4 x5 x6 : Int) (x7 : Bool) (x8 x9 x10 x11 x12 x13 : Int) (x14 : Bool) (x15 x16 x17 x18 x19 x20 : Int) (x21 : Bool) (x22 x23 x24 x25 x26 x27 : Int) (x28 : Bool) (x29 x30 x31 x32 x33 x34 : Int) (x35 : Bool) (x36 x37 x38 x39 x40 x41 : Int) : P45z43 x0 x1 x2 x3 x4 x5 x6 x7 x8 x9 x10 x11 x12 x13 x14 x15 x16 x17 x18 x19 x20 x21 x22 x23 x24 x25 x26 x27 x28 x29 x30 x31 x32 x33 x34 x35 x36 x37 x38 x39 x40 x41 = true := by
  unfold P45z43
  simp only [P64_t, P43_t, P44_t, P14_t, P15_t, P12_t, P13_t, P88_t, P11_t, P24_t, P26_t, P27_t, P29_t, P55_t, P56_t, P57_t, P58_t, P59_t, P60_t, P70_t, P74_t, P80_t, P81_t, P82_t, P83_t, P84a_t, P84b_t, P93_t, P98_t, P99_t, P100_t, P118_t, P121_t, P128_t, P34z1_u, P61z3_u, P33z2_u, P45z6_u, P75z9_u, P31z11_u, P41z10_u, P87z8_u, P89z7_u, P65z5_u, P45z13_u, P89z14_u, P65z12_u, P45z16_u, P89z17_u, P65z15_u, P45z19_u, P45z20_u, P108z22_u, P108z23_u, P108z24_u, P108z25_u, P113z26_u, P113z27_u, P113z28_u, P91z21_u, P85z32_u, P66z31_u, P67z30_u, P101z33_u, P84z35_u, P123z34_u, P105z29_u, P65z18_u, P45z37_u, P45z38_u, P65z36_u, P45z40_u, P45z41_u, P65z39_u, allB_nil, allB_cons, Bool.true_and, Bool.and_true, Bool.and_self]
  repeat' (split <;> try rfl)
theorem P45z44_u (x0 : Int) (x1 : Bool) (x2 x3 x4 x5 x6 x7 : Int) (x8 : Bool) (x9 x10 x11 x12 x13 x14 : Int) (x15 : Bool) (x16 x17 x18 x19 x20 x21 : Int) (x22 : Bool) (x23 x24 x25 x26 x27 x28 : Int) (x29 : Bool) (x30 x31 x32 x33 x34 x35 : Int) (x36 : Bool) (x37 x38 x39 x40 x41 x42 : Int) : P45z44 x0 x1 x2 x3 x4 x5 x6 x7 x8 x9 x10 x11 x12 x13 x14 x15 x16 x17 x18 x19 x20 x21 x22 x23 x24 x25 x26 x27 x28 x29 x30 x31 x32 x33 x34 x35 x36 x37 x38 x39 x40 x41 x42 = true := by
  unfold P45z44 P45z44_r216
  simp only [P64_t, P43_t, P44_t, P14_t, P15_t, P12_t, P13_t, P88_t, P11_t, P24_t, P26_t, P27_t, P29_t, P55_t, P56_t, P57_t, P58_t, P59_t, P60_t, P70_t, P74_t, P80_t, P81_t, P82_t, P83_t, P84a_t, P84b_t, P93_t, P98_t, P99_t, P100_t, P118_t, P121_t, P128_t, P34z1_u, P61z3_u, P33z2_u, P45z6_u, P75z9_u, P31z11_u, P41z10_u, P87z8_u, P89z7_u, P65z5_u, P45z13_u, P89z14_u, P65z12_u, P45z16_u, P89z17_u, P65z15_u, P45z19_u, P45z20_u, P108z22_u, P108z23_u, P108z24_u, P108z25_u, P113z26_u, P113z27_u, P113z28_u, P91z21_u, P85z32_u, P66z31_u, P67z30_u, P101z33_u, P84z35_u, P123z34_u, P105z29_u, P65z18_u, P45z37_u, P45z38_u, P65z36_u, P45z40_u, P45z41_u, P65z39_u, P45z43_u, allB_nil, allB_cons, Bool.true_and, Bool.and_true, Bool.and_self]
  repeat' (split <;> try rfl)
theorem P104z45_u (x0 x1 x2 x3 x4 x5 : Int) (x6 : Bool) (x7 x8 x9 x10 x11 x12 : Int) (x13 : Bool) (x14 x15 x16 x17 x18 x19 x20 x21 x22 x23 : Int) : P104z45 x0 x1 x2 x3 x4 x5 x6 x7 x8 x9 x10 x11 x12 x13 x14 x15 x16 x17 x18 x19 x20 x21 x22 x23 = true := by
  unfold P104z45 P104z45_r222 P104z45_r223
  simp only [P64_t, P43_t, P44_t, P14_t, P15_t, P12_t, P13_t, P88_t, P11_t, P24_t, P26_t, P27_t, P29_t, P55_t, P56_t, P57_t, P58_t, P59_t, P60_t, P70_t, P74_t, P80_t, P81_t, P82_t, P83_t, P84a_t, P84b_t, P93_t, P98_t, P99_t, P100_t, P118_t, P121_t, P128_t, P34z1_u, P61z3_u, P33z2_u, P45z6_u, P75z9_u, P31z11_u, P41z10_u, P87z8_u, P89z7_u, P65z5_u, P45z13_u, P89z14_u, P65z12_u, P45z16_u, P89z17_u, P65z15_u, P45z19_u, P45z20_u, P108z22_u, P108z23_u, P108z24_u, P108z25_u, P113z26_u, P113z27_u, P113z28_u, P91z21_u, P85z32_u, P66z31_u, P67z30_u, P101z33_u, P84z35_u, P123z34_u, P105z29_u, P65z18_u, P45z37_u, P45z38_u, P65z36_u, P45z40_u, P45z41_u, P65z39_u, P45z43_u, P45z44_u, allB_nil, allB_cons, Bool.true_and, Bool.and_true, Bool.and_self]
  repeat' (split <;> try rfl)
theorem P65z42_u (x0 x1 x2 : Int) (x3 : Bool) (x4 x5 x6 x7 x8 x9 : Int) (x10 : Bool) (x11 x12 x13 x14 x15 x16 : Int) (x17 : Bool) (x18 x19 x20 x21 x22 x23 : Int) (x24 : Bool) (x25 x26 x27 x28 x29 x30 : Int) (x31 : Bool) (x32 x33 x34 x35 x36 x37 : Int) (x38 : Bool) (x39 x40 x41 x42 x43 x44 x45 x46 x47 x48 : Int) : P65z42 x0 x1 x2 x3 x4 x5 x6 x7 x8 x9 x10 x11 x12 x13 x14 x15 x16 x17 x18 x19 x20 x21 x22 x23 x24 x25 x26 x27 x28 x29 x30 x31 x32 x33 x34 x35 x36 x37 x38 x39 x40 x41 x42 x43 x44 x45 x46 x47 x48 = true := by
  unfold P65z42 P65z42_r225 P65z42_r227
  simp only [P64_t, P43_t, P44_t, P14_t, P15_t, P12_t, P13_t, P88_t, P11_t, P24_t, P26_t, P27_t, P29_t, P55_t, P56_t, P57_t, P58_t, P59_t, P60_t, P70_t, P74_t, P80_t, P81_t, P82_t, P83_t, P84a_t, P84b_t, P93_t, P98_t, P99_t, P100_t, P118_t, P121_t, P128_t, P34z1_u, P61z3_u, P33z2_u, P45z6_u, P75z9_u, P31z11_u, P41z10_u, P87z8_u, P89z7_u, P65z5_u, P45z13_u, P89z14_u, P65z12_u, P45z16_u, P89z17_u, P65z15_u, P45z19_u, P45z20_u, P108z22_u, P108z23_u, P108z24_u, P108z25_u, P113z26_u, P113z27_u, P113z28_u, P91z21_u, P85z32_u, P66z31_u, P67z30_u, P101z33_u, P84z35_u, P123z34_u, P105z29_u, P65z18_u, P45z37_u, P45z38_u, P65z36_u, P45z40_u, P45z41_u, P65z39_u, P45z43_u, P45z44_u, P104z45_u, allB_nil, allB_cons, Bool.true_and, Bool.and_true, Bool.and_self]
  repeat' (split <;> try rfl)
theorem P45z47_u (x0 : Bool) (x1 x2 x3 x4 x5 x6 : Int) (x7 : Bool) (x8 x9 x10 x11 x12 x13 : Int) (x14 : Bool) (x15 x16 x17 x18 x19 x20 : Int) (x21 : Bool) (x22 x23 x24 x25 x26 x27 : Int) (x28 : Bool) (x29 x30 x31 x32 x33 x34 : Int) (x35 : Bool) (x36 x37 x38 x39 x40 x41 : Int) (x42 : Bool) (x43 x44 x45 x46 x47 x48 : Int) : P45z47 x0 x1 x2 x3 x4 x5 x6 x7 x8 x9 x10 x11 x12 x13 x14 x15 x16 x17 x18 x19 x20 x21 x22 x23 x24 x25 x26 x27 x28 x29 x30 x31 x32 x33 x34 x35 x36 x37 x38 x39 x40 x41 x42 x43 x44 x45 x46 x47 x48 = true := by
  unfold P45z47
  simp only [P64_t, P43_t, P44_t, P14_t, P15_t, P12_t, P13_t, P88_t, P11_t, P24_t, P26_t, P27_t, P29_t, P55_t, P56_t, P57_t, P58_t, P59_t, P60_t, P70_t, P74_t, P80_t, P81_t, P82_t, P83_t, P84a_t, P84b_t, P93_t, P98_t, P99_t, P100_t, P118_t, P121_t, P128_t, P34z1_u, P61z3_u, P33z2_u, P45z6_u, P75z9_u, P31z11_u, P41z10_u, P87z8_u, P89z7_u, P65z5_u, P45z13_u, P89z14_u, P65z12_u, P45z16_u, P89z17_u, P65z15_u, P45z19_u, P45z20_u, P108z22_u, P108z23_u, P108z24_u, P108z25_u, P113z26_u, P113z27_u, P113z28_u, P91z21_u, P85z32_u, P66z31_u, P67z30_u, P101z33_u, P84z35_u, P123z34_u, P105z29_u, P65z18_u, P45z37_u, P45z38_u, P65z36_u, P45z40_u, P45z41_u, P65z39_u, P45z43_u, P45z44_u, P104z45_u, P65z42_u, allB_nil, allB_cons, Bool.true_and, Bool.and_true, Bool.and_self]
  repeat' (split <;> try rfl)
theorem P45z48_u (x0 : Bool) (x1 x2 x3 x4 x5 x6 : Int) (x7 : Bool) (x8 x9 x10 x11 x12 x13 : Int) (x14 : Bool) (x15 x16 x17 x18 x19 x20 : Int) (x21 : Bool) (x22 x23 x24 x25 x26 x27 : Int) (x28 : Bool) (x29 x30 x31 x32 x33 x34 : Int) (x35 : Bool) (x36 x37 x38 x39 x40 x41 : Int) (x42 : Bool) (x43 x44 x45 x46 x47 x48 : Int) : P45z48 x0 x1 x2 x3 x4 x5 x6 x7 x8 x9 x10 x11 x12 x13 x14 x15 x16 x17 x18 x19 x20 x21 x22 x23 x24 x25 x26 x27 x28 x29 x30 x31 x32 x33 x34 x35 x36 x37 x38 x39 x40 x41 x42 x43 x44 x45 x46 x47 x48 = true := by
  unfold P45z48
  simp only [P64_t, P43_t, P44_t, P14_t, P15_t, P12_t, P13_t, P88_t, P11_t, P24_t, P26_t, P27_t, P29_t, P55_t, P56_t, P57_t, P58_t, P59_t, P60_t, P70_t, P74_t, P80_t, P81_t, P82_t, P83_t, P84a_t, P84b_t, P93_t, P98_t, P99_t, P100_t, P118_t, P121_t, P128_t, P34z1_u, P61z3_u, P33z2_u, P45z6_u, P75z9_u, P31z11_u, P41z10_u, P87z8_u, P89z7_u, P65z5_u, P45z13_u, P89z14_u, P65z12_u, P45z16_u, P89z17_u, P65z15_u, P45z19_u, P45z20_u, P108z22_u, P108z23_u, P108z24_u, P108z25_u, P113z26_u, P113z27_u, P113z28_u, P91z21_u, P85z32_u, P66z31_u, P67z30_u, P101z33_u, P84z35_u, P123z34_u, P105z29_u, P65z18_u, P45z37_u, P45z38_u, P65z36_u, P45z40_u, P45z41_u, P65z39_u, P45z43_u, P45z44_u, P104z45_u, P65z42_u, P45z47_u, allB_nil, allB_cons, Bool.true_and, Bool.and_true, Bool.and_self]
  repeat' (split <;> try rfl)
theorem P65z46_u (x0 x1 : Int) (x2 : Bool) (x3 x4 x5 x6 x7 x8 : Int) (x9 : Bool) (x10 x11 x12 x13 x14 x15 : Int) (x16 : Bool) (x17 x18 x19 x20 x21 x22 : Int) (x23 : Bool) (x24 x25 x26 x27 x28 x29 : Int) (x30 : Bool) (x31 x32 x33 x34 x35 x36 : Int) (x37 : Bool) (x38 x39 x40 x41 x42 x43 : Int) (x44 : Bool) (x45 x46 x47 x48 x49 x50 x51 x52 x53 x54 : Int) : P65z46 x0 x1 x2 x3 x4 x5 x6 x7 x8 x9 x10 x11 x12 x13 x14 x15 x16 x17 x18 x19 x20 x21 x22 x23 x24 x25 x26 x27 x28 x29 x30 x31 x32 x33 x34 x35 x36 x37 x38 x39 x40 x41 x42 x43 x44 x45 x46 x47 x48 x49 x50 x51 x52 x53 x54 = true := by
  unfold P65z46 P65z46_r248
  simp only [P64_t, P43_t, P44_t, P14_t, P15_t, P12_t, P13_t, P88_t, P11_t, P24_t, P26_t, P27_t, P29_t, P55_t, P56_t, P57_t, P58_t, P59_t, P60_t, P70_t, P74_t, P80_t, P81_t, P82_t, P83_t, P84a_t, P84b_t, P93_t, P98_t, P99_t, P100_t, P118_t, P121_t, P128_t, P34z1_u, P61z3_u, P33z2_u, P45z6_u, P75z9_u, P31z11_u, P41z10_u, P87z8_u, P89z7_u, P65z5_u, P45z13_u, P89z14_u, P65z12_u, P45z16_u, P89z17_u, P65z15_u, P45z19_u, P45z20_u, P108z22_u, P108z23_u, P108z24_u, P108z25_u, P113z26_u, P113z27_u, P113z28_u, P91z21_u, P85z32_u, P66z31_u, P67z30_u, P101z33_u, P84z35_u, P123z34_u, P105z29_u, P65z18_u, P45z37_u, P45z38_u, P65z36_u, P45z40_u, P45z41_u, P65z39_u, P45z43_u, P45z44_u, P104z45_u, P65z42_u, P45z47_u, P45z48_u, allB_nil, allB_cons, Bool.true_and, Bool.and_true, Bool.and_self]
  repeat' (split <;> try rfl)
theorem P45z50_u (x0 : Bool) (x1 x2 x3 x4 x5 x6 : Int) (x7 : Bool) (x8 x9 x10 x11 x12 x13 : Int) (x14 : Bool) (x15 x16 x17 x18 x19 x20 : Int) (x21 : Bool) (x22 x23 x24 x25 x26 x27 : Int) (x28 : Bool) (x29 x30 x31 x32 x33 x34 : Int) (x35 : Bool) (x36 x37 x38 x39 x40 x41 : Int) (x42 : Bool) (x43 x44 x45 x46 x47 x48 : Int) : P45z50 x0 x1 x2 x3 x4 x5 x6 x7 x8 x9 x10 x11 x12 x13 x14 x15 x16 x17 x18 x19 x20 x21 x22 x23 x24 x25 x26 x27 x28 x29 x30 x31 x32 x33 x34 x35 x36 x37 x38 x39 x40 x41 x42 x43 x44 x45 x46 x47 x48 = true := by
  unfold P45z50
  simp only [P64_t, P43_t, P44_t, P14_t, P15_t, P12_t, P13_t, P88_t, P11_t, P24_t, P26_t, P27_t, P29_t, P55_t, P56_t, P57_t, P58_t, P59_t, P60_t, P70_t, P74_t, P80_t, P81_t, P82_t, P83_t, P84a_t, P84b_t, P93_t, P98_t, P99_t, P100_t, P118_t, P121_t, P128_t, P34z1_u, P61z3_u, P33z2_u, P45z6_u, P75z9_u, P31z11_u, P41z10_u, P87z8_u, P89z7_u, P65z5_u, P45z13_u, P89z14_u, P65z12_u, P45z16_u, P89z17_u, P65z15_u, P45z19_u, P45z20_u, P108z22_u, P108z23_u, P108z24_u, P108z25_u, P113z26_u, P113z27_u, P113z28_u, P91z21_u, P85z32_u, P66z31_u, P67z30_u, P101z33_u, P84z35_u, P123z34_u, P105z29_u, P65z18_u, P45z37_u, P45z38_u, P65z36_u, P45z40_u, P45z41_u, P65z39_u, P45z43_u, P45z44_u, P104z45_u, P65z42_u, P45z47_u, P45z48_u, P65z46_u, allB_nil, allB_cons, Bool.true_and, Bool.and_true, Bool.and_self]
  repeat' (split <;> try rfl)
theorem P122z52_u (x0 x1 x2 x3 x4 x5 : Int) : P122z52 x0 x1 x2 x3 x4 x5 = true := by
  unfold P122z52 P122z52_r273 P122z52_r274
  simp only [P64_t, P43_t, P44_t, P14_t, P15_t, P12_t, P13_t, P88_t, P11_t, P24_t, P26_t, P27_t, P29_t, P55_t, P56_t, P57_t, P58_t, P59_t, P60_t, P70_t, P74_t, P80_t, P81_t, P82_t, P83_t, P84a_t, P84b_t, P93_t, P98_t, P99_t, P100_t, P118_t, P121_t, P128_t, P34z1_u, P61z3_u, P33z2_u, P45z6_u, P75z9_u, P31z11_u, P41z10_u, P87z8_u, P89z7_u, P65z5_u, P45z13_u, P89z14_u, P65z12_u, P45z16_u, P89z17_u, P65z15_u, P45z19_u, P45z20_u, P108z22_u, P108z23_u, P108z24_u, P108z25_u, P113z26_u, P113z27_u, P113z28_u, P91z21_u, P85z32_u, P66z31_u, P67z30_u, P101z33_u, P84z35_u, P123z34_u, P105z29_u, P65z18_u, P45z37_u, P45z38_u, P65z36_u, P45z40_u, P45z41_u, P65z39_u, P45z43_u, P45z44_u, P104z45_u, P65z42_u, P45z47_u, P45z48_u, P65z46_u, P45z50_u, allB_nil, allB_cons, Bool.true_and, Bool.and_true, Bool.and_self]
  repeat' (split <;> try rfl)
theorem P102z51_u (x0 x1 x2 x3 x4 x5 : Int) (x6 : Bool) (x7 x8 x9 x10 x11 x12 : Int) (x13 : Bool) (x14 x15 x16 x17 x18 x19 x20 x21 x22 x23 : Int) : P102z51 x0 x1 x2 x3 x4 x5 x6 x7 x8 x9 x10 x11 x12 x13 x14 x15 x16 x17 x18 x19 x20 x21 x22 x23 = true := by
  unfold P102z51 P102z51_r277 P102z51_r278
  simp only [P64_t, P43_t, P44_t, P14_t, P15_t, P12_t, P13_t, P88_t, P11_t, P24_t, P26_t, P27_t, P29_t, P55_t, P56_t, P57_t, P58_t, P59_t, P60_t, P70_t, P74_t, P80_t, P81_t, P82_t, P83_t, P84a_t, P84b_t, P93_t, P98_t, P99_t, P100_t, P118_t, P121_t, P128_t, P34z1_u, P61z3_u, P33z2_u, P45z6_u, P75z9_u, P31z11_u, P41z10_u, P87z8_u, P89z7_u, P65z5_u, P45z13_u, P89z14_u, P65z12_u, P45z16_u, P89z17_u, P65z15_u, P45z19_u, P45z20_u, P108z22_u, P108z23_u, P108z24_u, P108z25_u, P113z26_u, P113z27_u, P113z28_u, P91z21_u, P85z32_u, P66z31_u, P67z30_u, P101z33_u, P84z35_u, P123z34_u, P105z29_u, P65z18_u, P45z37_u, P45z38_u, P65z36_u, P45z40_u, P45z41_u, P65z39_u, P45z43_u, P45z44_u, P104z45_u, P65z42_u, P45z47_u, P45z48_u, P65z46_u, P45z50_u, P122z52_u, allB_nil, allB_cons, Bool.true_and, Bool.and_true, Bool.and_self]
  repeat' (split <;> try rfl)
theorem P65z49_u (x0 x1 : Int) (x2 : Bool) (x3 x4 x5 x6 x7 x8 : Int) (x9 : Bool) (x10 x11 x12 x13 x14 x15 : Int) (x16 : Bool) (x17 x18 x19 x20 x21 x22 : Int) (x23 : Bool) (x24 x25 x26 x27 x28 x29 : Int) (x30 : Bool) (x31 x32 x33 x34 x35 x36 : Int) (x37 : Bool) (x38 x39 x40 x41 x42 x43 : Int) (x44 : Bool) (x45 x46 x47 x48 x49 x50 x51 x52 x53 x54 : Int) : P65z49 x0 x1 x2 x3 x4 x5 x6 x7 x8 x9 x10 x11 x12 x13 x14 x15 x16 x17 x18 x19 x20 x21 x22 x23 x24 x25 x26 x27 x28 x29 x30 x31 x32 x33 x34 x35 x36 x37 x38 x39 x40 x41 x42 x43 x44 x45 x46 x47 x48 x49 x50 x51 x52 x53 x54 = true := by
  unfold P65z49 P65z49_r282
  simp only [P64_t, P43_t, P44_t, P14_t, P15_t, P12_t, P13_t, P88_t, P11_t, P24_t, P26_t, P27_t, P29_t, P55_t, P56_t, P57_t, P58_t, P59_t, P60_t, P70_t, P74_t, P80_t, P81_t, P82_t, P83_t, P84a_t, P84b_t, P93_t, P98_t, P99_t, P100_t, P118_t, P121_t, P128_t, P34z1_u, P61z3_u, P33z2_u, P45z6_u, P75z9_u, P31z11_u, P41z10_u, P87z8_u, P89z7_u, P65z5_u, P45z13_u, P89z14_u, P65z12_u, P45z16_u, P89z17_u, P65z15_u, P45z19_u, P45z20_u, P108z22_u, P108z23_u, P108z24_u, P108z25_u, P113z26_u, P113z27_u, P113z28_u, P91z21_u, P85z32_u, P66z31_u, P67z30_u, P101z33_u, P84z35_u, P123z34_u, P105z29_u, P65z18_u, P45z37_u, P45z38_u, P65z36_u, P45z40_u, P45z41_u, P65z39_u, P45z43_u, P45z44_u, P104z45_u, P65z42_u, P45z47_u, P45z48_u, P65z46_u, P45z50_u, P122z52_u, P102z51_u, allB_nil, allB_cons, Bool.true_and, Bool.and_true, Bool.and_self]
  repeat' (split <;> try rfl)
theorem P35z4_u (x0 x1 x2 x3 x4 x5 : Int) : P35z4 x0 x1 x2 x3 x4 x5 = true := by
  unfold P35z4 P35z4_r285 P35z4_r287 P35z4_r289 P35z4_r291 P35z4_r293 P35z4_r295 P35z4_r297 P35z4_r299 P35z4_r301
  simp only [P64_t, P43_t, P44_t, P14_t, P15_t, P12_t, P13_t, P88_t, P11_t, P24_t, P26_t, P27_t, P29_t, P55_t, P56_t, P57_t, P58_t, P59_t, P60_t, P70_t, P74_t, P80_t, P81_t, P82_t, P83_t, P84a_t, P84b_t, P93_t, P98_t, P99_t, P100_t, P118_t, P121_t, P128_t, P34z1_u, P61z3_u, P33z2_u, P45z6_u, P75z9_u, P31z11_u, P41z10_u, P87z8_u, P89z7_u, P65z5_u, P45z13_u, P89z14_u, P65z12_u, P45z16_u, P89z17_u, P65z15_u, P45z19_u, P45z20_u, P108z22_u, P108z23_u, P108z24_u, P108z25_u, P113z26_u, P113z27_u, P113z28_u, P91z21_u, P85z32_u, P66z31_u, P67z30_u, P101z33_u, P84z35_u, P123z34_u, P105z29_u, P65z18_u, P45z37_u, P45z38_u, P65z36_u, P45z40_u, P45z41_u, P65z39_u, P45z43_u, P45z44_u, P104z45_u, P65z42_u, P45z47_u, P45z48_u, P65z46_u, P45z50_u, P122z52_u, P102z51_u, P65z49_u, allB_nil, allB_cons, Bool.true_and, Bool.and_true, Bool.and_self]
  repeat' (split <;> try rfl)
theorem P36z53_u  : P36z53  = true := by
  unfold P36z53
  simp only [P64_t, P43_t, P44_t, P14_t, P15_t, P12_t, P13_t, P88_t, P11_t, P24_t, P26_t, P27_t, P29_t, P55_t, P56_t, P57_t, P58_t, P59_t, P60_t, P70_t, P74_t, P80_t, P81_t, P82_t, P83_t, P84a_t, P84b_t, P93_t, P98_t, P99_t, P100_t, P118_t, P121_t, P128_t, P34z1_u, P61z3_u, P33z2_u, P45z6_u, P75z9_u, P31z11_u, P41z10_u, P87z8_u, P89z7_u, P65z5_u, P45z13_u, P89z14_u, P65z12_u, P45z16_u, P89z17_u, P65z15_u, P45z19_u, P45z20_u, P108z22_u, P108z23_u, P108z24_u, P108z25_u, P113z26_u, P113z27_u, P113z28_u, P91z21_u, P85z32_u, P66z31_u, P67z30_u, P101z33_u, P84z35_u, P123z34_u, P105z29_u, P65z18_u, P45z37_u, P45z38_u, P65z36_u, P45z40_u, P45z41_u, P65z39_u, P45z43_u, P45z44_u, P104z45_u, P65z42_u, P45z47_u, P45z48_u, P65z46_u, P45z50_u, P122z52_u, P102z51_u, P65z49_u, P35z4_u, allB_nil, allB_cons, Bool.true_and, Bool.and_true, Bool.and_self]
  repeat' (split <;> try rfl)
theorem P16z0_u (x0 x1 x2 x3 x4 x5 : Int) : P16z0 x0 x1 x2 x3 x4 x5 = true := by
  unfold P16z0 P16z0_r307
  simp only [P64_t, P43_t, P44_t, P14_t, P15_t, P12_t, P13_t, P88_t, P11_t, P24_t, P26_t, P27_t, P29_t, P55_t, P56_t, P57_t, P58_t, P59_t, P60_t, P70_t, P74_t, P80_t, P81_t, P82_t, P83_t, P84a_t, P84b_t, P93_t, P98_t, P99_t, P100_t, P118_t, P121_t, P128_t, P34z1_u, P61z3_u, P33z2_u, P45z6_u, P75z9_u, P31z11_u, P41z10_u, P87z8_u, P89z7_u, P65z5_u, P45z13_u, P89z14_u, P65z12_u, P45z16_u, P89z17_u, P65z15_u, P45z19_u, P45z20_u, P108z22_u, P108z23_u, P108z24_u, P108z25_u, P113z26_u, P113z27_u, P113z28_u, P91z21_u, P85z32_u, P66z31_u, P67z30_u, P101z33_u, P84z35_u, P123z34_u, P105z29_u, P65z18_u, P45z37_u, P45z38_u, P65z36_u, P45z40_u, P45z41_u, P65z39_u, P45z43_u, P45z44_u, P104z45_u, P65z42_u, P45z47_u, P45z48_u, P65z46_u, P45z50_u, P122z52_u, P102z51_u, P65z49_u, P35z4_u, P36z53_u, allB_nil, allB_cons, Bool.true_and, Bool.and_true, Bool.and_self]
  repeat' (split <;> try rfl)
theorem P40z57_u (x0 x1 x2 x3 x4 x5 : Int) : P40z57 x0 x1 x2 x3 x4 x5 = true := by
  unfold P40z57 P40z57_r332
  simp only [P64_t, P43_t, P44_t, P14_t, P15_t, P12_t, P13_t, P88_t, P11_t, P24_t, P26_t, P27_t, P29_t, P55_t, P56_t, P57_t, P58_t, P59_t, P60_t, P70_t, P74_t, P80_t, P81_t, P82_t, P83_t, P84a_t, P84b_t, P93_t, P98_t, P99_t, P100_t, P118_t, P121_t, P128_t, P34z1_u, P61z3_u, P33z2_u, P45z6_u, P75z9_u, P31z11_u, P41z10_u, P87z8_u, P89z7_u, P65z5_u, P45z13_u, P89z14_u, P65z12_u, P45z16_u, P89z17_u, P65z15_u, P45z19_u, P45z20_u, P108z22_u, P108z23_u, P108z24_u, P108z25_u, P113z26_u, P113z27_u, P113z28_u, P91z21_u, P85z32_u, P66z31_u, P67z30_u, P101z33_u, P84z35_u, P123z34_u, P105z29_u, P65z18_u, P45z37_u, P45z38_u, P65z36_u, P45z40_u, P45z41_u, P65z39_u, P45z43_u, P45z44_u, P104z45_u, P65z42_u, P45z47_u, P45z48_u, P65z46_u, P45z50_u, P122z52_u, P102z51_u, P65z49_u, P35z4_u, P36z53_u, P16z0_u, allB_nil, allB_cons, Bool.true_and, Bool.and_true, Bool.and_self]
  repeat' (split <;> try rfl)
theorem P73z56_u (x0 x1 x2 x3 x4 x5 : Int) : P73z56 x0 x1 x2 x3 x4 x5 = true := by
  unfold P73z56 P73z56_r333
  simp only [P64_t, P43_t, P44_t, P14_t, P15_t, P12_t, P13_t, P88_t, P11_t, P24_t, P26_t, P27_t, P29_t, P55_t, P56_t, P57_t, P58_t, P59_t, P60_t, P70_t, P74_t, P80_t, P81_t, P82_t, P83_t, P84a_t, P84b_t, P93_t, P98_t, P99_t, P100_t, P118_t, P121_t, P128_t, P34z1_u, P61z3_u, P33z2_u, P45z6_u, P75z9_u, P31z11_u, P41z10_u, P87z8_u, P89z7_u, P65z5_u, P45z13_u, P89z14_u, P65z12_u, P45z16_u, P89z17_u, P65z15_u, P45z19_u, P45z20_u, P108z22_u, P108z23_u, P108z24_u, P108z25_u, P113z26_u, P113z27_u, P113z28_u, P91z21_u, P85z32_u, P66z31_u, P67z30_u, P101z33_u, P84z35_u, P123z34_u, P105z29_u, P65z18_u, P45z37_u, P45z38_u, P65z36_u, P45z40_u, P45z41_u, P65z39_u, P45z43_u, P45z44_u, P104z45_u, P65z42_u, P45z47_u, P45z48_u, P65z46_u, P45z50_u, P122z52_u, P102z51_u, P65z49_u, P35z4_u, P36z53_u, P16z0_u, P40z57_u, allB_nil, allB_cons, Bool.true_and, Bool.and_true, Bool.and_self]
  repeat' (split <;> try rfl)
theorem P39z55_u (x0 x1 x2 x3 x4 x5 : Int) : P39z55 x0 x1 x2 x3 x4 x5 = true := by
  unfold P39z55 P39z55_r340
  simp only [P64_t, P43_t, P44_t, P14_t, P15_t, P12_t, P13_t, P88_t, P11_t, P24_t, P26_t, P27_t, P29_t, P55_t, P56_t, P57_t, P58_t, P59_t, P60_t, P70_t, P74_t, P80_t, P81_t, P82_t, P83_t, P84a_t, P84b_t, P93_t, P98_t, P99_t, P100_t, P118_t, P121_t, P128_t, P34z1_u, P61z3_u, P33z2_u, P45z6_u, P75z9_u, P31z11_u, P41z10_u, P87z8_u, P89z7_u, P65z5_u, P45z13_u, P89z14_u, P65z12_u, P45z16_u, P89z17_u, P65z15_u, P45z19_u, P45z20_u, P108z22_u, P108z23_u, P108z24_u, P108z25_u, P113z26_u, P113z27_u, P113z28_u, P91z21_u, P85z32_u, P66z31_u, P67z30_u, P101z33_u, P84z35_u, P123z34_u, P105z29_u, P65z18_u, P45z37_u, P45z38_u, P65z36_u, P45z40_u, P45z41_u, P65z39_u, P45z43_u, P45z44_u, P104z45_u, P65z42_u, P45z47_u, P45z48_u, P65z46_u, P45z50_u, P122z52_u, P102z51_u, P65z49_u, P35z4_u, P36z53_u, P16z0_u, P40z57_u, P73z56_u, allB_nil, allB_cons, Bool.true_and, Bool.and_true, Bool.and_self]
  repeat' (split <;> try rfl)
theorem P86z61_u (x0 x1 x2 x3 x4 x5 : Int) : P86z61 x0 x1 x2 x3 x4 x5 = true := by
  unfold P86z61 P86z61_r344 P86z61_r345
  simp only [P64_t, P43_t, P44_t, P14_t, P15_t, P12_t, P13_t, P88_t, P11_t, P24_t, P26_t, P27_t, P29_t, P55_t, P56_t, P57_t, P58_t, P59_t, P60_t, P70_t, P74_t, P80_t, P81_t, P82_t, P83_t, P84a_t, P84b_t, P93_t, P98_t, P99_t, P100_t, P118_t, P121_t, P128_t, P34z1_u, P61z3_u, P33z2_u, P45z6_u, P75z9_u, P31z11_u, P41z10_u, P87z8_u, P89z7_u, P65z5_u, P45z13_u, P89z14_u, P65z12_u, P45z16_u, P89z17_u, P65z15_u, P45z19_u, P45z20_u, P108z22_u, P108z23_u, P108z24_u, P108z25_u, P113z26_u, P113z27_u, P113z28_u, P91z21_u, P85z32_u, P66z31_u, P67z30_u, P101z33_u, P84z35_u, P123z34_u, P105z29_u, P65z18_u, P45z37_u, P45z38_u, P65z36_u, P45z40_u, P45z41_u, P65z39_u, P45z43_u, P45z44_u, P104z45_u, P65z42_u, P45z47_u, P45z48_u, P65z46_u, P45z50_u, P122z52_u, P102z51_u, P65z49_u, P35z4_u, P36z53_u, P16z0_u, P40z57_u, P73z56_u, P39z55_u, allB_nil, allB_cons, Bool.true_and, Bool.and_true, Bool.and_self]
  repeat' (split <;> try rfl)
theorem P72z60_u (x0 x1 x2 x3 x4 x5 : Int) (x6 : Bool) (x7 x8 x9 x10 x11 x12 : Int) (x13 : Bool) (x14 x15 x16 x17 x18 x19 x20 x21 x22 x23 : Int) : P72z60 x0 x1 x2 x3 x4 x5 x6 x7 x8 x9 x10 x11 x12 x13 x14 x15 x16 x17 x18 x19 x20 x21 x22 x23 = true := by
  unfold P72z60 P72z60_r346 P72z60_r351 P72z60_r352 P72z60_r353 P72z60_r347 P72z60_r348 P72z60_r349 P72z60_r350
  simp only [P64_t, P43_t, P44_t, P14_t, P15_t, P12_t, P13_t, P88_t, P11_t, P24_t, P26_t, P27_t, P29_t, P55_t, P56_t, P57_t, P58_t, P59_t, P60_t, P70_t, P74_t, P80_t, P81_t, P82_t, P83_t, P84a_t, P84b_t, P93_t, P98_t, P99_t, P100_t, P118_t, P121_t, P128_t, P34z1_u, P61z3_u, P33z2_u, P45z6_u, P75z9_u, P31z11_u, P41z10_u, P87z8_u, P89z7_u, P65z5_u, P45z13_u, P89z14_u, P65z12_u, P45z16_u, P89z17_u, P65z15_u, P45z19_u, P45z20_u, P108z22_u, P108z23_u, P108z24_u, P108z25_u, P113z26_u, P113z27_u, P113z28_u, P91z21_u, P85z32_u, P66z31_u, P67z30_u, P101z33_u, P84z35_u, P123z34_u, P105z29_u, P65z18_u, P45z37_u, P45z38_u, P65z36_u, P45z40_u, P45z41_u, P65z39_u, P45z43_u, P45z44_u, P104z45_u, P65z42_u, P45z47_u, P45z48_u, P65z46_u, P45z50_u, P122z52_u, P102z51_u, P65z49_u, P35z4_u, P36z53_u, P16z0_u, P40z57_u, P73z56_u, P39z55_u, P86z61_u, allB_nil, allB_cons, Bool.true_and, Bool.and_true, Bool.and_self]
  repeat' (split <;> try rfl)
theorem P76z59_u (x0 x1 x2 x3 x4 x5 : Int) : P76z59 x0 x1 x2 x3 x4 x5 = true := by
  unfold P76z59 P76z59_r354
  simp only [P64_t, P43_t, P44_t, P14_t, P15_t, P12_t, P13_t, P88_t, P11_t, P24_t, P26_t, P27_t, P29_t, P55_t, P56_t, P57_t, P58_t, P59_t, P60_t, P70_t, P74_t, P80_t, P81_t, P82_t, P83_t, P84a_t, P84b_t, P93_t, P98_t, P99_t, P100_t, P118_t, P121_t, P128_t, P34z1_u, P61z3_u, P33z2_u, P45z6_u, P75z9_u, P31z11_u, P41z10_u, P87z8_u, P89z7_u, P65z5_u, P45z13_u, P89z14_u, P65z12_u, P45z16_u, P89z17_u, P65z15_u, P45z19_u, P45z20_u, P108z22_u, P108z23_u, P108z24_u, P108z25_u, P113z26_u, P113z27_u, P113z28_u, P91z21_u, P85z32_u, P66z31_u, P67z30_u, P101z33_u, P84z35_u, P123z34_u, P105z29_u, P65z18_u, P45z37_u, P45z38_u, P65z36_u, P45z40_u, P45z41_u, P65z39_u, P45z43_u, P45z44_u, P104z45_u, P65z42_u, P45z47_u, P45z48_u, P65z46_u, P45z50_u, P122z52_u, P102z51_u, P65z49_u, P35z4_u, P36z53_u, P16z0_u, P40z57_u, P73z56_u, P39z55_u, P86z61_u, P72z60_u, allB_nil, allB_cons, Bool.true_and, Bool.and_true, Bool.and_self]
  repeat' (split <;> try rfl)
theorem P42z58_u (x0 x1 x2 x3 x4 x5 : Int) : P42z58 x0 x1 x2 x3 x4 x5 = true := by
  unfold P42z58 P42z58_r361
  simp only [P64_t, P43_t, P44_t, P14_t, P15_t, P12_t, P13_t, P88_t, P11_t, P24_t, P26_t, P27_t, P29_t, P55_t, P56_t, P57_t, P58_t, P59_t, P60_t, P70_t, P74_t, P80_t, P81_t, P82_t, P83_t, P84a_t, P84b_t, P93_t, P98_t, P99_t, P100_t, P118_t, P121_t, P128_t, P34z1_u, P61z3_u, P33z2_u, P45z6_u, P75z9_u, P31z11_u, P41z10_u, P87z8_u, P89z7_u, P65z5_u, P45z13_u, P89z14_u, P65z12_u, P45z16_u, P89z17_u, P65z15_u, P45z19_u, P45z20_u, P108z22_u, P108z23_u, P108z24_u, P108z25_u, P113z26_u, P113z27_u, P113z28_u, P91z21_u, P85z32_u, P66z31_u, P67z30_u, P101z33_u, P84z35_u, P123z34_u, P105z29_u, P65z18_u, P45z37_u, P45z38_u, P65z36_u, P45z40_u, P45z41_u, P65z39_u, P45z43_u, P45z44_u, P104z45_u, P65z42_u, P45z47_u, P45z48_u, P65z46_u, P45z50_u, P122z52_u, P102z51_u, P65z49_u, P35z4_u, P36z53_u, P16z0_u, P40z57_u, P73z56_u, P39z55_u, P86z61_u, P72z60_u, P76z59_u, allB_nil, allB_cons, Bool.true_and, Bool.and_true, Bool.and_self]
  repeat' (split <;> try rfl)
theorem P17z54_u (x0 x1 x2 x3 x4 x5 : Int) : P17z54 x0 x1 x2 x3 x4 x5 = true := by
  unfold P17z54 P17z54_r362 P17z54_r364 P17z54_r365
  simp only [P64_t, P43_t, P44_t, P14_t, P15_t, P12_t, P13_t, P88_t, P11_t, P24_t, P26_t, P27_t, P29_t, P55_t, P56_t, P57_t, P58_t, P59_t, P60_t, P70_t, P74_t, P80_t, P81_t, P82_t, P83_t, P84a_t, P84b_t, P93_t, P98_t, P99_t, P100_t, P118_t, P121_t, P128_t, P34z1_u, P61z3_u, P33z2_u, P45z6_u, P75z9_u, P31z11_u, P41z10_u, P87z8_u, P89z7_u, P65z5_u, P45z13_u, P89z14_u, P65z12_u, P45z16_u, P89z17_u, P65z15_u, P45z19_u, P45z20_u, P108z22_u, P108z23_u, P108z24_u, P108z25_u, P113z26_u, P113z27_u, P113z28_u, P91z21_u, P85z32_u, P66z31_u, P67z30_u, P101z33_u, P84z35_u, P123z34_u, P105z29_u, P65z18_u, P45z37_u, P45z38_u, P65z36_u, P45z40_u, P45z41_u, P65z39_u, P45z43_u, P45z44_u, P104z45_u, P65z42_u, P45z47_u, P45z48_u, P65z46_u, P45z50_u, P122z52_u, P102z51_u, P65z49_u, P35z4_u, P36z53_u, P16z0_u, P40z57_u, P73z56_u, P39z55_u, P86z61_u, P72z60_u, P76z59_u, P42z58_u, allB_nil, allB_cons, Bool.true_and, Bool.and_true, Bool.and_self]
  repeat' (split <;> try rfl)
theorem P18z62_u (x0 x1 x2 x3 x4 x5 : Int) : P18z62 x0 x1 x2 x3 x4 x5 = true := by
  unfold P18z62 P18z62_r392
  simp only [P64_t, P43_t, P44_t, P14_t, P15_t, P12_t, P13_t, P88_t, P11_t, P24_t, P26_t, P27_t, P29_t, P55_t, P56_t, P57_t, P58_t, P59_t, P60_t, P70_t, P74_t, P80_t, P81_t, P82_t, P83_t, P84a_t, P84b_t, P93_t, P98_t, P99_t, P100_t, P118_t, P121_t, P128_t, P34z1_u, P61z3_u, P33z2_u, P45z6_u, P75z9_u, P31z11_u, P41z10_u, P87z8_u, P89z7_u, P65z5_u, P45z13_u, P89z14_u, P65z12_u, P45z16_u, P89z17_u, P65z15_u, P45z19_u, P45z20_u, P108z22_u, P108z23_u, P108z24_u, P108z25_u, P113z26_u, P113z27_u, P113z28_u, P91z21_u, P85z32_u, P66z31_u, P67z30_u, P101z33_u, P84z35_u, P123z34_u, P105z29_u, P65z18_u, P45z37_u, P45z38_u, P65z36_u, P45z40_u, P45z41_u, P65z39_u, P45z43_u, P45z44_u, P104z45_u, P65z42_u, P45z47_u, P45z48_u, P65z46_u, P45z50_u, P122z52_u, P102z51_u, P65z49_u, P35z4_u, P36z53_u, P16z0_u, P40z57_u, P73z56_u, P39z55_u, P86z61_u, P72z60_u, P76z59_u, P42z58_u, P17z54_u, allB_nil, allB_cons, Bool.true_and, Bool.and_true, Bool.and_self]
  repeat' (split <;> try rfl)
theorem P28z64_u (x0 x1 x2 x3 x4 x5 : Int) (x6 : Bool) (x7 x8 x9 x10 x11 x12 x13 x14 x15 x16 : Int) : P28z64 x0 x1 x2 x3 x4 x5 x6 x7 x8 x9 x10 x11 x12 x13 x14 x15 x16 = true := by
  unfold P28z64
  simp only [P64_t, P43_t, P44_t, P14_t, P15_t, P12_t, P13_t, P88_t, P11_t, P24_t, P26_t, P27_t, P29_t, P55_t, P56_t, P57_t, P58_t, P59_t, P60_t, P70_t, P74_t, P80_t, P81_t, P82_t, P83_t, P84a_t, P84b_t, P93_t, P98_t, P99_t, P100_t, P118_t, P121_t, P128_t, P34z1_u, P61z3_u, P33z2_u, P45z6_u, P75z9_u, P31z11_u, P41z10_u, P87z8_u, P89z7_u, P65z5_u, P45z13_u, P89z14_u, P65z12_u, P45z16_u, P89z17_u, P65z15_u, P45z19_u, P45z20_u, P108z22_u, P108z23_u, P108z24_u, P108z25_u, P113z26_u, P113z27_u, P113z28_u, P91z21_u, P85z32_u, P66z31_u, P67z30_u, P101z33_u, P84z35_u, P123z34_u, P105z29_u, P65z18_u, P45z37_u, P45z38_u, P65z36_u, P45z40_u, P45z41_u, P65z39_u, P45z43_u, P45z44_u, P104z45_u, P65z42_u, P45z47_u, P45z48_u, P65z46_u, P45z50_u, P122z52_u, P102z51_u, P65z49_u, P35z4_u, P36z53_u, P16z0_u, P40z57_u, P73z56_u, P39z55_u, P86z61_u, P72z60_u, P76z59_u, P42z58_u, P17z54_u, P18z62_u, allB_nil, allB_cons, Bool.true_and, Bool.and_true, Bool.and_self]
  repeat' (split <;> try rfl)
theorem P30z65_u (x0 x1 x2 x3 x4 x5 : Int) (x6 : Bool) (x7 x8 x9 x10 x11 x12 x13 x14 x15 x16 : Int) : P30z65 x0 x1 x2 x3 x4 x5 x6 x7 x8 x9 x10 x11 x12 x13 x14 x15 x16 = true := by
  unfold P30z65 P30z65_r431 P30z65_r432 P30z65_r433 P30z65_r434 P30z65_r435 P30z65_r436 P30z65_r437
  simp only [P64_t, P43_t, P44_t, P14_t, P15_t, P12_t, P13_t, P88_t, P11_t, P24_t, P26_t, P27_t, P29_t, P55_t, P56_t, P57_t, P58_t, P59_t, P60_t, P70_t, P74_t, P80_t, P81_t, P82_t, P83_t, P84a_t, P84b_t, P93_t, P98_t, P99_t, P100_t, P118_t, P121_t, P128_t, P34z1_u, P61z3_u, P33z2_u, P45z6_u, P75z9_u, P31z11_u, P41z10_u, P87z8_u, P89z7_u, P65z5_u, P45z13_u, P89z14_u, P65z12_u, P45z16_u, P89z17_u, P65z15_u, P45z19_u, P45z20_u, P108z22_u, P108z23_u, P108z24_u, P108z25_u, P113z26_u, P113z27_u, P113z28_u, P91z21_u, P85z32_u, P66z31_u, P67z30_u, P101z33_u, P84z35_u, P123z34_u, P105z29_u, P65z18_u, P45z37_u, P45z38_u, P65z36_u, P45z40_u, P45z41_u, P65z39_u, P45z43_u, P45z44_u, P104z45_u, P65z42_u, P45z47_u, P45z48_u, P65z46_u, P45z50_u, P122z52_u, P102z51_u, P65z49_u, P35z4_u, P36z53_u, P16z0_u, P40z57_u, P73z56_u, P39z55_u, P86z61_u, P72z60_u, P76z59_u, P42z58_u, P17z54_u, P18z62_u, P28z64_u, allB_nil, allB_cons, Bool.true_and, Bool.and_true, Bool.and_self]
  repeat' (split <;> try rfl)
theorem P8z63_u (x0 x1 x2 x3 x4 x5 : Int) (x6 : Bool) (x7 x8 x9 x10 x11 x12 x13 x14 x15 x16 : Int) : P8z63 x0 x1 x2 x3 x4 x5 x6 x7 x8 x9 x10 x11 x12 x13 x14 x15 x16 = true := by
  unfold P8z63 P8z63_r439 P8z63_r440 P8z63_r441 P8z63_r442 P8z63_r443 P8z63_r444 P8z63_r445
  simp only [P64_t, P43_t, P44_t, P14_t, P15_t, P12_t, P13_t, P88_t, P11_t, P24_t, P26_t, P27_t, P29_t, P55_t, P56_t, P57_t, P58_t, P59_t, P60_t, P70_t, P74_t, P80_t, P81_t, P82_t, P83_t, P84a_t, P84b_t, P93_t, P98_t, P99_t, P100_t, P118_t, P121_t, P128_t, P34z1_u, P61z3_u, P33z2_u, P45z6_u, P75z9_u, P31z11_u, P41z10_u, P87z8_u, P89z7_u, P65z5_u, P45z13_u, P89z14_u, P65z12_u, P45z16_u, P89z17_u, P65z15_u, P45z19_u, P45z20_u, P108z22_u, P108z23_u, P108z24_u, P108z25_u, P113z26_u, P113z27_u, P113z28_u, P91z21_u, P85z32_u, P66z31_u, P67z30_u, P101z33_u, P84z35_u, P123z34_u, P105z29_u, P65z18_u, P45z37_u, P45z38_u, P65z36_u, P45z40_u, P45z41_u, P65z39_u, P45z43_u, P45z44_u, P104z45_u, P65z42_u, P45z47_u, P45z48_u, P65z46_u, P45z50_u, P122z52_u, P102z51_u, P65z49_u, P35z4_u, P36z53_u, P16z0_u, P40z57_u, P73z56_u, P39z55_u, P86z61_u, P72z60_u, P76z59_u, P42z58_u, P17z54_u, P18z62_u, P28z64_u, P30z65_u, allB_nil, allB_cons, Bool.true_and, Bool.and_true, Bool.and_self]
  repeat' (split <;> try rfl)
end Go.Proofs.YtomcbkfnbagekaaGreat
/- The forms of the sums: each instruction's, and what is checked of them. -/
set_option linter.unusedVariables false
set_option linter.unusedSimpArgs false
set_option maxRecDepth 100000
namespace Go.Proofs.YtomcbkfnbagekaaGreat
open Go Go.Vm
theorem i0e : Int.ofNat 0 = 0 := rfl
theorem i1e : Int.ofNat 1 = 1 := rfl
theorem can0 (G N : Int) : can G N 0 0 0 = (0, 0, 0) := by
  have h1 : cL G 0 0 = 0 := by unfold cL; split <;> rfl
  have h2 : cQ N G 0 0 = 0 := by unfold cQ; split <;> simp
  unfold can
  rw [h1, h2]; simp
theorem F66_u {i l q a b c : Int} : F66z31 false i l q a b c = decide (i = 0 ∧ l = 0 ∧ q = 0) := by
  unfold F66z31 F66z31_r133 F85z32
  rw [i0e]
  by_cases h1 : i = 0 <;> by_cases h2 : l = 0 <;> by_cases h3 : q = 0 <;> simp [h1, h2, h3]
theorem F67_u {i l q a c : Int} : F67z30 false i l q a a c = decide (i = 0 ∧ l = 0 ∧ q = 0) := by
  unfold F67z30 F67z30_r134
  rw [F66_u]
  by_cases h : i = 0 ∧ l = 0 ∧ q = 0
  · simp [h]
  · simp [h]
theorem F42_s (G N k0 k1 k2 k3 : Int) : F42z58 G N k0 k1 k2 k3 = true := by
  have e85 : F85z32 false 0 0 0 0 0 0 false 0 0 0 0 0 0 = true := rfl
  have e86 : F86z61 0 0 0 0 0 0 = (0, 0, 0) := by decide
  unfold F42z58 F76z59
  rw [i0e, i1e, show Int.ofNat 7 = 7 from rfl]
  unfold F72z60
  rw [if_neg (by decide), if_neg (by decide), e85]
  unfold F72z60_r346
  rw [if_pos rfl, e86]
  rfl
theorem w_8 {k : Int} (h : -128 ≤ k ∧ k ≤ 127) : wr .i64 k = k := w_id (by omega) (by omega)
theorem e43_u (x : Int) : F43 x = (false, 0, 0, 0, x, x, 0) := rfl
section
variable {G N : Int} (g1 : 1 ≤ G) (g2 : G ≤ 16) (n1 : 1 ≤ N) (n2 : N ≤ 8) {k0 k1 k2 k3 a1 a2 a3 a4 : Int}
include g1 g2 n1 n2
/-- a number times a form -/
theorem F105_u {A B C k : Int} (hA : -1 ≤ A ∧ A ≤ 1) (hB : -1 ≤ B ∧ B ≤ 1) (hC : -1 ≤ C ∧ C ≤ 1) (hk : -128 ≤ k ∧ k ≤ 128) :
    F105z29 G a1 a2 a3 a4 N false 0 0 0 k k 0 false (can G N A B C).1 (can G N A B C).2.1 (can G N A B C).2.2 0 0 0 k0 k1 k2 k3 = Fm G N (A * k) (B * k) (C * k) 0 := by
  obtain ⟨⟨b1, b2⟩, ⟨b3, b4⟩, b5, b6⟩ := can_bd (N := N) (B := 1) g1 g2 (by omega) hA.1 hA.2 hB.1 hB.2 hC.1 hC.2
  unfold F105z29 F105z29_r153
  rw [F67_u]
  by_cases h : (can G N A B C).1 = 0 ∧ (can G N A B C).2.1 = 0 ∧ (can G N A B C).2.2 = 0
  · rw [if_pos (decide_eq_true h)]
    have e := F101_u (G := G) (N := N) (A := 0) (B := 0) (C := 0) (c := k) (k := 0) (a1 := a1) (a2 := a2) (a3 := a3) (a4 := a4) (k0 := k0) (k1 := k1) (k2 := k2) (k3 := k3) (i := 0) (l := 0) (q := 0) (by rw [can0]) (by rw [can0]) (by rw [can0]) g1 g2 n1 n2 (by omega) (by omega) (by omega) (by omega) (by omega) (by omega) (by omega) (by omega) hk.1 hk.2 (by omega)
    rw [e]
    have e2 : can G N (A * k) (B * k) (C * k) = (0, 0, 0) := by
      rw [← can_mul g1, h.1, h.2.1, h.2.2]; simp only [Int.zero_mul]; exact can0 G N
    unfold F105z29_r154 Fm
    simp only [Int.zero_mul, Int.mul_zero, can0, e2]
  · rw [if_neg (by simpa using h)]
    unfold F105z29_r155
    rw [F67_u, if_pos (by simp)]
    rw [F101_u rfl rfl rfl g1 g2 n1 n2 (by omega) (by omega) (by omega) (by omega) (by omega) (by omega) hk.1 hk.2 (by omega) (by omega) (by omega)]
    unfold F105z29_r156 Fm
    simp only [Int.zero_mul]
/-- sums -/
theorem F104_u {A B C c D E F d : Int} (h1 : -128 ≤ A ∧ A ≤ 128) (h2 : -128 ≤ B ∧ B ≤ 128) (h3 : -128 ≤ C ∧ C ≤ 128) (h4 : -128 ≤ D ∧ D ≤ 128) (h5 : -128 ≤ E ∧ E ≤ 128) (h6 : -128 ≤ F ∧ F ≤ 128) (h7 : -128 ≤ c ∧ c ≤ 128) (h8 : -128 ≤ d ∧ d ≤ 128) :
    F104z45 G a1 a2 a3 a4 N false (can G N A B C).1 (can G N A B C).2.1 (can G N A B C).2.2 c c 0 false (can G N D E F).1 (can G N D E F).2.1 (can G N D E F).2.2 d d 0 k0 k1 k2 k3 = Fm G N (A + D) (B + E) (C + F) (c + d) := by
  obtain ⟨⟨b1, b2⟩, ⟨b3, b4⟩, b5, b6⟩ := can_bd (N := N) (B := 128) g1 g2 (by omega) h1.1 h1.2 h2.1 h2.2 h3.1 h3.2
  obtain ⟨⟨d1, d2⟩, ⟨d3, d4⟩, d5, d6⟩ := can_bd (N := N) (B := 128) g1 g2 (by omega) h4.1 h4.2 h5.1 h5.2 h6.1 h6.2
  unfold F104z45 F104z45_r222
  rw [if_neg (by decide), if_neg (by decide), F60_1 (by omega) (by omega) (by omega) (by omega), w_id (by omega : _ ≤ (can G N A B C).1 + (can G N D E F).1) (by omega), w_id (by omega : _ ≤ (can G N A B C).2.1 + (can G N D E F).2.1) (by omega), w_id (by omega : _ ≤ (can G N A B C).2.2 + (can G N D E F).2.2) (by omega)]
  simp only []
  rw [F87_u g1 g2 n1 n2 (by omega) (by omega) (by omega) (by omega) (by omega) (by omega) (by omega) (by omega)]
  unfold F104z45_r223 Fm
  rw [can_add g1]
theorem F102_u {A B C c D E F d : Int} (h1 : -128 ≤ A ∧ A ≤ 128) (h2 : -128 ≤ B ∧ B ≤ 128) (h3 : -128 ≤ C ∧ C ≤ 128) (h4 : -128 ≤ D ∧ D ≤ 128) (h5 : -128 ≤ E ∧ E ≤ 128) (h6 : -128 ≤ F ∧ F ≤ 128) (h7 : -128 ≤ c ∧ c ≤ 128) (h8 : -128 ≤ d ∧ d ≤ 128) :
    F102z51 G a1 a2 a3 a4 N false (can G N A B C).1 (can G N A B C).2.1 (can G N A B C).2.2 c c 0 false (can G N D E F).1 (can G N D E F).2.1 (can G N D E F).2.2 d d 0 k0 k1 k2 k3 = Fm G N (A - D) (B - E) (C - F) (c - d) := by
  obtain ⟨⟨b1, b2⟩, ⟨b3, b4⟩, b5, b6⟩ := can_bd (N := N) (B := 128) g1 g2 (by omega) h1.1 h1.2 h2.1 h2.2 h3.1 h3.2
  obtain ⟨⟨d1, d2⟩, ⟨d3, d4⟩, d5, d6⟩ := can_bd (N := N) (B := 128) g1 g2 (by omega) h4.1 h4.2 h5.1 h5.2 h6.1 h6.2
  unfold F102z51 F102z51_r277
  rw [if_neg (by decide), if_neg (by decide), F122_1 (by omega) (by omega) (by omega) (by omega), w_id (by omega : _ ≤ (can G N A B C).1 - (can G N D E F).1) (by omega), w_id (by omega : _ ≤ (can G N A B C).2.1 - (can G N D E F).2.1) (by omega), w_id (by omega : _ ≤ (can G N A B C).2.2 - (can G N D E F).2.2) (by omega)]
  simp only []
  rw [F87_u g1 g2 n1 n2 (by omega) (by omega) (by omega) (by omega) (by omega) (by omega) (by omega) (by omega)]
  unfold F102z51_r278 Fm
  rw [can_sub g1]
theorem F65z18_s (h0 : -128 ≤ k0 ∧ k0 ≤ 127) (h1 : -128 ≤ k1 ∧ k1 ≤ 127) (h2 : -128 ≤ k2 ∧ k2 ≤ 127) (h3 : -128 ≤ k3 ∧ k3 ≤ 127) (y1 : Bool × Int × Int × Int × Int × Int × Int) (y2 : Bool × Int × Int × Int × Int × Int × Int) : F65z18 G N k0 (Fm G N 1 0 0 0).fst (Fm G N 1 0 0 0).snd.fst (Fm G N 1 0 0 0).snd.snd.fst (Fm G N 1 0 0 0).snd.snd.snd.fst (Fm G N 1 0 0 0).snd.snd.snd.snd.fst (Fm G N 1 0 0 0).snd.snd.snd.snd.snd.fst (Fm G N 1 0 0 0).snd.snd.snd.snd.snd.snd (y1).fst (y1).snd.fst (y1).snd.snd.fst (y1).snd.snd.snd.fst (y1).snd.snd.snd.snd.fst (y1).snd.snd.snd.snd.snd.fst (y1).snd.snd.snd.snd.snd.snd (y2).fst (y2).snd.fst (y2).snd.snd.fst (y2).snd.snd.snd.fst (y2).snd.snd.snd.snd.fst (y2).snd.snd.snd.snd.snd.fst (y2).snd.snd.snd.snd.snd.snd k0 k1 k2 k3 = Fm G N k0 0 0 0 := by
  unfold F65z18 F65z18_r163 F65z18_r166 F45z19 F45z19_r97
  rw [w_8 h0, e43_u]
  simp only [i0e, i1e]
  unfold Fm
  simp only []
  rw [F105_u g1 g2 n1 n2 (by omega) (by omega) (by omega) (by omega)]
  unfold Fm
  simp only [Int.one_mul, Int.zero_mul]
theorem F65z36_s (h0 : -128 ≤ k0 ∧ k0 ≤ 127) (h1 : -128 ≤ k1 ∧ k1 ≤ 127) (h2 : -128 ≤ k2 ∧ k2 ≤ 127) (h3 : -128 ≤ k3 ∧ k3 ≤ 127) (y0 : Bool × Int × Int × Int × Int × Int × Int) (y2 : Bool × Int × Int × Int × Int × Int × Int) (y3 : Bool × Int × Int × Int × Int × Int × Int) : F65z36 G N k1 (y0).fst (y0).snd.fst (y0).snd.snd.fst (y0).snd.snd.snd.fst (y0).snd.snd.snd.snd.fst (y0).snd.snd.snd.snd.snd.fst (y0).snd.snd.snd.snd.snd.snd (Fm G N 0 1 0 0).fst (Fm G N 0 1 0 0).snd.fst (Fm G N 0 1 0 0).snd.snd.fst (Fm G N 0 1 0 0).snd.snd.snd.fst (Fm G N 0 1 0 0).snd.snd.snd.snd.fst (Fm G N 0 1 0 0).snd.snd.snd.snd.snd.fst (Fm G N 0 1 0 0).snd.snd.snd.snd.snd.snd (y2).fst (y2).snd.fst (y2).snd.snd.fst (y2).snd.snd.snd.fst (y2).snd.snd.snd.snd.fst (y2).snd.snd.snd.snd.snd.fst (y2).snd.snd.snd.snd.snd.snd (y3).fst (y3).snd.fst (y3).snd.snd.fst (y3).snd.snd.snd.fst (y3).snd.snd.snd.snd.fst (y3).snd.snd.snd.snd.snd.fst (y3).snd.snd.snd.snd.snd.snd k0 k1 k2 k3 = Fm G N 0 k1 0 0 := by
  unfold F65z36 F65z36_r179 F65z36_r182 F45z37 F45z37_r177
  rw [w_8 h1, e43_u]
  simp only [i0e, i1e]
  unfold Fm
  simp only []
  rw [F105_u g1 g2 n1 n2 (by omega) (by omega) (by omega) (by omega)]
  unfold Fm
  simp only [Int.one_mul, Int.zero_mul]
theorem F65z39_s (h0 : -128 ≤ k0 ∧ k0 ≤ 127) (h1 : -128 ≤ k1 ∧ k1 ≤ 127) (h2 : -128 ≤ k2 ∧ k2 ≤ 127) (h3 : -128 ≤ k3 ∧ k3 ≤ 127) (y0 : Bool × Int × Int × Int × Int × Int × Int) (y1 : Bool × Int × Int × Int × Int × Int × Int) (y3 : Bool × Int × Int × Int × Int × Int × Int) (y4 : Bool × Int × Int × Int × Int × Int × Int) : F65z39 G N k2 (y0).fst (y0).snd.fst (y0).snd.snd.fst (y0).snd.snd.snd.fst (y0).snd.snd.snd.snd.fst (y0).snd.snd.snd.snd.snd.fst (y0).snd.snd.snd.snd.snd.snd (y1).fst (y1).snd.fst (y1).snd.snd.fst (y1).snd.snd.snd.fst (y1).snd.snd.snd.snd.fst (y1).snd.snd.snd.snd.snd.fst (y1).snd.snd.snd.snd.snd.snd (Fm G N 0 0 1 0).fst (Fm G N 0 0 1 0).snd.fst (Fm G N 0 0 1 0).snd.snd.fst (Fm G N 0 0 1 0).snd.snd.snd.fst (Fm G N 0 0 1 0).snd.snd.snd.snd.fst (Fm G N 0 0 1 0).snd.snd.snd.snd.snd.fst (Fm G N 0 0 1 0).snd.snd.snd.snd.snd.snd (y3).fst (y3).snd.fst (y3).snd.snd.fst (y3).snd.snd.snd.fst (y3).snd.snd.snd.snd.fst (y3).snd.snd.snd.snd.snd.fst (y3).snd.snd.snd.snd.snd.snd (y4).fst (y4).snd.fst (y4).snd.snd.fst (y4).snd.snd.snd.fst (y4).snd.snd.snd.snd.fst (y4).snd.snd.snd.snd.snd.fst (y4).snd.snd.snd.snd.snd.snd k0 k1 k2 k3 = Fm G N 0 0 k2 0 := by
  unfold F65z39 F65z39_r197 F65z39_r200 F45z40 F45z40_r195
  rw [w_8 h2, e43_u]
  simp only [i0e, i1e]
  unfold Fm
  simp only []
  rw [F105_u g1 g2 n1 n2 (by omega) (by omega) (by omega) (by omega)]
  unfold Fm
  simp only [Int.one_mul, Int.zero_mul]
theorem F65z42_s (h0 : -128 ≤ k0 ∧ k0 ≤ 127) (h1 : -128 ≤ k1 ∧ k1 ≤ 127) (h2 : -128 ≤ k2 ∧ k2 ≤ 127) (h3 : -128 ≤ k3 ∧ k3 ≤ 127) (y0 : Bool × Int × Int × Int × Int × Int × Int) (y1 : Bool × Int × Int × Int × Int × Int × Int) (y2 : Bool × Int × Int × Int × Int × Int × Int) (y4 : Bool × Int × Int × Int × Int × Int × Int) (y5 : Bool × Int × Int × Int × Int × Int × Int) : F65z42 G N k3 (y0).fst (y0).snd.fst (y0).snd.snd.fst (y0).snd.snd.snd.fst (y0).snd.snd.snd.snd.fst (y0).snd.snd.snd.snd.snd.fst (y0).snd.snd.snd.snd.snd.snd (y1).fst (y1).snd.fst (y1).snd.snd.fst (y1).snd.snd.snd.fst (y1).snd.snd.snd.snd.fst (y1).snd.snd.snd.snd.snd.fst (y1).snd.snd.snd.snd.snd.snd (y2).fst (y2).snd.fst (y2).snd.snd.fst (y2).snd.snd.snd.fst (y2).snd.snd.snd.snd.fst (y2).snd.snd.snd.snd.snd.fst (y2).snd.snd.snd.snd.snd.snd (Fm G N k0 0 0 0).fst (Fm G N k0 0 0 0).snd.fst (Fm G N k0 0 0 0).snd.snd.fst (Fm G N k0 0 0 0).snd.snd.snd.fst (Fm G N k0 0 0 0).snd.snd.snd.snd.fst (Fm G N k0 0 0 0).snd.snd.snd.snd.snd.fst (Fm G N k0 0 0 0).snd.snd.snd.snd.snd.snd (y4).fst (y4).snd.fst (y4).snd.snd.fst (y4).snd.snd.snd.fst (y4).snd.snd.snd.snd.fst (y4).snd.snd.snd.snd.snd.fst (y4).snd.snd.snd.snd.snd.snd (y5).fst (y5).snd.fst (y5).snd.snd.fst (y5).snd.snd.snd.fst (y5).snd.snd.snd.snd.fst (y5).snd.snd.snd.snd.snd.fst (y5).snd.snd.snd.snd.snd.snd k0 k1 k2 k3 = Fm G N k0 0 0 k3 := by
  unfold F65z42 F65z42_r225 F65z42_r227 F45z44 F45z44_r216
  rw [w_8 h3, e43_u]
  simp only [i0e, i1e]
  unfold Fm
  simp only []
  have e := F104_u (a1 := 1) (a2 := Int.ofNat 7) (a3 := 0) (a4 := 0) (k0 := k0) (k1 := k1) (k2 := k2) (k3 := k3) g1 g2 n1 n2 (A := k0) (B := 0) (C := 0) (c := 0) (D := 0) (E := 0) (F := 0) (d := k3) (by omega) (by omega) (by omega) (by omega) (by omega) (by omega) (by omega) (by omega)
  rw [can0 G N] at e
  simp only [] at e
  rw [e]
  unfold Fm
  simp only [Int.add_zero, Int.zero_add]
theorem F65z46_s (h0 : -128 ≤ k0 ∧ k0 ≤ 127) (h1 : -128 ≤ k1 ∧ k1 ≤ 127) (h2 : -128 ≤ k2 ∧ k2 ≤ 127) (h3 : -128 ≤ k3 ∧ k3 ≤ 127) (y0 : Bool × Int × Int × Int × Int × Int × Int) (y1 : Bool × Int × Int × Int × Int × Int × Int) (y2 : Bool × Int × Int × Int × Int × Int × Int) (y3 : Bool × Int × Int × Int × Int × Int × Int) (y5 : Bool × Int × Int × Int × Int × Int × Int) : F65z46 G N (y0).fst (y0).snd.fst (y0).snd.snd.fst (y0).snd.snd.snd.fst (y0).snd.snd.snd.snd.fst (y0).snd.snd.snd.snd.snd.fst (y0).snd.snd.snd.snd.snd.snd (y1).fst (y1).snd.fst (y1).snd.snd.fst (y1).snd.snd.snd.fst (y1).snd.snd.snd.snd.fst (y1).snd.snd.snd.snd.snd.fst (y1).snd.snd.snd.snd.snd.snd (y2).fst (y2).snd.fst (y2).snd.snd.fst (y2).snd.snd.snd.fst (y2).snd.snd.snd.snd.fst (y2).snd.snd.snd.snd.snd.fst (y2).snd.snd.snd.snd.snd.snd (y3).fst (y3).snd.fst (y3).snd.snd.fst (y3).snd.snd.snd.fst (y3).snd.snd.snd.snd.fst (y3).snd.snd.snd.snd.snd.fst (y3).snd.snd.snd.snd.snd.snd (Fm G N 0 k1 0 0).fst (Fm G N 0 k1 0 0).snd.fst (Fm G N 0 k1 0 0).snd.snd.fst (Fm G N 0 k1 0 0).snd.snd.snd.fst (Fm G N 0 k1 0 0).snd.snd.snd.snd.fst (Fm G N 0 k1 0 0).snd.snd.snd.snd.snd.fst (Fm G N 0 k1 0 0).snd.snd.snd.snd.snd.snd (y5).fst (y5).snd.fst (y5).snd.snd.fst (y5).snd.snd.snd.fst (y5).snd.snd.snd.snd.fst (y5).snd.snd.snd.snd.snd.fst (y5).snd.snd.snd.snd.snd.snd (Fm G N k0 0 0 k3).fst (Fm G N k0 0 0 k3).snd.fst (Fm G N k0 0 0 k3).snd.snd.fst (Fm G N k0 0 0 k3).snd.snd.snd.fst (Fm G N k0 0 0 k3).snd.snd.snd.snd.fst (Fm G N k0 0 0 k3).snd.snd.snd.snd.snd.fst (Fm G N k0 0 0 k3).snd.snd.snd.snd.snd.snd k0 k1 k2 k3 = Fm G N k0 k1 0 k3 := by
  unfold F65z46 F65z46_r248
  simp only [i0e, i1e]
  unfold Fm
  simp only []
  rw [F104_u g1 g2 n1 n2 (by omega) (by omega) (by omega) (by omega) (by omega) (by omega) (by omega) (by omega)]
  unfold Fm
  simp only [Int.add_zero, Int.zero_add]
theorem F65z49_s (h0 : -128 ≤ k0 ∧ k0 ≤ 127) (h1 : -128 ≤ k1 ∧ k1 ≤ 127) (h2 : -128 ≤ k2 ∧ k2 ≤ 127) (h3 : -128 ≤ k3 ∧ k3 ≤ 127) (y0 : Bool × Int × Int × Int × Int × Int × Int) (y1 : Bool × Int × Int × Int × Int × Int × Int) (y2 : Bool × Int × Int × Int × Int × Int × Int) (y3 : Bool × Int × Int × Int × Int × Int × Int) (y4 : Bool × Int × Int × Int × Int × Int × Int) : F65z49 G N (y0).fst (y0).snd.fst (y0).snd.snd.fst (y0).snd.snd.snd.fst (y0).snd.snd.snd.snd.fst (y0).snd.snd.snd.snd.snd.fst (y0).snd.snd.snd.snd.snd.snd (y1).fst (y1).snd.fst (y1).snd.snd.fst (y1).snd.snd.snd.fst (y1).snd.snd.snd.snd.fst (y1).snd.snd.snd.snd.snd.fst (y1).snd.snd.snd.snd.snd.snd (y2).fst (y2).snd.fst (y2).snd.snd.fst (y2).snd.snd.snd.fst (y2).snd.snd.snd.snd.fst (y2).snd.snd.snd.snd.snd.fst (y2).snd.snd.snd.snd.snd.snd (y3).fst (y3).snd.fst (y3).snd.snd.fst (y3).snd.snd.snd.fst (y3).snd.snd.snd.snd.fst (y3).snd.snd.snd.snd.snd.fst (y3).snd.snd.snd.snd.snd.snd (y4).fst (y4).snd.fst (y4).snd.snd.fst (y4).snd.snd.snd.fst (y4).snd.snd.snd.snd.fst (y4).snd.snd.snd.snd.snd.fst (y4).snd.snd.snd.snd.snd.snd (Fm G N 0 0 k2 0).fst (Fm G N 0 0 k2 0).snd.fst (Fm G N 0 0 k2 0).snd.snd.fst (Fm G N 0 0 k2 0).snd.snd.snd.fst (Fm G N 0 0 k2 0).snd.snd.snd.snd.fst (Fm G N 0 0 k2 0).snd.snd.snd.snd.snd.fst (Fm G N 0 0 k2 0).snd.snd.snd.snd.snd.snd (Fm G N k0 k1 0 k3).fst (Fm G N k0 k1 0 k3).snd.fst (Fm G N k0 k1 0 k3).snd.snd.fst (Fm G N k0 k1 0 k3).snd.snd.snd.fst (Fm G N k0 k1 0 k3).snd.snd.snd.snd.fst (Fm G N k0 k1 0 k3).snd.snd.snd.snd.snd.fst (Fm G N k0 k1 0 k3).snd.snd.snd.snd.snd.snd k0 k1 k2 k3 = Fm G N k0 k1 (-k2) k3 := by
  unfold F65z49 F65z49_r282
  simp only [i0e, i1e]
  unfold Fm
  simp only []
  rw [F102_u g1 g2 n1 n2 (by omega) (by omega) (by omega) (by omega) (by omega) (by omega) (by omega) (by omega)]
  unfold Fm
  simp only [Int.sub_zero, Int.zero_sub]
/-- the sum's register, behind all instructions -/
theorem F18_s (h0 : -128 ≤ k0 ∧ k0 ≤ 127) (h1 : -128 ≤ k1 ∧ k1 ≤ 127) (h2 : -128 ≤ k2 ∧ k2 ≤ 127) (h3 : -128 ≤ k3 ∧ k3 ≤ 127) : F18z62 G N k0 k1 k2 k3 = Fm G N k0 k1 (-k2) k3 := by
  have e0 : F65z5 G N k0 k1 k2 k3 = Fm G N 1 0 0 0 := by
    unfold F65z5 F65z5_r64 F89z7 F89z7_r61
    rw [i0e, i1e, F87_u g1 g2 n1 n2 (by omega) (by omega) (by omega) (by omega) (by omega) (by omega) (by omega) (by omega)]
  have e1 : ∀ x0 x1 x2 x3 x4 x5 x6, F65z12 G N x0 x1 x2 x3 x4 x5 x6 k0 k1 k2 k3 = Fm G N 0 1 0 0 := by
    intros
    unfold F65z12 F65z12_r75 F89z14 F89z14_r72
    rw [i0e, i1e, F87_u g1 g2 n1 n2 (by omega) (by omega) (by omega) (by omega) (by omega) (by omega) (by omega) (by omega)]
  have e2 : ∀ x0 x1 x2 x3 x4 x5 x6 y0 y1 y2 y3 y4 y5 y6, F65z15 G N x0 x1 x2 x3 x4 x5 x6 y0 y1 y2 y3 y4 y5 y6 k0 k1 k2 k3 = Fm G N 0 0 1 0 := by
    intros
    unfold F65z15 F65z15_r88 F89z17 F89z17_r85
    rw [i0e, i1e, F87_u g1 g2 n1 n2 (by omega) (by omega) (by omega) (by omega) (by omega) (by omega) (by omega) (by omega)]
  unfold F18z62 F35z4
  rw [e0]
  unfold F35z4_r285
  rw [e1]
  unfold F35z4_r287
  rw [e2]
  unfold F35z4_r289
  rw [F65z18_s g1 g2 n1 n2 h0 h1 h2 h3]
  unfold F35z4_r291
  rw [F65z36_s g1 g2 n1 n2 h0 h1 h2 h3]
  unfold F35z4_r293
  rw [F65z39_s g1 g2 n1 n2 h0 h1 h2 h3]
  unfold F35z4_r295
  rw [F65z42_s g1 g2 n1 n2 h0 h1 h2 h3]
  unfold F35z4_r297
  rw [F65z46_s g1 g2 n1 n2 h0 h1 h2 h3]
  unfold F35z4_r299
  rw [F65z49_s g1 g2 n1 n2 h0 h1 h2 h3]
  rfl
theorem F41_0 : F41z10 G 1 7 0 0 N false 0 0 0 0 0 0 k0 k1 k2 k3 = true := by
  have e := F41_u (G := G) (N := N) (I := 0) (L := 0) (Q := 0) (c := 0) (a1 := 1) (a2 := 7) (a3 := 0) (a4 := 0) (k0 := k0) (k1 := k1) (k2 := k2) (k3 := k3) g1 g2 n1 n2 (by omega) (by omega) (by omega) (by omega) (by omega) (by omega) (by omega) (by omega)
  rw [can0] at e
  exact e
theorem F39_s : F39z55 G N k0 k1 k2 k3 = false := by
  unfold F39z55 F73z56 F40z57
  rw [i0e, i1e, show Int.ofNat 7 = 7 from rfl, F41_0 g1 g2 n1 n2]
  rfl
theorem F17_s : F17z54 G N k0 k1 k2 k3 = 0 := by
  unfold F17z54
  rw [F39_s g1 g2 n1 n2]
  unfold F17z54_r362
  rw [if_neg (by decide), F42_s]
  rfl
end
end Go.Proofs.YtomcbkfnbagekaaGreat
/- The law on sums, on numbers. -/
set_option linter.unusedVariables false
set_option linter.unusedSimpArgs false
set_option maxRecDepth 100000
namespace Go.Proofs.YtomcbkfnbagekaaGreat
open Go Go.Vm
theorem i32_id {n : Int} (h1 : -2147483648 ≤ n) (h2 : n ≤ 2147483647) : wr .i32 n = n := by
  have e : wr .i32 n = if n % 4294967296 < 2147483648 then n % 4294967296 else n % 4294967296 - 4294967296 := rfl
  rw [e]; split <;> omega
/-! the reference's check -/
theorem F55_y {x : Int} (h1 : -1000000000000 ≤ x) (h2 : x ≤ 1000000000000) : F55 x = true := by
  unfold F55
  rw [if_pos (decide_eq_true (by show (-1099511627776:Int) ≤ x; omega))]
  exact decide_eq_true (by show x ≤ (1099511627776:Int); omega)
theorem F24_eq (a b c : Int) : F24 a b c = (a, b, if a = b then 0 else c) := by
  unfold F24
  by_cases h : a = b
  · rw [if_pos (by simpa using h), if_pos h, h]; rfl
  · rw [if_neg (by simpa using h), if_neg h]
theorem F57_s {k n : Int} (n1 : 1 ≤ n) (n2 : n ≤ 200) (k1 : -100000 ≤ k) (k2 : k ≤ 100000) : ∃ a b c, F57 k n = (a, b, c) ∧ F26 a b c = true ∧ -20000000 ≤ a ∧ a ≤ 20000000 ∧ -20000000 ≤ b ∧ b ≤ 20000000 := by
  have z0 : F26 0 0 0 = true := by decide
  have i2e : Int.ofNat 2 = 2 := rfl
  unfold F57
  by_cases h0 : k = 0
  · rw [if_pos (by simpa using h0)]
    exact ⟨_, _, _, rfl, z0, by decide, by decide, by decide, by decide⟩
  · rw [if_neg (by simpa using h0)]
    by_cases h1 : n < 2
    · rw [if_pos (decide_eq_true (by rw [i2e]; exact h1))]
      exact ⟨_, _, _, rfl, z0, by decide, by decide, by decide, by decide⟩
    · rw [if_neg (by intro h; exact h1 (by rw [← i2e]; exact of_decide_eq_true h))]
      have hm1 : k * (n - 1) ≤ 100000 * (n - 1) := Int.mul_le_mul_of_nonneg_right k2 (by omega)
      have hm2 : (-100000) * (n - 1) ≤ k * (n - 1) := Int.mul_le_mul_of_nonneg_right k1 (by omega)
      have e1 : wr .i64 (n - Int.ofNat 1) = n - 1 := w_id (by show _ ≤ n - (1:Int); omega) (by show n - (1:Int) ≤ _; omega)
      have e2 : wr .i64 (k * (n - 1)) = k * (n - 1) := w_id (by omega) (by omega)
      have e3 : wr .i64 (Int.ofNat 0 - k) = -k := by rw [i0e, w_id (by omega) (by omega)]; omega
      rw [e1, e2, e3, i0e]
      by_cases hk : k < 0
      · rw [if_pos (decide_eq_true hk)]
        have hneg : k * (n - 1) < 0 := Int.mul_neg_of_neg_of_pos hk (by omega)
        refine ⟨_, _, _, rfl, ?_, by omega, by omega, by omega, by omega⟩
        unfold F26
        rw [F55_y (by omega) (by omega), F55_y (by omega) (by omega)]
        have q1 : ¬ (decide (k * (n - 1) > 0) = true) := fun h => by have := of_decide_eq_true h; omega
        have q2 : ¬ ((k * (n - 1) == 0) = true) := fun h => by
          have h5 : k * (n - 1) = 0 := by simpa using h
          omega
        have q3 : decide (-k ≥ Int.ofNat 1) = true := decide_eq_true (by rw [i1e]; omega)
        have q4 : wr .i64 (0 - k * (n - 1)) = -k * (n - 1) := by rw [w_id (by omega) (by omega), Int.neg_mul]; omega
        rw [if_neg (by decide), if_neg (by decide), if_neg q1, if_neg q2, if_pos q3, q4, tmod_zero (Int.dvd_mul_right _ _)]
        rfl
      · have hk' : ¬ (decide (k < 0) = true) := fun h => hk (of_decide_eq_true h)
        rw [if_neg hk']
        have hpos : 0 < k * (n - 1) := Int.mul_pos (by omega) (by omega)
        refine ⟨_, _, _, rfl, ?_, by omega, by omega, by omega, by omega⟩
        unfold F26
        rw [F55_y (by omega) (by omega), F55_y (by omega) (by omega)]
        have q1 : ¬ (decide (0 > k * (n - 1)) = true) := fun h => by have := of_decide_eq_true h; omega
        have q2 : ¬ ((0 == k * (n - 1)) = true) := fun h => by
          have h5 : 0 = k * (n - 1) := by simpa using h
          omega
        have q3 : decide (k ≥ Int.ofNat 1) = true := decide_eq_true (by rw [i1e]; omega)
        have q4 : wr .i64 (k * (n - 1) - 0) = k * (n - 1) := by rw [w_id (by omega) (by omega)]; omega
        rw [if_neg (by decide), if_neg (by decide), if_neg q1, if_neg q2, if_pos q3, q4, tmod_zero (Int.dvd_mul_right _ _)]
        rfl
theorem F56_s {x y z a b c : Int} (h : F26 a b c = true) (hx : -100000000 ≤ x ∧ x ≤ 100000000) (hy : -100000000 ≤ y ∧ y ≤ 100000000) (ha : -100000000 ≤ a ∧ a ≤ 100000000) (hb : -100000000 ≤ b ∧ b ≤ 100000000) : ∃ s, F56 x y z true a b c = (x + a, y + b, s, true) := by
  have e1 : wr .i64 (x + a) = x + a := w_id (by omega) (by omega)
  have e2 : wr .i64 (y + b) = y + b := w_id (by omega) (by omega)
  refine ⟨if x + a = y + b then 0 else F99 z c, ?_⟩
  unfold F56 F80 F98
  rw [h, e1, e2, F55_y (by omega) (by omega), F55_y (by omega) (by omega), F24_eq]
  rfl
section
variable {G N : Int} (g1 : 1 ≤ G) (g2 : G ≤ 16) (n1 : 1 ≤ N) (n2 : N ≤ 8) {k0 k1 k2 k3 a1 a2 a3 a4 : Int}
include g1 g2 n1 n2
theorem F30_u {I L Q c : Int} (i1 : -100000 ≤ I) (i2 : I ≤ 100000) (l1 : -100000 ≤ L) (l2 : L ≤ 100000) (q1 : -100000 ≤ Q) (q2 : Q ≤ 100000) (c1 : -1000 ≤ c) (c2 : c ≤ 1000) :
    ∃ X Y Z, F30z65 G a1 a2 a3 a4 N false I L Q c c 0 k0 k1 k2 k3 = (X, Y, Z, true) ∧ -2147483648 ≤ X ∧ Y < 2147483648 := by
  have m1 : N * G ≤ 8 * 16 := Int.mul_le_mul n2 g2 (by omega) (by omega)
  have m2 : 1 * 1 ≤ N * G := Int.mul_le_mul n1 g1 (by omega) (by omega)
  have ew : wr .i64 (N * G) = N * G := w_id (by omega) (by omega)
  obtain ⟨ia, ib, ic, ie, iv, i3, i4, i5, i6⟩ := F57_s (k := I) (n := N * G) (by omega) (by omega) i1 i2
  obtain ⟨la, lb, lc, le, lv, l3, l4, l5, l6⟩ := F57_s (k := L) (n := G) g1 (by omega) l1 l2
  obtain ⟨qa, qb, qc, qe, qv, q3, q4, q5, q6⟩ := F57_s (k := Q) (n := N) n1 (by omega) q1 q2
  obtain ⟨s1, e1⟩ := F56_s (x := c) (y := c) (z := 0) iv ⟨by omega, by omega⟩ ⟨by omega, by omega⟩ ⟨by omega, by omega⟩ ⟨by omega, by omega⟩
  obtain ⟨s2, e2⟩ := F56_s (x := c + ia) (y := c + ib) (z := s1) lv ⟨by omega, by omega⟩ ⟨by omega, by omega⟩ ⟨by omega, by omega⟩ ⟨by omega, by omega⟩
  obtain ⟨s3, e3⟩ := F56_s (x := c + ia + la) (y := c + ib + lb) (z := s2) qv ⟨by omega, by omega⟩ ⟨by omega, by omega⟩ ⟨by omega, by omega⟩ ⟨by omega, by omega⟩
  have e26 : F26 c c 0 = true := by
    unfold F26
    rw [F55_y (by omega) (by omega)]
    simp
  refine ⟨c + ia + la + qa, c + ib + lb + qb, s3, ?_, by omega, by omega⟩
  unfold F30z65 F30z65_r431 F30z65_r432 F30z65_r433 F30z65_r434 F30z65_r435 F30z65_r436 F30z65_r437
  rw [if_neg (by decide), e26, ew]
  simp only [ie, le, qe, e1, e2, e3]
  rfl
theorem F8_s {A B C c : Int} (h1 : -300 ≤ A ∧ A ≤ 300) (h2 : -300 ≤ B ∧ B ≤ 300) (h3 : -300 ≤ C ∧ C ≤ 300) (h7 : -128 ≤ c ∧ c ≤ 128) :
    F8z63 G a1 a2 a3 a4 N false (can G N A B C).1 (can G N A B C).2.1 (can G N A B C).2.2 c c 0 k0 k1 k2 k3 = true := by
  obtain ⟨⟨b1, b2⟩, ⟨b3, b4⟩, b5, b6⟩ := can_bd (N := N) (B := 300) g1 g2 (by omega) h1.1 h1.2 h2.1 h2.2 h3.1 h3.2
  obtain ⟨X, Y, Z, e, x1, y1⟩ := F30_u (a1 := a1) (a2 := a2) (a3 := a3) (a4 := a4) (k0 := k0) (k1 := k1) (k2 := k2) (k3 := k3) g1 g2 n1 n2 (I := (can G N A B C).1) (L := (can G N A B C).2.1) (Q := (can G N A B C).2.2) (c := c) (by omega) (by omega) (by omega) (by omega) (by omega) (by omega) (by omega) (by omega)
  have e26 : F26 c c 0 = true := by
    unfold F26
    rw [F55_y (by omega) (by omega)]
    simp
  have e27 : ∀ x : Int, -100000 ≤ x → x ≤ 100000 → F27 x = true := fun x h h' => by
    unfold F27
    rw [if_pos (decide_eq_true (by show (-2147483648:Int) ≤ x; omega))]
    exact decide_eq_true (by show x ≤ (2147483648:Int); omega)
  have e28 : F28z64 G a1 a2 a3 a4 N false (can G N A B C).1 (can G N A B C).2.1 (can G N A B C).2.2 c c 0 k0 k1 k2 k3 = can G N A B C := by
    have : F28z64 G a1 a2 a3 a4 N false (can G N A B C).1 (can G N A B C).2.1 (can G N A B C).2.2 c c 0 k0 k1 k2 k3 = F75z9 G a1 a2 a3 a4 N false (can G N A B C).1 (can G N A B C).2.1 (can G N A B C).2.2 c c 0 k0 k1 k2 k3 := rfl
    rw [this, F75_eq g1 g2 (by omega) (by omega) (by omega) (by omega) (by omega) (by omega), can_can g1]
  unfold F8z63 F8z63_r439 F8z63_r440 F8z63_r441 F8z63_r442 F8z63_r443 F8z63_r444 F8z63_r445
  rw [e26, e27 _ (by omega) (by omega), e27 _ (by omega) (by omega), e27 _ (by omega) (by omega), e28, e]
  unfold F29
  have q1 : decide (X ≥ Int.negSucc 2147483647) = true := decide_eq_true (by show (-2147483648 : Int) ≤ X; exact x1)
  have q2 : decide (Y < Int.ofNat 2147483648) = true := decide_eq_true (by show Y < (2147483648 : Int); exact y1)
  simp only [q1, q2]
  simp
end
end Go.Proofs.YtomcbkfnbagekaaGreat
/- The loop of the law on sums, and the law itself. -/
set_option linter.unusedVariables false
set_option linter.unusedSimpArgs false
set_option maxRecDepth 100000
namespace Go.Proofs.YtomcbkfnbagekaaGreat
open Go Go.Vm
theorem F32_1 {c t : Int} : F32 c c 0 t = decide (t = c) := by
  unfold F32
  by_cases h : t = c
  · subst h; simp
  · by_cases h1 : c ≤ t
    · rw [if_pos (decide_eq_true h1), if_neg (by intro q; have := of_decide_eq_true q; omega)]
      simp [h]
    · rw [if_neg (by intro q; exact h1 (of_decide_eq_true q))]
      simp [h]
theorem P32_1 {c t : Int} : P32 c c 0 t = true := by
  unfold P32
  by_cases h : t = c
  · subst h; simp [allB]
  · by_cases h1 : c ≤ t
    · rw [if_pos (decide_eq_true h1), if_neg (by intro q; have := of_decide_eq_true q; omega)]; rfl
    · rw [if_neg (by intro q; exact h1 (of_decide_eq_true q))]; rfl
theorem mul_bd {a b A B : Int} (a1 : -A ≤ a) (a2 : a ≤ A) (b1 : 0 ≤ b) (b2 : b ≤ B) (hA : 0 ≤ A) : -(A * B) ≤ a * b ∧ a * b ≤ A * B := by
  have h1 : a * b ≤ A * b := Int.mul_le_mul_of_nonneg_right a2 b1
  have h2 : A * b ≤ A * B := Int.mul_le_mul_of_nonneg_left b2 hA
  have h3 : (-A) * b ≤ a * b := Int.mul_le_mul_of_nonneg_right a1 b1
  rw [Int.neg_mul] at h3
  omega
theorem P10_1 {I L Q c x j k v : Int} : P10 false I L Q c c 0 x j k v = true := by
  unfold P10
  rw [if_neg (by decide), P32_1]; rfl
theorem F10_1 {I L Q c x j k v : Int} (i1 : -6000 ≤ I) (i2 : I ≤ 6000) (l1 : -6000 ≤ L) (l2 : L ≤ 6000) (q1 : -6000 ≤ Q) (q2 : Q ≤ 6000) (x1 : 0 ≤ x) (x2 : x ≤ 200) (j1 : 0 ≤ j) (j2 : j ≤ 200) (k1 : 0 ≤ k) (k2 : k ≤ 200) (v1 : -1000000 ≤ v) (v2 : v ≤ 1000000) :
    F10 false I L Q c c 0 x j k v = decide (v - (I * x + L * j + Q * k) = c) := by
  have b1 := mul_bd i1 i2 x1 x2 (by omega)
  have b2 := mul_bd l1 l2 j1 j2 (by omega)
  have b3 := mul_bd q1 q2 k1 k2 (by omega)
  unfold F10
  rw [if_neg (by decide), w_id (by omega : _ ≤ v) (by omega), w_id (by omega : _ ≤ I * x) (by omega), w_id (by omega : _ ≤ L * j) (by omega), w_id (by omega : _ ≤ Q * k) (by omega),
    w_id (by omega : _ ≤ v - I * x) (by omega), w_id (by omega : _ ≤ v - I * x - L * j) (by omega), w_id (by omega : _ ≤ v - I * x - L * j - Q * k) (by omega), F32_1]
  congr 1
  rw [eq_iff_iff]; omega
theorem sum_v {k0 k1 k2 k3 x j k : Int} (h0 : -128 ≤ k0 ∧ k0 ≤ 127) (h1 : -128 ≤ k1 ∧ k1 ≤ 127) (h2 : -128 ≤ k2 ∧ k2 ≤ 127) (h3 : -128 ≤ k3 ∧ k3 ≤ 127) (x1 : 0 ≤ x) (x2 : x ≤ 200) (j1 : 0 ≤ j) (j2 : j ≤ 200) (q1 : 0 ≤ k) (q2 : k ≤ 200) :
    wr .i32 (wr .i32 (wr .i32 (wr .i32 (wr .i32 k0 * wr .i32 x) + wr .i32 (wr .i32 k1 * wr .i32 j)) - wr .i32 (wr .i32 k2 * wr .i32 (wr .i64 k))) + wr .i32 k3) = k0 * x + k1 * j - k2 * k + k3 ∧ -100000 ≤ k0 * x + k1 * j - k2 * k + k3 ∧ k0 * x + k1 * j - k2 * k + k3 ≤ 100000 := by
  have b1 := mul_bd (a := k0) (A := 128) (by omega) (by omega) x1 x2 (by omega)
  have b2 := mul_bd (a := k1) (A := 128) (by omega) (by omega) j1 j2 (by omega)
  have b3 := mul_bd (a := k2) (A := 128) (by omega) (by omega) q1 q2 (by omega)
  refine ⟨?_, by omega, by omega⟩
  rw [w_id (by omega : _ ≤ k) (by omega), i32_id (by omega : _ ≤ k0) (by omega), i32_id (by omega : _ ≤ k1) (by omega), i32_id (by omega : _ ≤ k2) (by omega), i32_id (by omega : _ ≤ k3) (by omega), i32_id (by omega : _ ≤ x) (by omega), i32_id (by omega : _ ≤ j) (by omega), i32_id (by omega : _ ≤ k) (by omega),
    i32_id (by omega : _ ≤ k0 * x) (by omega), i32_id (by omega : _ ≤ k1 * j) (by omega), i32_id (by omega : _ ≤ k2 * k) (by omega), i32_id (by omega : _ ≤ k0 * x + k1 * j) (by omega), i32_id (by omega : _ ≤ k0 * x + k1 * j - k2 * k) (by omega), i32_id (by omega : _ ≤ k0 * x + k1 * j - k2 * k + k3) (by omega)]
section
variable {G N : Int} (g1 : 1 ≤ G) (g2 : G ≤ 16) (n1 : 1 ≤ N) (n2 : N ≤ 8) {k0 k1 k2 k3 : Int} (h0 : -128 ≤ k0 ∧ k0 ≤ 127) (h1 : -128 ≤ k1 ∧ k1 ≤ 127) (h2 : -128 ≤ k2 ∧ k2 ≤ 127) (h3 : -128 ≤ k3 ∧ k3 ≤ 127)
include g1 g2 n1 n2 h0 h1 h2 h3
theorem loop_s (r452 r455 r458 r461 : Int × Int × Int × Int × Int × Int × Int × Int × Int × Int × Int × Int × Int × Int × Int) : ∀ (n : Nat) (x : Int), N * G - x < n → 0 ≤ x → x ≤ N * G →
    FL4_0 k0 k1 k2 k3 (Fm G N k0 k1 (-k2) k3) r452 r455 r458 r461 N G n x = true ∧ PL4_0 k0 k1 k2 k3 (Fm G N k0 k1 (-k2) k3) r452 r455 r458 r461 N G n x = true
  | 0, x, h, _, _ => by omega
  | n + 1, x, h, x1, x2 => by
    have m1 : N * G ≤ 8 * 16 := Int.mul_le_mul n2 g2 (by omega) (by omega)
    have m2 : 1 * 1 ≤ N * G := Int.mul_le_mul n1 g1 (by omega) (by omega)
    have e1 : wr .i64 (N * G) = N * G := w_id (by omega) (by omega)
    have e2 : wr .i64 (x + Int.ofNat 1) = x + 1 := by rw [i1e]; exact w_id (by omega) (by omega)
    have hg : (!G == Int.ofNat 0) = true := by have : G ≠ 0 := by omega
                                               simpa using this
    show FS4_0 k0 k1 k2 k3 (Fm G N k0 k1 (-k2) k3) r452 r455 r458 r461 N G (FL4_0 k0 k1 k2 k3 (Fm G N k0 k1 (-k2) k3) r452 r455 r458 r461 N G n) x = true ∧ PS4_0 k0 k1 k2 k3 (Fm G N k0 k1 (-k2) k3) r452 r455 r458 r461 N G (PL4_0 k0 k1 k2 k3 (Fm G N k0 k1 (-k2) k3) r452 r455 r458 r461 N G n) x = true
    unfold FS4_0 PS4_0
    rw [e1]
    by_cases c : x < N * G
    · rw [if_pos (decide_eq_true c), if_pos (decide_eq_true c)]
      have j1 : 0 ≤ x.tmod G := Int.tmod_nonneg _ x1
      have j2 : x.tmod G < G := Int.tmod_lt_of_pos x (by omega)
      have q1 : 0 ≤ x.tdiv G := Int.tdiv_nonneg x1 (by omega)
      have q2 : x.tdiv G < N := by rw [Int.tdiv_eq_ediv_of_nonneg x1]; exact Int.ediv_lt_of_lt_mul (by omega) c
      obtain ⟨v1, v2, v3⟩ := sum_v h0 h1 h2 h3 x1 (by omega : x ≤ 200) j1 (by omega) q1 (by omega : x.tdiv G ≤ 200)
      obtain ⟨⟨b1, b2⟩, ⟨b3, b4⟩, b5, b6⟩ := can_bd (N := N) (B := 128) (I := k0) (L := k1) (Q := -k2) g1 g2 (by omega) (by omega) (by omega) (by omega) (by omega) (by omega) (by omega)
      have hv := can_val (N := N) (I := k0) (L := k1) (Q := -k2) g1 x1 c
      have hn : -k2 * x.tdiv G = -(k2 * x.tdiv G) := Int.neg_mul _ _
      have ih := loop_s r452 r455 r458 r461 n (x + 1) (by omega) (by omega) (by omega)
      have ew : wr .i64 (x.tdiv G) = x.tdiv G := w_id (by omega) (by omega)
      rw [ew] at v1
      simp only [List.getD_cons_zero, List.getD_cons_succ, ew, v1]
      have f1 : F10 (Fm G N k0 k1 (-k2) k3).fst (Fm G N k0 k1 (-k2) k3).snd.fst (Fm G N k0 k1 (-k2) k3).snd.snd.fst (Fm G N k0 k1 (-k2) k3).snd.snd.snd.fst (Fm G N k0 k1 (-k2) k3).snd.snd.snd.snd.fst (Fm G N k0 k1 (-k2) k3).snd.snd.snd.snd.snd.fst (Fm G N k0 k1 (-k2) k3).snd.snd.snd.snd.snd.snd x (x.tmod G) (x.tdiv G) (k0 * x + k1 * x.tmod G - k2 * x.tdiv G + k3) = true := by
        unfold Fm
        simp only []
        rw [F10_1 (by omega) (by omega) (by omega) (by omega) (by omega) (by omega) x1 (by omega) j1 (by omega) q1 (by omega) (by omega) (by omega), hv]
        exact decide_eq_true (by omega)
      have f2 : F10 (Fm G N k0 k1 (-k2) k3).fst (Fm G N k0 k1 (-k2) k3).snd.fst (Fm G N k0 k1 (-k2) k3).snd.snd.fst (Fm G N k0 k1 (-k2) k3).snd.snd.snd.fst (Fm G N k0 k1 (-k2) k3).snd.snd.snd.snd.fst (Fm G N k0 k1 (-k2) k3).snd.snd.snd.snd.snd.fst (Fm G N k0 k1 (-k2) k3).snd.snd.snd.snd.snd.snd x (x.tmod G) (x.tdiv G) (wr IntKind.i32 (k0 * x + k1 * x.tmod G - k2 * x.tdiv G + k3 + Int.ofNat 1)) = false := by
        unfold Fm
        simp only []
        rw [i1e, i32_id (by omega) (by omega), F10_1 (by omega) (by omega) (by omega) (by omega) (by omega) (by omega) x1 (by omega) j1 (by omega) q1 (by omega) (by omega) (by omega), hv]
        exact decide_eq_false (by omega)
      have p1 : ∀ a b c d, P10 (Fm G N k0 k1 (-k2) k3).fst (Fm G N k0 k1 (-k2) k3).snd.fst (Fm G N k0 k1 (-k2) k3).snd.snd.fst (Fm G N k0 k1 (-k2) k3).snd.snd.snd.fst (Fm G N k0 k1 (-k2) k3).snd.snd.snd.snd.fst (Fm G N k0 k1 (-k2) k3).snd.snd.snd.snd.snd.fst (Fm G N k0 k1 (-k2) k3).snd.snd.snd.snd.snd.snd a b c d = true := fun a b c d => P10_1
      rw [f1, p1]
      unfold F4_r477 P4_r477
      simp only [List.getD_cons_zero, List.getD_cons_succ]
      simp only [List.getD_cons_zero, List.getD_cons_succ, v1, ew, Bool.not_true, Bool.false_eq_true, if_false, f2, p1, Bool.true_and]
      unfold F4_r478 P4_r478
      simp only [Bool.false_eq_true, if_false, e2, ih.1, ih.2, hg, allB_cons, allB_nil, Bool.and_self, and_self]
    · have c' : ¬ (decide (x < N * G) = true) := fun q => c (of_decide_eq_true q)
      rw [if_neg c', if_neg c']
      have ew : wr .i64 k3 = k3 := w_8 h3
      simp only [List.getD_cons_zero, List.getD_cons_succ, ew, cond_true]
      unfold Fm
      simp [allB]
end
theorem tmod_rng {x m : Int} (h : 0 ≤ x) (hm : 0 < m) : 0 ≤ x.tmod m ∧ x.tmod m < m := ⟨Int.tmod_nonneg _ h, Int.tmod_lt_of_pos x hm⟩
theorem sums_t (k0 k1 k2 k3 x4 x5 : Int) (h0 : -128 ≤ k0 ∧ k0 ≤ 127) (h1 : -128 ≤ k1 ∧ k1 ≤ 127) (h2 : -128 ≤ k2 ∧ k2 ≤ 127) (h3 : -128 ≤ k3 ∧ k3 ≤ 127) (h4 : 0 ≤ x4) (h5 : 0 ≤ x5) : F4 k0 k1 k2 k3 x4 x5 = true ∧ P4 k0 k1 k2 k3 x4 x5 = true := by
  have i8e : Int.ofNat 8 = 8 := rfl
  have i16e : Int.ofNat 16 = 16 := rfl
  have hN : 1 ≤ wr .i64 (Int.ofNat 1 + wr .i64 (x5.tmod (Int.ofNat 8))) ∧ wr .i64 (Int.ofNat 1 + wr .i64 (x5.tmod (Int.ofNat 8))) ≤ 8 := by
    have := tmod_rng h5 (m := 8) (by omega)
    rw [i1e, i8e, w_id (by omega : _ ≤ x5.tmod 8) (by omega), w_id (by omega) (by omega)]; omega
  have hG : 1 ≤ wr .i64 (Int.ofNat 1 + wr .i64 (x4.tmod (Int.ofNat 16))) ∧ wr .i64 (Int.ofNat 1 + wr .i64 (x4.tmod (Int.ofNat 16))) ≤ 16 := by
    have := tmod_rng h4 (m := 16) (by omega)
    rw [i1e, i16e, w_id (by omega : _ ≤ x4.tmod 16) (by omega), w_id (by omega) (by omega)]; omega
  have v0' : wr .i32 k0 = k0 := i32_id (by omega) (by omega)
  have v1' : wr .i32 k1 = k1 := i32_id (by omega) (by omega)
  have v2' : wr .i32 k2 = k2 := i32_id (by omega) (by omega)
  have v3' : wr .i32 k3 = k3 := i32_id (by omega) (by omega)
  unfold F4 P4 F4_r450 P4_r450 F4_r452 P4_r452 F4_r453 P4_r453 F4_r455 P4_r455 F4_r456 P4_r456 F4_r458 P4_r458 F4_r460 P4_r460 F4_r461 P4_r461
  simp only [List.getD_cons_zero, List.getD_cons_succ, v0', v1', v2', v3']
  have pj : ∀ (r : Int × Int × Int × Int × Int × Int × Int × Int × Int × Int × Int × Int × Int × Int × Int) (a b c d e f g h : Int), F13 a b c d e f g h = r → r.snd.snd.snd.snd.snd.snd.snd.snd.fst = e ∧ r.snd.snd.snd.snd.snd.snd.snd.snd.snd.snd.snd.fst = h := by
    intro r a b c d e f g h hr
    rw [← hr]; exact ⟨rfl, rfl⟩
  have s14 : ∀ x : Int, (F14 x).snd.snd = x := fun _ => rfl
  simp only [s14]
  generalize hr0 : F13 (Int.ofNat 12) (Int.ofNat 3) (Int.ofNat 1) (Int.ofNat 0) k0 (Int.ofNat 2) (Int.ofNat 0) (Int.ofNat 0) = r452
  generalize hr1 : F13 (Int.ofNat 12) (Int.ofNat 4) (Int.ofNat 1) (Int.ofNat 0) k1 (Int.ofNat 2) (Int.ofNat 1) (Int.ofNat 0) = r455
  generalize hr2 : F13 (Int.ofNat 12) (Int.ofNat 5) (Int.ofNat 1) (Int.ofNat 0) k2 (Int.ofNat 2) (Int.ofNat 2) (Int.ofNat 0) = r458
  generalize hr3 : F13 (Int.ofNat 10) (Int.ofNat 6) (Int.ofNat 2) (Int.ofNat 3) (Int.ofNat 0) (Int.ofNat 1) (Int.ofNat 0) k3 = r461
  have q0 := (pj r452 _ _ _ _ _ _ _ _ hr0).1
  have q1 := (pj r455 _ _ _ _ _ _ _ _ hr1).1
  have q2 := (pj r458 _ _ _ _ _ _ _ _ hr2).1
  have q3 := (pj r461 _ _ _ _ _ _ _ _ hr3).2
  unfold F4_r469 P4_r469
  generalize hNe : wr .i64 (Int.ofNat 1 + wr .i64 (x5.tmod (Int.ofNat 8))) = N at hN ⊢
  generalize hGe : wr .i64 (Int.ofNat 1 + wr .i64 (x4.tmod (Int.ofNat 16))) = G at hG ⊢
  rw [q0, q1, q2, q3, F17_s hG.1 hG.2 hN.1 hN.2]
  rw [if_neg (by decide), if_neg (by decide), F18_s hG.1 hG.2 hN.1 hN.2 h0 h1 h2 h3]
  unfold F4_r471 P4_r471
  rw [hNe, hGe, q0, q1, q2, q3]
  have e8 : F8z63 G (Int.ofNat 1) (Int.ofNat 7) (Int.ofNat 0) (Int.ofNat 0) N (Fm G N k0 k1 (-k2) k3).fst (Fm G N k0 k1 (-k2) k3).snd.fst (Fm G N k0 k1 (-k2) k3).snd.snd.fst (Fm G N k0 k1 (-k2) k3).snd.snd.snd.fst (Fm G N k0 k1 (-k2) k3).snd.snd.snd.snd.fst (Fm G N k0 k1 (-k2) k3).snd.snd.snd.snd.snd.fst (Fm G N k0 k1 (-k2) k3).snd.snd.snd.snd.snd.snd k0 k1 k2 k3 = true := by
    unfold Fm
    simp only []
    exact F8_s hG.1 hG.2 hN.1 hN.2 (by omega) (by omega) (by omega) (by omega)
  have ef : (Fm G N k0 k1 (-k2) k3).fst = false := rfl
  rw [e8]
  rw [if_neg (by rw [ef]; decide), if_neg (by rw [ef]; decide)]
  unfold F4_r472 P4_r472
  rw [if_neg (by decide), if_neg (by decide), hNe, hGe]
  have m1 : N * G ≤ 8 * 16 := Int.mul_le_mul hN.2 hG.2 (by omega) (by omega)
  have m2 : 0 ≤ N * G := Int.mul_nonneg (by omega) (by omega)
  obtain ⟨l1, l2⟩ := loop_s hG.1 hG.2 hN.1 hN.2 h0 h1 h2 h3 r452 r455 r458 r461 200 (Int.ofNat 0) (by rw [i0e]; omega) (by rw [i0e]; omega) (by rw [i0e]; omega)
  rw [l1, l2]
  refine ⟨rfl, ?_⟩
  simp only [P12_t, P13_t, P14_t, P15_t, P16z0_u, P17z54_u, P18z62_u, P8z63_u, allB_cons, allB_nil, Bool.and_self, Bool.true_and]
end Go.Proofs.YtomcbkfnbagekaaGreat
