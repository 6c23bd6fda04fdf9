import Derived.Test.YtbdengnadgofmaaZdP4
import Derived.Test.YtbdengnadgofmaaZdVx9
/- The program's operators are the document's: the plain law of layer 3, sixth part (whole numbers). -/
namespace Go.Proofs.Ytbdengnadgofmaa
open Go.RowKit Go.Proofs.YtbdengnadgofmaaW.PrintWords V Fl
set_option linter.unusedSimpArgs false
set_option linter.unusedVariables false
theorem w64_in (n : Int) (h : i64 n) : wrap64 n = n := by unfold i64 at h; simp only [wrap64]; omega
theorem w64_i (n : Int) : i64 (wrap64 n) := by unfold i64; simp only [wrap64]; omega
theorem w64_mod (n : Int) : ∃ q : Int, wrap64 n = n + q * 18446744073709551616 := by
  simp only [wrap64]
  exact ⟨-((n + 9223372036854775808) / 18446744073709551616), by omega⟩
theorem tdiv_abs (p a : Int) (h : a ≠ 0) : (Int.tdiv p a).natAbs = p.natAbs / a.natAbs := Int.natAbs_tdiv p a
theorem tdiv_i64 (p a : Int) (hp : i64 p) (h0 : a ≠ 0) (h1 : ¬ (a = -1 ∧ p = -9223372036854775808)) : i64 (Int.tdiv p a) := by
  have h := tdiv_abs p a h0
  unfold i64 at *
  by_cases e : a = -1
  · subst e
    have : Int.tdiv p (-1) = -p := by rw [Int.tdiv_neg, Int.tdiv_one]
    rw [this]
    omega
  · by_cases e1 : a = 1
    · subst e1; rw [Int.tdiv_one]; exact hp
    · have ha : 2 ≤ a.natAbs := by omega
      have : p.natAbs / a.natAbs ≤ p.natAbs / 2 := Nat.div_le_div_left ha (by omega)
      omega
theorem mulO_spec (a b : Int) (ha : i64 a) (hb : i64 b) : mulO a b = false ↔ i64 (a * b) := by
  by_cases a0 : a = 0
  · subst a0; simp [mulO, i64]
  constructor
  · intro h
    simp only [mulO, Bool.and_eq_false_iff, bne_eq_false_iff_eq, Bool.or_eq_false_iff, beq_eq_false_iff_ne, ne_eq] at h
    rcases h with h | ⟨h1, h2⟩
    · exact absurd h a0
    obtain ⟨q, hq⟩ := w64_mod (a * b)
    have hp := w64_i (a * b)
    generalize hpp : wrap64 (a * b) = p at *
    by_cases hd : a = -1 ∧ p = -9223372036854775808
    · obtain ⟨e1, e2⟩ := hd
      subst e1
      rw [e2] at h1
      have : b = -9223372036854775808 := by rw [← h1]; decide +kernel
      rcases h2 with h2 | h2
      · exact absurd rfl h2
      · exact absurd this h2
    · have ht := tdiv_i64 p a hp a0 hd
      rw [w64_in _ ht] at h1
      have hm := Int.mul_tdiv_add_tmod p a
      rw [h1] at hm
      have hr : (Int.tmod p a).natAbs < a.natAbs := by
        rw [Int.natAbs_tmod]; exact Nat.mod_lt _ (by omega)
      have hz : Int.tmod p a = q * 18446744073709551616 := by omega
      have q0 : q = 0 := by
        unfold i64 at ha
        rw [hz] at hr
        omega
      subst q0
      rw [hq] at hp
      simpa using hp
  · intro h
    have hp := w64_in _ h
    have hd : Int.tdiv (a * b) a = b := by rw [Int.mul_comm]; exact Int.mul_tdiv_cancel b a0
    unfold mulO
    rw [hp, hd, w64_in _ hb]
    simp only [bne_self_eq_false, Bool.false_or, Bool.and_eq_false_iff, beq_eq_false_iff_ne, ne_eq]
    right
    by_cases e : a = -1
    · right
      intro e2
      subst e e2
      exact absurd h (by unfold i64; decide)
    · left; exact e
theorem and32 (x : Int) (h0 : 0 ≤ x) (h1 : x < 18446744073709551616) : Go.bits .and .u64 x 4294967295 = x % 4294967296 := bits_mask .u64 64 (by decide) wraps_u64 32 (by decide) x h0 h1
theorem ab_eq (a : Int) (ha : i64 a) : haspref03_mul.ab a = (a.natAbs : Int) := by
  unfold i64 at ha
  unfold haspref03_mul.ab
  simp only [u64w]
  split <;> omega
/-- The product of two numbers by their parts of 32 bits. -/
theorem parts_mul (x y xh xl yh yl : Nat) (hx : x = xh * 4294967296 + xl) (hy : y = yh * 4294967296 + yl) :
    x * y = xh * yh * 18446744073709551616 + (xh * yl + xl * yh) * 4294967296 + xl * yl := by
  subst hx hy
  rw [Nat.add_mul, Nat.mul_add, Nat.mul_add]
  have e1 : xh * 4294967296 * (yh * 4294967296) = xh * yh * 18446744073709551616 := by
    rw [show (18446744073709551616 : Nat) = 4294967296 * 4294967296 from by decide, Nat.mul_mul_mul_comm]
  have e2 : xh * 4294967296 * yl = xh * yl * 4294967296 := by rw [Nat.mul_right_comm]
  have e3 : xl * (yh * 4294967296) = xl * yh * 4294967296 := by rw [Nat.mul_assoc]
  rw [e1, e2, e3, Nat.add_mul]
  omega
set_option maxRecDepth 20000 in
theorem g_eq (below : Bool) (x y : Nat) (hx : x ≤ 9223372036854775808) (hy : y ≤ 9223372036854775808) :
    ((haspref03_mul.g below x y).2 = true ↔ (if below then x * y ≤ 9223372036854775808 else x * y < 9223372036854775808)) ∧
    ((haspref03_mul.g below x y).2 = true → (haspref03_mul.g below x y).1 = if below then -((x * y : Nat) : Int) else ((x * y : Nat) : Int)) := by
  have P := parts_mul x y (x / 4294967296) (x % 4294967296) (y / 4294967296) (y % 4294967296) (by omega) (by omega)
  have xh : x / 4294967296 ≤ 2147483648 := by omega
  have yh : y / 4294967296 ≤ 2147483648 := by omega
  have xl : x % 4294967296 < 4294967296 := by omega
  have yl : y % 4294967296 < 4294967296 := by omega
  have ll : x % 4294967296 * (y % 4294967296) ≤ 4294967295 * 4294967295 := Nat.mul_le_mul (by omega) (by omega)
  have hl : x / 4294967296 * (y % 4294967296) ≤ 2147483648 * 4294967295 := Nat.mul_le_mul xh (by omega)
  have lh : x % 4294967296 * (y / 4294967296) ≤ 4294967295 * 2147483648 := Nat.mul_le_mul (by omega) yh
  have elow : haspref03_mul.low x y = ((x % 4294967296 * (y % 4294967296) : Nat) : Int) := by
    unfold haspref03_mul.low
    rw [and32 _ (by omega) (by omega), and32 _ (by omega) (by omega), u64w]
    have : ((x : Int) % 4294967296) * ((y : Int) % 4294967296) = ((x % 4294967296 * (y % 4294967296) : Nat) : Int) := by rw [Int.natCast_mul, Int.natCast_emod, Int.natCast_emod]; rfl
    rw [this]; omega
  have emid : haspref03_mul.mid x y = ((x / 4294967296 * (y % 4294967296) + x % 4294967296 * (y / 4294967296) : Nat) : Int) := by
    unfold haspref03_mul.mid
    rw [and32 _ (by omega) (by omega), and32 _ (by omega) (by omega), u64w, u64w, u64w]
    have e1 : ((x : Int) / 4294967296) * ((y : Int) % 4294967296) = ((x / 4294967296 * (y % 4294967296) : Nat) : Int) := by rw [Int.natCast_mul, Int.natCast_ediv, Int.natCast_emod]; rfl
    have e2 : ((x : Int) % 4294967296) * ((y : Int) / 4294967296) = ((x % 4294967296 * (y / 4294967296) : Nat) : Int) := by rw [Int.natCast_mul, Int.natCast_emod, Int.natCast_ediv]; rfl
    rw [e1, e2]; omega
  generalize hM : x / 4294967296 * (y % 4294967296) + x % 4294967296 * (y / 4294967296) = M at *
  generalize hL : x % 4294967296 * (y % 4294967296) = L at *
  have en : haspref03_mul.n x y = (((M * 4294967296) % 18446744073709551616 + L) % 18446744073709551616 : Nat) := by
    unfold haspref03_mul.n
    rw [emid, elow, u64w, u64w]; omega
  unfold haspref03_mul.g
  by_cases c1 : 0 < (x : Int) / 4294967296 ∧ 0 < (y : Int) / 4294967296
  · rw [if_pos c1]
    have : 1 * 1 ≤ x / 4294967296 * (y / 4294967296) := Nat.mul_le_mul (by omega) (by omega)
    refine ⟨⟨fun h => absurd h Bool.false_ne_true, fun h => ?_⟩, fun h => absurd h Bool.false_ne_true⟩
    exfalso
    cases below <;> simp only [Bool.false_eq_true, if_true, if_false] at h <;> omega
  rw [if_neg c1]
  have z : x / 4294967296 * (y / 4294967296) = 0 := by
    rcases Nat.eq_zero_or_pos (x / 4294967296) with h | h
    · rw [h]; simp
    · have : y / 4294967296 = 0 := by omega
      rw [this]; simp
  rw [z, Nat.zero_mul, Nat.zero_add] at P
  by_cases c2 : 0 < haspref03_mul.mid x y / 4294967296
  · rw [if_pos c2]
    rw [emid] at c2
    refine ⟨⟨fun h => absurd h Bool.false_ne_true, fun h => ?_⟩, fun h => absurd h Bool.false_ne_true⟩
    exfalso
    cases below <;> simp only [Bool.false_eq_true, if_true, if_false] at h <;> omega
  rw [if_neg c2]
  rw [emid] at c2
  have eM : M * 4294967296 % 18446744073709551616 = M * 4294967296 := by omega
  rw [eM] at en
  by_cases c3 : haspref03_mul.n x y < haspref03_mul.low x y
  · rw [if_pos c3]
    rw [en, elow] at c3
    refine ⟨⟨fun h => absurd h Bool.false_ne_true, fun h => ?_⟩, fun h => absurd h Bool.false_ne_true⟩
    exfalso
    cases below <;> simp only [Bool.false_eq_true, if_true, if_false] at h <;> omega
  rw [if_neg c3]
  rw [en, elow] at c3
  have et : M * 4294967296 + L < 18446744073709551616 := by omega
  rw [Nat.mod_eq_of_lt et] at en
  have exy : x * y = M * 4294967296 + L := P
  rw [en, ← exy]
  clear en et eM c1 c2 c3 elow emid P exy ll hl lh hM hL z
  generalize hT : x * y = T
  cases below
  · simp only [Bool.false_eq_true, if_false]
    rcases Nat.lt_or_ge T 9223372036854775808 with h | h
    · have d : decide ((T : Int) < 9223372036854775808) = true := decide_eq_true (by omega)
      have w : wrap64 (T : Int) = T := by simp only [wrap64]; omega
      rw [d, w]; exact ⟨⟨fun _ => h, fun _ => rfl⟩, fun _ => rfl⟩
    · have d : decide ((T : Int) < 9223372036854775808) = false := decide_eq_false (by omega)
      have n : ¬ T < 9223372036854775808 := by omega
      rw [d]; exact ⟨⟨fun h' => absurd h' Bool.false_ne_true, fun h' => absurd h' n⟩, fun h' => absurd h' Bool.false_ne_true⟩
  · simp only [if_true]
    rcases Nat.lt_or_ge 9223372036854775808 T with h | h
    · have d : decide ((T : Int) ≤ 9223372036854775808) = false := decide_eq_false (by omega)
      have n : ¬ T ≤ 9223372036854775808 := by omega
      rw [d]; exact ⟨⟨fun h' => absurd h' Bool.false_ne_true, fun h' => absurd h' n⟩, fun h' => absurd h' Bool.false_ne_true⟩
    · have d : decide ((T : Int) ≤ 9223372036854775808) = true := decide_eq_true (by omega)
      have w : wrap64 (IntKind.u64.wrap (-(T : Int))) = -(T : Int) := by rw [u64w]; simp only [wrap64]; omega
      rw [d, w]; exact ⟨⟨fun _ => h, fun _ => rfl⟩, fun _ => rfl⟩
theorem mulf_eq (a b : Int) (ha : i64 a) (hb : i64 b) : ∃ p : Int × Bool, haspref03_mul.f a b = some p ∧ (p.2 = true ↔ i64 (a * b)) ∧ (p.2 = true → p.1 = a * b) := by
  refine ⟨_, rfl, ?_⟩
  rw [ab_eq a ha, ab_eq b hb]
  have h := g_eq (decide (a < 0) != decide (b < 0)) a.natAbs b.natAbs (by unfold i64 at ha; omega) (by unfold i64 at hb; omega)
  have key : ((a.natAbs * b.natAbs : Nat) : Int) = if (decide (a < 0) != decide (b < 0)) = true then -(a * b) else a * b := by
    rw [← Int.natAbs_mul]
    by_cases h1 : a < 0 <;> by_cases h2 : b < 0
    · have : 0 ≤ a * b := Int.mul_nonneg_of_nonpos_of_nonpos (by omega) (by omega)
      simp [h1, h2]; omega
    · have : a * b ≤ 0 := Int.mul_nonpos_of_nonpos_of_nonneg (by omega) (by omega)
      simp [h1, h2]; omega
    · have : a * b ≤ 0 := Int.mul_nonpos_of_nonneg_of_nonpos (by omega) (by omega)
      simp [h1, h2]; omega
    · have : 0 ≤ a * b := Int.mul_nonneg (by omega) (by omega)
      simp [h1, h2]; omega
  obtain ⟨h1, h2⟩ := h
  cases hc : (decide (a < 0) != decide (b < 0)) with
  | false =>
    rw [hc] at h1 h2 key
    simp only [Bool.false_eq_true, if_false] at h1 h2 key
    have nn : 0 ≤ a * b := by omega
    refine ⟨h1.trans ?_, fun h => by rw [h2 h, key]⟩
    unfold i64; omega
  | true =>
    rw [hc] at h1 h2 key
    simp only [if_true] at h1 h2 key
    have nn : a * b ≤ 0 := by omega
    refine ⟨h1.trans ?_, fun h => by rw [h2 h, key]; omega⟩
    unfold i64; omega
theorem neg_eq (a : Int) (ha : i64 a) : haspref03_Whole.neg a = if a = -9223372036854775808 then (0, 31) else (wrap64 (-a), 0) := by
  unfold i64 at ha
  unfold haspref03_Whole.neg
  by_cases a0 : a = 0
  · subst a0; rw [if_pos rfl, if_neg (by decide)]; decide +kernel
  rw [if_neg a0]
  by_cases am : a = -9223372036854775808
  · rw [if_pos am, am, if_pos (by decide +kernel)]
  · rw [if_neg am, if_neg (by simp only [wrap64]; omega)]
theorem whole_same (op a b : Int) (ha : i64 a) (hb : i64 b) (hop : op = 7 ∨ op = 8 ∨ op = 9 ∨ op = 10 ∨ op = 11 ∨ op = 13) : haspref03_Whole.g op a b = whA op a b := by
  rcases hop with rfl | rfl | rfl | rfl | rfl | rfl
  · show haspref03_Whole.add a b (wrap64 (a + b)) = (if addO a b = true then (0, 31) else (wrap64 (a + b), 0))
    have h := (addO_spec a b ha hb).1
    unfold haspref03_Whole.add
    unfold i64 at *
    cases e : addO a b
    · have := h.1 e
      rw [if_neg (by simp only [wrap64]; omega)]; rfl
    · have : ¬ (-9223372036854775808 ≤ a + b ∧ a + b ≤ 9223372036854775807) := fun h' => by rw [h.2 h'] at e; cases e
      rw [if_pos (by simp only [wrap64]; omega)]; rfl
  · show haspref03_Whole.sub a b (wrap64 (a - b)) = (if subO a b = true then (0, 31) else (wrap64 (a - b), 0))
    have h := (subO_spec a b ha hb).1
    unfold haspref03_Whole.sub
    unfold i64 at *
    cases e : subO a b
    · have := h.1 e
      rw [if_neg (by simp only [wrap64]; omega)]; rfl
    · have : ¬ (-9223372036854775808 ≤ a - b ∧ a - b ≤ 9223372036854775807) := fun h' => by rw [h.2 h'] at e; cases e
      rw [if_pos (by simp only [wrap64]; omega)]; rfl
  · show (if ((haspref03_mul.f a b).getD (0, false)).2 = true then (((haspref03_mul.f a b).getD (0, false)).1, (0 : Int)) else (0, 31)) = (if mulO a b = true then (0, 31) else (wrap64 (a * b), 0))
    obtain ⟨p, hp, h1, h2⟩ := mulf_eq a b ha hb
    rw [hp]
    have hm := mulO_spec a b ha hb
    simp only [Option.getD_some]
    cases e : mulO a b
    · have hi := hm.1 e
      rw [if_pos (h1.2 hi), h2 (h1.2 hi), w64_in _ hi]; rfl
    · have : ¬ p.2 = true := fun h' => by rw [hm.2 (h1.1 h')] at e; cases e
      rw [if_neg this]; rfl
  · show (if b = 0 then (0, 32) else if b = -1 then haspref03_Whole.neg a else (wrap64 (Int.tdiv a b), 0)) = (if b = 0 then (0, 32) else if a = -9223372036854775808 ∧ b = -1 then (0, 31) else (wrap64 (Int.tdiv a b), 0))
    by_cases b0 : b = 0
    · rw [if_pos b0, if_pos b0]
    rw [if_neg b0, if_neg b0]
    by_cases b1 : b = -1
    · subst b1
      rw [if_pos rfl, neg_eq a ha, show Int.tdiv a (-1) = -a by rw [Int.tdiv_neg, Int.tdiv_one]]
      by_cases am : a = -9223372036854775808
      · rw [if_pos am, if_pos ⟨am, rfl⟩]
      · rw [if_neg am, if_neg (fun h => am h.1)]
    · rw [if_neg b1, if_neg (fun h => b1 h.2)]
  · show (if b = 0 then (0, 32) else if b = -1 then (0, 0) else (wrap64 (a - wrap64 (wrap64 (Int.tdiv a b) * b)), 0)) = (if b = 0 then (0, 32) else ((if b = -1 then 0 else Int.tmod a b), 0))
    by_cases b0 : b = 0
    · rw [if_pos b0, if_pos b0]
    rw [if_neg b0, if_neg b0]
    by_cases b1 : b = -1
    · rw [if_pos b1, if_pos b1]
    · rw [if_neg b1, if_neg b1]
      have hm := Int.tdiv_mul_add_tmod a b
      have ht := tdiv_i64 a b ha b0 (fun h => b1 h.1)
      rw [w64_in _ ht]
      have hr : (Int.tmod a b).natAbs ≤ a.natAbs := by rw [Int.natAbs_tmod]; exact Nat.mod_le _ _
      have hq : (Int.tdiv a b * b).natAbs ≤ a.natAbs := by rw [Int.natAbs_mul, Int.natAbs_tdiv]; exact Nat.div_mul_le_self _ _
      have hlt : (Int.tmod a b).natAbs < b.natAbs := by rw [Int.natAbs_tmod]; exact Nat.mod_lt _ (by omega)
      unfold i64 at ha hb
      generalize hQ : Int.tdiv a b * b = Q at *
      generalize hR : Int.tmod a b = R at *
      have hi : i64 Q := by
        unfold i64
        by_cases e : Q = 9223372036854775808
        · exfalso; omega
        · omega
      rw [w64_in _ hi]
      have hi2 : i64 (a - Q) := by unfold i64; omega
      rw [w64_in _ hi2, show a - Q = R by omega]
  · exact neg_eq a ha
end Go.Proofs.Ytbdengnadgofmaa
