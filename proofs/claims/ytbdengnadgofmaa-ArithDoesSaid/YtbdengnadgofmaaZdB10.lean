import Derived.Test.YtbdengnadgofmaaZdB5
import Derived.Test.YtbdengnadgofmaaZdRx1
/- The reference's whole parts and whole numbers, in the words of Fl. -/
namespace Go.Proofs.Ytbdengnadgofmaa
open Go.RowKit Go.Proofs.YtbdengnadgofmaaW.PrintWords Go.Proofs.YtbdengnadgofmaaW.PrintMore Fl R
set_option linter.unusedSimpArgs false
def toIv (x : Nat) : Int := if inI x then wholeI x else 0
def toIe (x : Nat) : Int := if inI x then 0 else 10
theorem shr_u64 (x n : Nat) (h : n ≤ 64) : shr .u64 (x : Int) (n : Int) = ((x / 2 ^ n : Nat) : Int) := by
  unfold shr
  rw [show IntKind.u64.bits = 64 from rfl, Int.toNat_natCast, Nat.min_eq_left h]
  rw [Int.natCast_ediv, Int.natCast_pow]; rfl
theorem shl_u64 (x n : Nat) (h : n ≤ 64) : shl .u64 (x : Int) (n : Int) = ((x * 2 ^ n % 18446744073709551616 : Nat) : Int) := by
  unfold shl
  rw [show IntKind.u64.bits = 64 from rfl, Int.toNat_natCast, Nat.min_eq_left h, u64w]
  rw [Int.natCast_emod, Int.natCast_mul, Int.natCast_pow]; rfl
theorem j0_true (k : Nat) (a b c : Int) : haspref01_ToInt.j0 (k + 1) a b c true = some (0, 10) := by
  simp only [haspref01_ToInt.j0, if_true]
theorem j0_false (k s E F : Nat) (hs : s ≤ 1) (hE : E ≤ 1086) (hF : F < 4503599627370496) (htop : E = 1086 → s = 1 ∧ F = 0) :
    haspref01_ToInt.j0 (k + 1) (s : Int) (E : Int) (F : Int) false = some ((if s = 1 then -(flr (E * 4503599627370496 + F) : Int) else flr (E * 4503599627370496 + F)), 0) := by
  have eB : Bn = 4503599627370496 := rfl
  have d1 : (E * 4503599627370496 + F) / Bn = E := by rw [eB]; omega
  have d2 : (E * 4503599627370496 + F) % Bn = F := by rw [eB]; omega
  simp only [haspref01_ToInt.j0, Bool.false_eq_true, if_false]
  unfold flr
  rw [d1, d2]
  by_cases c1 : E < 1023
  · rw [if_pos (by omega), if_pos c1]; simp
  · rw [if_neg (by omega), if_neg c1]
    have hm : IntKind.u64.wrap (IntKind.u64.wrap (F : Int) + 4503599627370496) = ((4503599627370496 + F : Nat) : Int) := by rw [u64w, u64w]; omega
    rw [hm]
    by_cases c2 : E ≤ 1075
    · rw [if_pos (by omega), if_pos c2]
      have hn : IntKind.u64.wrap (wrap64 (1075 - (E : Int))) = ((1075 - E : Nat) : Int) := by rw [u64w]; unfold wrap64; omega
      rw [hn, if_pos (by omega), shr_u64 _ _ (by omega), ← eB]
      have hv : (Bn + F) / 2 ^ (1075 - E) ≤ Bn + F := Nat.div_le_self _ _
      generalize (Bn + F) / 2 ^ (1075 - E) = v at *
      by_cases c3 : s = 1
      · rw [if_pos (by omega), if_pos c3, u64w]
        congr 2
        unfold wrap64; omega
      · rw [if_neg (by omega), if_neg c3]
        congr 2
        unfold wrap64; omega
    · rw [if_neg (by omega), if_neg c2]
      have hn : IntKind.u64.wrap (wrap64 ((E : Int) - 1075)) = ((E - 1075 : Nat) : Int) := by rw [u64w]; unfold wrap64; omega
      rw [hn, if_pos (by omega), shl_u64 _ _ (by omega), ← eB]
      have hv : (Bn + F) * 2 ^ (E - 1075) < 9223372036854775808 ∨ ((Bn + F) * 2 ^ (E - 1075) = 9223372036854775808 ∧ s = 1) := by
        by_cases c4 : E = 1086
        · obtain ⟨h1, h2⟩ := htop c4
          right; rw [c4, h2, eB]; exact ⟨by decide, h1⟩
        · left
          have hp : 2 ^ (E - 1075) ≤ 2 ^ 10 := Nat.pow_le_pow_right (by decide) (by omega)
          calc (Bn + F) * 2 ^ (E - 1075) ≤ (Bn + F) * 2 ^ 10 := Nat.mul_le_mul_left _ hp
            _ < 9223372036854775808 := by rw [eB]; omega
      generalize (Bn + F) * 2 ^ (E - 1075) = v at *
      by_cases c3 : s = 1
      · rw [if_pos (by omega), if_pos c3, u64w]
        congr 2
        unfold wrap64; omega
      · rw [if_neg (by omega), if_neg c3]
        congr 2
        unfold wrap64; omega
theorem rtoint_eq (a : Int) : haspref01_ToInt.f 1 a = some (toIv (ub a), toIe (ub a)) := by
  have h := ub_lt a
  have eS : Sw = 9223372036854775808 := rfl
  have eI : Ir = 9218868437227405312 := rfl
  unfold haspref01_ToInt.f
  rw [parts_eq]
  simp only [Option.bind_some]
  have hr : rung (ub a) = (ub a / 4503599627370496 % 2048) * 4503599627370496 + ub a % 4503599627370496 := by unfold rung; rw [eS]; omega
  have hs1 : ub a / 9223372036854775808 ≤ 1 := by omega
  have hng : negB (ub a) = decide (ub a / 9223372036854775808 = 1) := by
    unfold negB; rw [eS]
    rcases Nat.le_one_iff_eq_zero_or_eq_one.1 hs1 with e | e <;> rw [e] <;> rfl
  have hE : ub a / 4503599627370496 % 2048 < 2048 := Nat.mod_lt _ (by decide)
  have hF : ub a % 4503599627370496 < 4503599627370496 := Nat.mod_lt _ (by decide)
  have hin : inI (ub a) = (decide (ub a / 4503599627370496 % 2048 < 1086) || (decide (ub a / 9223372036854775808 = 1) && (decide (ub a / 4503599627370496 % 2048 = 1086) && decide (ub a % 4503599627370496 = 0)))) := by
    unfold inI nanB
    rw [hng]
    change (!decide (Ir < rung (ub a)) && _) = _
    rw [hr, eI]
    generalize ub a / 4503599627370496 % 2048 = E at *
    generalize ub a % 4503599627370496 = F at *
    generalize ub a / 9223372036854775808 = s at *
    rw [Bool.eq_iff_iff]
    simp only [Bool.and_eq_true, Bool.or_eq_true, Bool.not_eq_true', decide_eq_true_eq, decide_eq_false_iff_not]
    omega
  have hw : wholeI (ub a) = (if ub a / 9223372036854775808 = 1 then -(flr (ub a / 4503599627370496 % 2048 * 4503599627370496 + ub a % 4503599627370496) : Int) else flr (ub a / 4503599627370496 % 2048 * 4503599627370496 + ub a % 4503599627370496)) := by
    unfold wholeI
    rw [hng, hr]
    by_cases c : ub a / 9223372036854775808 = 1
    · rw [decide_eq_true c, if_pos rfl, if_pos c]
    · rw [decide_eq_false c, if_neg (by decide), if_neg c]
  unfold toIv toIe
  rw [hin, hw]
  clear hin hw hng hr
  generalize ub a / 4503599627370496 % 2048 = E at *
  generalize ub a % 4503599627370496 = F at *
  generalize ub a / 9223372036854775808 = s at *
  by_cases c1 : E = 2047
  · rw [if_pos (by omega), j0_true]
    have : (decide (E < 1086) || (decide (s = 1) && (decide (E = 1086) && decide (F = 0)))) = false := by
      rw [Bool.eq_false_iff]; simp; omega
    rw [this]; simp only [if_true, Bool.false_eq_true, if_false]
  · rw [if_neg (by omega)]
    by_cases c2 : E > 1086
    · rw [if_pos (by omega), j0_true]
      have : (decide (E < 1086) || (decide (s = 1) && (decide (E = 1086) && decide (F = 0)))) = false := by
        rw [Bool.eq_false_iff]; simp; omega
      rw [this]; simp only [if_true, Bool.false_eq_true, if_false]
    · rw [if_neg (by omega)]
      by_cases c3 : E = 1086
      · rw [if_pos (by omega)]
        by_cases c4 : s = 1
        · rw [if_pos (by omega)]
          by_cases c5 : F = 0
          · have hb : (!((F : Int) == 0)) = false := by rw [c5]; rfl
            rw [hb, j0_false 0 s E F hs1 (by omega) hF (fun _ => ⟨c4, c5⟩)]
            have : (decide (E < 1086) || (decide (s = 1) && (decide (E = 1086) && decide (F = 0)))) = true := by simp; omega
            rw [this]; simp only [if_true, Bool.false_eq_true, if_false]
          · have hb : (!((F : Int) == 0)) = true := by simp; omega
            rw [hb, j0_true]
            have : (decide (E < 1086) || (decide (s = 1) && (decide (E = 1086) && decide (F = 0)))) = false := by
              rw [Bool.eq_false_iff]; simp; omega
            rw [this]; simp only [if_true, Bool.false_eq_true, if_false]
        · rw [if_neg (by omega)]
          simp only [Bool.not_false]
          rw [j0_true]
          have : (decide (E < 1086) || (decide (s = 1) && (decide (E = 1086) && decide (F = 0)))) = false := by
            rw [Bool.eq_false_iff]; simp; omega
          rw [this]; simp only [if_true, Bool.false_eq_true, if_false]
      · rw [if_neg (by omega), j0_false 0 s E F hs1 (by omega) hF (fun e => absurd e c3)]
        have : (decide (E < 1086) || (decide (s = 1) && (decide (E = 1086) && decide (F = 0)))) = true := by simp; omega
        rw [this]; simp only [if_true, Bool.false_eq_true, if_false]
end Go.Proofs.Ytbdengnadgofmaa
