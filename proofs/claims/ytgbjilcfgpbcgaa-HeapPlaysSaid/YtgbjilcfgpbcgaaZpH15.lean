import Derived.Test.YtgbjilcfgpbcgaaZpH13
import Derived.Test.YtgbjilcfgpbcgaaZpH14
import Derived.Test.YtgbjilcfgpbcgaaZpAx
/- Layer 8: the reference's Copy and SameInts, in plain form. -/
namespace Go.Proofs.Ytgbjilcfgpbcgaa
open Go.RowKit Go.Proofs.YtgbjilcfgpbcgaaW.PrintWords Go.Proofs.YtgbjilcfgpbcgaaW.PrintLast Go.Proofs.YtgbjilcfgpbcgaaW.PrintMore
set_option linter.unusedSimpArgs false
set_option linter.unusedVariables false
theorem copy_l (l : List Int) (hl : l.length ≤ 140737488355328) : ∀ (m i : Nat), i + m = l.length → A.haspref07_Copy.l0 (m + 1) l (l.take i) (i : Int) = some l
  | 0, i, h => by
    unfold A.haspref07_Copy.l0
    rw [if_neg (by omega), List.take_of_length_le (by omega)]
  | m + 1, i, h => by
    unfold A.haspref07_Copy.l0
    have hi : i < l.length := by omega
    rw [if_pos (by omega), if_pos (by omega), if_pos (by rw [List.length_take]; omega)]
    have hw : wrap64 ((i : Int) + 1) = ((i + 1 : Nat) : Int) := by simp only [wrap64]; omega
    have hr : l.take i ++ [rd l (i : Int)] = l.take (i + 1) := by
      have : rd l (i : Int) = l[i] := by simp [rd, hi]
      rw [this, List.take_succ_eq_append_getElem hi]
    rw [hw, hr]
    exact copy_l l hl m (i + 1) (by omega)
theorem copy_calls (A0 : Option Addr) (n c : Nat) (xs : List Int) (w : World) (hl : xs.length = n) (hc : n ≤ c) (hn : n ≤ 140737488355328) (hC : kb.C w A0 n xs) :
    Calls Try.prog 15 #[.slice A0 n c] w fun e w' => ∃ v, e = .returned v ∧ kb.R 5 w' w.heap.size (fun _ => True) v xs ∧ Below w.heap.size w w' := by
  subst hl
  exact A.haspref07_Copy.calls (xs.length + 1) A0 c xs xs w hC hc (copy_l xs hn xs.length 0 (by omega))
theorem same_l (a b : List Int) (hl : a.length = b.length) (hb : a.length ≤ 140737488355328) : ∀ (m i : Nat), i + m = a.length → A.haspref08_SameInts.l0 (m + 1) a b (i : Int) = some (decide (a.drop i = b.drop i))
  | 0, i, h => by
    unfold A.haspref08_SameInts.l0
    rw [if_neg (by omega), List.drop_eq_nil_of_le (by omega), List.drop_eq_nil_of_le (by omega)]; simp
  | m + 1, i, h => by
    unfold A.haspref08_SameInts.l0
    have hi : i < a.length := by omega
    have hi2 : i < b.length := by omega
    have r1 : rd a (i : Int) = a[i] := by simp [rd, hi]
    have r2 : rd b (i : Int) = b[i] := by simp [rd, hi2]
    rw [if_pos (by omega), if_pos (by omega), if_pos (by omega), r1, r2, List.drop_eq_getElem_cons hi, List.drop_eq_getElem_cons hi2]
    have hw : wrap64 ((i : Int) + 1) = ((i + 1 : Nat) : Int) := by simp only [wrap64]; omega
    by_cases e : a[i] = b[i]
    · rw [if_pos e, hw, same_l a b hl hb m (i + 1) (by omega), e]
      exact congrArg some (decide_eq_decide.2 ⟨fun h => by rw [h], fun h => (List.cons.inj h).2⟩)
    · rw [if_neg e]
      exact congrArg some (decide_eq_false fun h => e (List.cons.inj h).1).symm
theorem same_calls (A0 A1 : Option Addr) (n c n' c' : Nat) (xs ys : List Int) (w : World) (hl : xs.length = n) (hc : n ≤ c) (hl' : ys.length = n') (hc' : n' ≤ c') (hn : n ≤ 140737488355328) (hC : ki.C w A0 n xs) (hC' : ki.C w A1 n' ys) :
    Calls Try.prog 26 #[.slice A0 n c, .slice A1 n' c'] w fun e w' => e = .returned (.bool (decide (xs = ys))) ∧ Drawn0 w w' := by
  subst hl
  subst hl'
  refine A.haspref08_SameInts.calls (xs.length + 1) A0 c xs A1 c' ys _ w hC hc hC' hc' ?_
  unfold A.haspref08_SameInts.f
  by_cases e : xs.length = ys.length
  · rw [if_pos (by omega)]
    exact same_l xs ys e hn xs.length 0 (by omega)
  · rw [if_neg (by omega)]
    have : decide (xs = ys) = false := decide_eq_false (fun h => e (by rw [h]))
    rw [this]
end Go.Proofs.Ytgbjilcfgpbcgaa
