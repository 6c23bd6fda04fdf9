import Derived.Test.YtfnmploaklboiaaZkP6
/- Layer 22: the plain law, eighth part: the end of the document's changes. -/
namespace Go.Proofs.Ytfnmploaklboiaa
open Go.RowKit Go.Proofs.YtfnmploaklboiaaW.PrintWords V A
set_option linter.unusedSimpArgs false
set_option linter.unusedVariables false
/-- May an InNext stand in a plan that writes? -/
def wrB (x : S33) : Bool := !(x.f0 == 3 && !(x.f1 != 0 || cov x.f4 5))
theorem changes_l1 (t : ByteArray) (l : List S33) (hl : l.length < 140737488355328) (o : Nat) (ho : o < l.length) : ∀ (k n i : Nat), n < k → i + n = l.length →
    haspref22_changes.l1 k (o : Int) (i : Int) t l = some ((l.drop i).all wrB && (l[o].f5.toList == t.toList))
  | 0, n, i, hk, hi => by omega
  | k + 1, 0, i, hk, hi => by
    rw [haspref22_changes.l1, if_neg (by omega), if_pos (by omega), if_pos (by omega), List.drop_eq_nil_of_le (by omega), rd33_at l o ho]; rfl
  | k + 1, n + 1, i, hk, hi => by
    have h : i < l.length := by omega
    have ih := changes_l1 t l hl o ho k n (i + 1) (by omega) (by omega)
    rw [haspref22_changes.l1, if_pos (by omega), if_pos (by omega), rd33_at l i h, w64n i (by omega), List.drop_eq_getElem_cons h, List.all_cons, ih]
    by_cases h3 : l[i].f0 = 3
    · rw [if_pos h3]
      by_cases h1 : l[i].f1 = 0
      · rw [if_pos h1, refCov_eq, Option.bind_some]
        have e : wrB l[i] = cov l[i].f4 5 := by unfold wrB; rw [h3, h1]; simp
        rw [e]
        cases hc : cov l[i].f4 5 <;> rfl
      · have e : wrB l[i] = true := by unfold wrB; rw [bne_iff_ne.2 h1]; simp
        rw [if_neg h1, e]; rfl
    · have e : wrB l[i] = true := by unfold wrB; rw [beq_eq_false_iff_ne.2 h3]; rfl
      rw [if_neg h3, e]; rfl
/-- What a plan that writes is asked at its end. -/
def tailB (t : ByteArray) (l : List S33) (em : Int) : Bool := em == 0 || (match l.find? (openP 0) with
  | none => false
  | some z => l.all wrB && (z.f5.toList == t.toList))
theorem changes_j4 (t : ByteArray) (l : List S33) (hl : l.length < 140737488355328) (k : Nat) (hk : l.length < k) (em : Int) (b : Bool) :
    haspref22_changes.j4 (k + 1) em b t l = some (!b && tailB t l em) := by
  rw [haspref22_changes.j4]
  cases b with
  | true => rfl
  | false =>
    rw [if_neg (c := (false = true)) (by decide)]
    unfold tailB
    by_cases h : em = 0
    · rw [if_pos h, h]; rfl
    · rw [if_neg h, refOpened_eq 0 t l hl k hk, Option.bind_some]
      have he : (em == 0) = false := by simp [h]
      rw [he]
      rcases idx_find (openP 0) l 0 with ⟨a, b⟩ | ⟨j, hj, a, b⟩
      · rw [b, a, if_pos (by decide)]; rfl
      · rw [b, a, if_neg (by omega), Nat.zero_add, show haspref22_changes.l1 k (j : Int) 0 t l = _ from changes_l1 t l hl j hj k l.length 0 hk (by omega)]; rfl
end Go.Proofs.Ytfnmploaklboiaa
