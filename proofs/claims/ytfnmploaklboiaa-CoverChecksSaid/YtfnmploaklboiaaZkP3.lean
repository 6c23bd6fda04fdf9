import Derived.Test.YtfnmploaklboiaaZkP2
import Derived.Test.YtfnmploaklboiaaZkVx4
/- Layer 22: the plain law, fourth part: what the document's read answers. -/
namespace Go.Proofs.Ytfnmploaklboiaa
open Go.RowKit Go.Proofs.YtfnmploaklboiaaW.PrintWords V A
set_option linter.unusedSimpArgs false
set_option linter.unusedVariables false
theorem idx_find {α : Type} (p : α → Bool) : ∀ (l : List α) (i : Nat), (l.find? p = none ∧ idxA p l i = -1) ∨ ∃ (j : Nat) (h : j < l.length), l.find? p = some l[j] ∧ idxA p l i = ((i + j : Nat) : Int)
  | [], i => .inl ⟨rfl, rfl⟩
  | x :: t, i => by
    by_cases h : p x = true
    · exact .inr ⟨0, Nat.succ_pos _, by rw [List.find?_cons_of_pos h]; rfl, by rw [idxA, if_pos h]; rfl⟩
    · rw [List.find?_cons_of_neg h, idxA, if_neg h]
      rcases idx_find p t (i + 1) with a | ⟨j, hj, a, b⟩
      · exact .inl a
      · exact .inr ⟨j + 1, Nat.succ_lt_succ hj, by rw [a]; rfl, by rw [b]; omega⟩
/-- What the document's read answers. -/
def readR (l : List S33) (x : S33) : Bool :=
  if x.f0 = 2 then (match l.find? (openP x.f1) with
    | none => false
    | some z => (z.f5.toList == x.f5.toList && z.f6 == x.f6) && (cov (modeF l x.f5) 3 || (decide (x.f6 ≥ 0) && cov (modeF l x.f5) 1)))
  else if x.f0 = 3 then (match l.find? (openP x.f1) with
    | none => false
    | some z => decide (z.f6 < 0) || (cov x.f3 3 && cov x.f4 3))
  else true
theorem read_j0 (k : Nat) (m : Int) (b : Bool) (x : S33) : haspref22_read.j0 (k + 1) m b x.f0 x.f1 x.f2 x.f3 x.f4 x.f5 x.f6 x.f7 x.f8 x.f9 x.f10 x.f11 x.f12 x.f13 = some (!b && (cov m 3 || (decide (x.f6 ≥ 0) && cov m 1))) := by
  rw [haspref22_read.j0]
  cases b with
  | true => rfl
  | false =>
    rw [if_neg (c := (false = true)) (by decide), refCov_eq, Option.bind_some, refCov_eq]
    cases cov m 3 with
    | true => rfl
    | false =>
      rw [if_neg (c := (false = true)) (by decide)]
      by_cases h : x.f6 ≥ 0
      · rw [if_pos h, decide_eq_true h]; rfl
      · rw [if_neg h, decide_eq_false h]; rfl
theorem read_eq (t : ByteArray) (l : List S33) (hl : l.length < 140737488355328) (x : S33) (hx : x ∈ l) (k : Nat) (hk : l.length < k) :
    haspref22_read.f k t l x.f0 x.f1 x.f2 x.f3 x.f4 x.f5 x.f6 x.f7 x.f8 x.f9 x.f10 x.f11 x.f12 x.f13 = some (readR l x) := by
  obtain ⟨k, rfl⟩ : ∃ j, k = j + 1 := ⟨k - 1, by omega⟩
  unfold haspref22_read.f readR
  by_cases h2 : x.f0 = 2
  · rw [if_pos h2, if_pos h2, refOpened_eq x.f1 t l hl _ hk, Option.bind_some]
    rcases idx_find (openP x.f1) l 0 with ⟨a, b⟩ | ⟨j, hj, a, b⟩
    · have := List.find?_eq_none.1 a x hx
      exact absurd (by unfold openP; rw [h2]; simp) this
    · rw [b, a, if_pos (by omega), if_pos (by omega), refMode_eq x.f5 t l hl _ hk, Option.bind_some, Nat.zero_add, rd33_at l j hj]
      by_cases h5 : l[j].f5.toList = x.f5.toList
      · rw [if_pos h5, read_j0]
        simp [bne, h5]
      · rw [if_neg h5, read_j0]
        simp [h5]
  · rw [if_neg h2, if_neg h2]
    by_cases h3 : x.f0 = 3
    · rw [if_pos h3, if_pos h3, refOpened_eq x.f1 t l hl _ hk, Option.bind_some]
      rcases idx_find (openP x.f1) l 0 with ⟨a, b⟩ | ⟨j, hj, a, b⟩
      · rw [b, a, if_pos (by decide)]
      · rw [b, a, if_neg (by omega), if_pos (by omega), if_pos (by omega), Nat.zero_add, rd33_at l j hj]
        by_cases h6 : l[j].f6 < 0
        · rw [if_pos h6]; simp [h6]
        · rw [if_neg h6, refCov_eq, Option.bind_some, refCov_eq]
          have e : decide (l[j].f6 < 0) = false := decide_eq_false h6
          show _ = some (decide (l[j].f6 < 0) || (cov x.f3 3 && cov x.f4 3))
          rw [e]
          cases cov x.f3 3 <;> rfl
    · rw [if_neg h3, if_neg h3]
end Go.Proofs.Ytfnmploaklboiaa
