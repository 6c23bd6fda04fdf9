/- The order and the groups make no difference; what is turned about goes by the other word: the plain law. -/
import Derived.Test.YtblbdepklmlcoaaDoorP0
import Derived.Test.YtblbdepklmlcoaaDoorVx5
namespace Go.Proofs.YtblbdepklmlcoaaDoor
open Go.RowKit Go.Proofs.YtblbdepklmlcoaaDoorW.PrintWords A
set_option linter.unusedVariables false
set_option linter.unusedSimpArgs false
theorem jE_z (a b be d : Int) (hd : d = 0 ∨ d = 1) (hb : be ≠ 0) : jE a 0 b be d = if plT a 0 = d then 0 else be := by
  unfold jE
  rw [wo_zero]
  simp [hb]
/-- Both (d = 0) or one of both (d = 1), case by case. -/
theorem j_nn (a b d : Int) : jT a 0 b 0 d = (if plT a 0 = d ∨ plT b 0 = d then d else if plT a 0 = 2 ∨ plT b 0 = 2 then 2 else plT a 0) ∧ jE a 0 b 0 d = 0 := by
  unfold jT jE
  simp [wo_zero]
theorem j_en (a ae b d : Int) (h : ae ≠ 0) : (jT a ae b 0 d = if plT b 0 = d then d else 0) ∧ (jE a ae b 0 d = if plT b 0 = d then 0 else ae) := by
  unfold jT jE
  simp [wo_zero', h]
theorem j_ne (a b be d : Int) (h : be ≠ 0) : (jT a 0 b be d = if plT a 0 = d then d else 0) ∧ (jE a 0 b be d = if plT a 0 = d then 0 else be) := by
  unfold jT jE
  simp [wo_zero, h]
theorem j_ee (a ae b be d : Int) (h : ae ≠ 0) (k : be ≠ 0) : jT a ae b be d = 0 ∧ jE a ae b be d = wo ae be := by
  unfold jT jE
  simp [h, k]
theorem pl_cases (t : Int) : plT t 0 = 0 ∨ plT t 0 = 1 ∨ plT t 0 = 2 := by unfold plT; simp; omega
theorem pl_of (p : Int) (h : p = 0 ∨ p = 1 ∨ p = 2) : plT p 0 = p := by rcases h with rfl | rfl | rfl <;> rfl
theorem not_0e (t : Int) : notT t 0 = if plT t 0 = 0 then 1 else if plT t 0 = 1 then 0 else 2 := by unfold notT plT; simp; split <;> (try split) <;> simp_all
theorem not_ee (t e : Int) (h : e ≠ 0) : notT t e = 0 := by unfold notT; rw [if_neg h]
theorem j_comm (a ae b be d : Int) (hd : d = 0 ∨ d = 1) : jT a ae b be d = jT b be a ae d ∧ jE a ae b be d = jE b be a ae d := by
  by_cases h : ae = 0
  · subst h
    by_cases k : be = 0
    · subst k
      rw [(j_nn a b d).1, (j_nn a b d).2, (j_nn b a d).1, (j_nn b a d).2]
      refine ⟨?_, rfl⟩
      rcases hd with rfl | rfl <;> rcases pl_cases a with e | e | e <;> rcases pl_cases b with e2 | e2 | e2 <;> simp [e, e2]
    · rw [(j_ne a b be d k).1, (j_ne a b be d k).2, (j_en b be a d k).1, (j_en b be a d k).2]; exact ⟨rfl, rfl⟩
  · by_cases k : be = 0
    · subst k
      rw [(j_en a ae b d h).1, (j_en a ae b d h).2, (j_ne b a ae d h).1, (j_ne b a ae d h).2]; exact ⟨rfl, rfl⟩
    · rw [(j_ee a ae b be d h k).1, (j_ee a ae b be d h k).2, (j_ee b be a ae d k h).1, (j_ee b be a ae d k h).2, wo_comm]; exact ⟨rfl, rfl⟩
/-- What comes of it has its one form. -/
theorem j_form (a ae b be d : Int) (hd : d = 0 ∨ d = 1) : (jE a ae b be d = 0 ∧ (jT a ae b be d = 0 ∨ jT a ae b be d = 1 ∨ jT a ae b be d = 2)) ∨ jE a ae b be d ≠ 0 := by
  by_cases h : jE a ae b be d = 0
  · refine Or.inl ⟨h, ?_⟩
    by_cases k : ae = 0
    · subst k
      by_cases l : be = 0
      · subst l
        rw [(j_nn a b d).1]
        rcases hd with rfl | rfl <;> rcases pl_cases a with e | e | e <;> rcases pl_cases b with e2 | e2 | e2 <;> simp [e, e2]
      · rw [(j_ne a b be d l).1]; rcases hd with rfl | rfl <;> split <;> simp
    · by_cases l : be = 0
      · subst l
        rw [(j_en a ae b d k).1]; rcases hd with rfl | rfl <;> split <;> simp
      · rw [(j_ee a ae b be d k l).1]; simp
  · exact Or.inr h
theorem j_assoc (a ae b be c ce d : Int) (hd : d = 0 ∨ d = 1) :
    jT a ae (jT b be c ce d) (jE b be c ce d) d = jT (jT a ae b be d) (jE a ae b be d) c ce d ∧ jE a ae (jT b be c ce d) (jE b be c ce d) d = jE (jT a ae b be d) (jE a ae b be d) c ce d := by
  have p0 : plT 0 0 = 0 := rfl
  have p1 : plT 1 0 = 1 := rfl
  have p2 : plT 2 0 = 2 := rfl
  rcases hd with rfl | rfl
  all_goals
    by_cases ha : ae = 0 <;> by_cases hb : be = 0 <;> by_cases hc : ce = 0
    all_goals try subst ha
    all_goals try subst hb
    all_goals try subst hc
    all_goals rcases pl_cases a with ea | ea | ea <;> rcases pl_cases b with eb | eb | eb <;> rcases pl_cases c with ec | ec | ec
    all_goals (try (simp [j_nn, j_en, j_ne, j_ee, ea, eb, ec, p0, p1, p2, wo_nz, wo_zero, wo_zero', wo_assoc, *]; done))
theorem pl_not (t : Int) : plT (notT t 0) 0 = if plT t 0 = 0 then 1 else if plT t 0 = 1 then 0 else 2 := by
  rw [not_0e]
  rcases pl_cases t with e | e | e <;> rw [e] <;> rfl
theorem j_not (a ae b be : Int) : notT (jT a ae b be 0) (jE a ae b be 0) = jT (notT a ae) ae (notT b be) be 1 ∧ jE a ae b be 0 = jE (notT a ae) ae (notT b be) be 1 := by
  have p0 : plT 0 0 = 0 := rfl
  have p1 : plT 1 0 = 1 := rfl
  have p2 : plT 2 0 = 2 := rfl
  have n0 : notT 0 0 = 1 := rfl
  have n1 : notT 1 0 = 0 := rfl
  have n2 : notT 2 0 = 2 := rfl
  by_cases ha : ae = 0 <;> by_cases hb : be = 0
  all_goals try subst ha
  all_goals try subst hb
  all_goals rcases pl_cases a with ea | ea | ea <;> rcases pl_cases b with eb | eb | eb
  all_goals (simp [j_nn, j_en, j_ne, j_ee, ea, eb, pl_not, p0, p1, p2, n0, n1, n2, not_0e, not_ee, wo_nz, *]; done)
theorem j_self (a ae : Int) : notT (notT a ae) ae = jT a ae a ae 0 ∧ ae = jE a ae a ae 0 := by
  by_cases ha : ae = 0
  · subst ha
    rcases pl_cases a with ea | ea | ea
    all_goals simp [j_nn, ea, not_0e, pl_not]
    all_goals decide
  · rw [not_ee _ _ ha, (j_ee a ae a ae 0 ha ha).1, (j_ee a ae a ae 0 ha ha).2, wo_self]; exact ⟨rfl, rfl⟩
theorem TurnsPure (a ae b be c ce : Int) : ∃ k, V.hasplaw04_LogicTurns.f k a ae b be c ce = some true := by
  refine ⟨2, ?_⟩
  unfold V.hasplaw04_LogicTurns.f
  rw [speaks_eq]
  unfold logic_And.f logic_Or.f
  have c0 := j_comm b be a ae 0 (Or.inl rfl)
  have c1 := j_comm b be a ae 1 (Or.inr rfl)
  simp only [Option.bind_some, if_true, c0.1, c0.2, c1.1, c1.2, beq_self_eq_true, Bool.not_true, Bool.or_self, Bool.false_eq_true, if_false]
  rw [V.hasplaw04_LogicTurns.j0, if_neg (by simp)]
  unfold logic_And.f logic_Or.f
  have a0 := j_assoc a ae b be c ce 0 (Or.inl rfl)
  have a1 := j_assoc a ae b be c ce 1 (Or.inr rfl)
  simp only [Option.bind_some, a0.1, a0.2, a1.1, a1.2, beq_self_eq_true, Bool.not_true, Bool.or_self, Bool.false_eq_true, if_false]
  rw [V.hasplaw04_LogicTurns.j1, if_neg (by simp)]
  unfold logic_And.f logic_Or.f logic_Not.f
  have n := j_not a ae b be
  have d := j_self a ae
  simp only [Option.bind_some, n.1, ← n.2, beq_self_eq_true, Bool.and_self, if_true, d.1, ← d.2]
end Go.Proofs.YtblbdepklmlcoaaDoor
