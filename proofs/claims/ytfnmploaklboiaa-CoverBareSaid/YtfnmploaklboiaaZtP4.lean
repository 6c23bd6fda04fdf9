import Derived.Test.YtfnmploaklboiaaZtP3
/- Layer 22: the plain law, fifth part: the InOpens of a cursor, first and last. -/
namespace Go.Proofs.Ytfnmploaklboiaa
open Go.RowKit Go.Proofs.YtfnmploaklboiaaW.PrintWords V A
set_option linter.unusedSimpArgs false
set_option linter.unusedVariables false
theorem cov31 (m : Int) (h : cov m 3 = true) : cov m 1 = true := by
  have hm : m = 0 ∨ m = 1 ∨ m = 2 ∨ m = 3 ∨ m = 4 ∨ m = 5 ∨ m = 6 := by
    unfold cov isKnown at h
    simp only [Bool.and_eq_true, decide_eq_true_eq] at h
    omega
  rcases hm with rfl | rfl | rfl | rfl | rfl | rfl | rfl <;> revert h <;> decide +kernel
def sameB (z x : S33) : Bool := !(z.f5.toList != x.f5.toList || z.f6 != x.f6)
def lckB (md : ByteArray → Int) (x : S33) : Bool := cov (md x.f5) (if x.f6 < 0 then 3 else 1)
def AgreeO (o f : Int → Option S33) : Prop := ∀ c, (o c = none ∧ f c = none) ∨ ∃ z y, o c = some z ∧ f c = some y ∧ z.f5 = y.f5 ∧ z.f6 = y.f6
def fstP (f : Int → Option S33) (x : S33) : Int → Option S33 := fun c => if x.f0 = 2 ∧ x.f1 = c then (match f c with | none => some x | some z => some z) else f c
def okF (md : ByteArray → Int) : (Int → Option S33) → List S33 → Bool
  | _, [] => true
  | f, x :: t => (if x.f0 = 2 then okO (f x.f1) x && lckB md x else true) && okF md (fstP f x) t
theorem sameB_iff (z x : S33) : sameB z x = true ↔ z.f5 = x.f5 ∧ z.f6 = x.f6 := by
  unfold sameB
  rw [← bytes_iff]
  simp [bne]
theorem agree_step {o f : Int → Option S33} (h : AgreeO o f) (x : S33) (hok : x.f0 = 2 → okO (f x.f1) x = true) : AgreeO (putO o x) (fstP f x) := by
  intro c
  unfold putO fstP
  by_cases hc : x.f0 = 2 ∧ x.f1 = c
  · rw [if_pos hc, if_pos hc]
    have := hok hc.1
    rw [hc.2] at this
    refine .inr ?_
    cases hf : f c with
    | none => exact ⟨x, x, rfl, rfl, rfl, rfl⟩
    | some z =>
      rw [hf] at this
      have e := (sameB_iff z x).1 this
      exact ⟨x, z, rfl, rfl, e.1.symm, e.2.symm⟩
  · rw [if_neg hc, if_neg hc]; exact h c
theorem rd_okF (md : ByteArray → Int) : ∀ (l : List S33) (o f : Int → Option S33), AgreeO o f → rdB md o l = okF md f l ∧ (okF md f l = true → AgreeO (l.foldl putO o) (l.foldl fstP f))
  | [], o, f, h => ⟨rfl, fun _ => h⟩
  | x :: t, o, f, h => by
    have he : okO (o x.f1) x = okO (f x.f1) x := by
      rcases h x.f1 with ⟨a, b⟩ | ⟨z, y, a, b, c, d⟩
      · rw [a, b]
      · rw [a, b]; show (!(z.f5.toList != x.f5.toList || z.f6 != x.f6)) = (!(y.f5.toList != x.f5.toList || y.f6 != x.f6)); rw [c, d]
    rw [rdB, okF]
    by_cases h2 : x.f0 = 2
    · rw [if_pos h2, if_pos h2]
      unfold okR
      rw [he]
      cases hk : okO (f x.f1) x with
      | false => exact ⟨rfl, fun q => by simp at q⟩
      | true =>
        have ih := rd_okF md t _ _ (agree_step h x (fun _ => hk))
        refine ⟨by rw [ih.1]; rfl, fun q => ?_⟩
        rw [Bool.and_eq_true] at q
        exact ih.2 q.2
    · rw [if_neg h2, if_neg h2]
      have ih := rd_okF md t _ _ (agree_step h x (fun q => absurd q h2))
      exact ⟨by rw [ih.1], fun q => by rw [Bool.and_eq_true] at q; exact ih.2 q.2⟩
theorem openF_fold (l : List S33) : ∀ (o : Int → Option S33) (c : Int), l.foldl putO o c = l.foldl (fun o x => if x.f0 = 2 ∧ x.f1 = c then some x else o) (o c) := by
  induction l with
  | nil => intro o c; rfl
  | cons x t ih => intro o c; rw [List.foldl_cons, List.foldl_cons, ih]; rfl
theorem fst_fold (l : List S33) : ∀ (f : Int → Option S33) (c : Int), l.foldl fstP f c = (match f c with | none => l.find? (openP c) | some z => some z) := by
  induction l with
  | nil => intro f c; rw [List.foldl_nil]; cases f c <;> rfl
  | cons x t ih =>
    intro f c
    rw [List.foldl_cons, ih]
    unfold fstP
    by_cases hc : x.f0 = 2 ∧ x.f1 = c
    · rw [if_pos hc]
      have hp : openP c x = true := by unfold openP; rw [hc.1, hc.2]; simp
      cases hf : f c with
      | none => simp [List.find?_cons_of_pos hp]
      | some z => rfl
    · rw [if_neg hc]
      have hp : ¬ openP c x = true := by unfold openP; simp; intro a b; exact hc ⟨a, b⟩
      cases hf : f c with
      | none => simp [List.find?_cons_of_neg hp]
      | some z => rfl
/-- As okF, against the first InOpen of the whole list. -/
def goodB (md : ByteArray → Int) (F : Int → Option S33) (x : S33) : Bool := if x.f0 = 2 then okO (F x.f1) x && lckB md x else true
theorem okF_all (md : ByteArray → Int) : ∀ (l : List S33) (f : Int → Option S33), okF md f l = l.all (goodB md (l.foldl fstP f))
  | [], f => rfl
  | x :: t, f => by
    rw [okF, List.all_cons, List.foldl_cons, ← okF_all md t (fstP f x)]
    congr 1
    unfold goodB
    by_cases h2 : x.f0 = 2
    · rw [if_pos h2, if_pos h2]
      congr 1
      rw [fst_fold]
      unfold fstP
      rw [if_pos (c := (x.f0 = 2 ∧ x.f1 = x.f1)) ⟨h2, rfl⟩]
      cases f x.f1 with
      | some z => rfl
      | none => show true = sameB x x; exact ((sameB_iff x x).2 ⟨rfl, rfl⟩).symm
    · rw [if_neg h2, if_neg h2]
end Go.Proofs.Ytfnmploaklboiaa
