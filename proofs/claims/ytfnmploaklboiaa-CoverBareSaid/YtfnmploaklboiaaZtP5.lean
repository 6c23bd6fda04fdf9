import Derived.Test.YtfnmploaklboiaaZtP4
/- Layer 22: the plain law, sixth part: reads is the document's read on all instructions. -/
namespace Go.Proofs.Ytfnmploaklboiaa
open Go.RowKit Go.Proofs.YtfnmploaklboiaaW.PrintWords V A
set_option linter.unusedSimpArgs false
set_option linter.unusedVariables false
theorem fst_find (l : List S33) (c : Int) : l.foldl fstP (fun _ => none) c = l.find? (openP c) := fst_fold l (fun _ => none) c
theorem last_open (l : List S33) (c : Int) : l.foldl putO (fun _ => none) c = openF l c := openF_fold l (fun _ => none) c
theorem lck_eq (l : List S33) (x : S33) : lckB (modeF l) x = (cov (modeF l x.f5) 3 || (decide (x.f6 ≥ 0) && cov (modeF l x.f5) 1)) := by
  unfold lckB
  by_cases h : x.f6 < 0
  · rw [if_pos h, decide_eq_false (p := x.f6 ≥ 0) (by omega)]; simp
  · rw [if_neg h, decide_eq_true (p := x.f6 ≥ 0) (by omega)]
    cases h3 : cov (modeF l x.f5) 3 with
    | false => simp
    | true => rw [cov31 _ h3]; rfl
/-- What the document's read asks of an InNext. -/
def nxR (l : List S33) (x : S33) : Bool := match l.find? (openP x.f1) with
  | none => false
  | some z => decide (z.f6 < 0) || (cov x.f3 3 && cov x.f4 3)
theorem readR_split (l : List S33) (x : S33) (hx : x ∈ l) : readR l x = (goodB (modeF l) (l.foldl fstP (fun _ => none)) x && !(x.f0 == 3 && !nxR l x)) := by
  unfold readR goodB nxR
  rw [fst_find]
  by_cases h2 : x.f0 = 2
  · rw [if_pos h2, if_pos h2, h2, ← lck_eq]
    cases hf : l.find? (openP x.f1) with
    | none => exact absurd (by unfold openP; rw [h2]; simp) (List.find?_eq_none.1 hf x hx)
    | some z => simp [okO, bne]
  · rw [if_neg h2, if_neg h2]
    by_cases h3 : x.f0 = 3
    · rw [if_pos h3, h3]; simp; cases List.find? (openP x.f1) l <;> rfl
    · rw [if_neg h3]; simp [h3]
theorem reads_eq (l : List S33) : readsB (modeF l) l = l.all (readR l) := by
  have hA := rd_okF (modeF l) l (fun _ => none) (fun _ => none) (fun _ => .inl ⟨rfl, rfl⟩)
  have e1 : l.all (readR l) = (l.all (goodB (modeF l) (l.foldl fstP (fun _ => none))) && l.all fun x => !(x.f0 == 3 && !nxR l x)) := by
    rw [Bool.eq_iff_iff, Bool.and_eq_true, List.all_eq_true, List.all_eq_true, List.all_eq_true]
    constructor
    · intro h
      refine ⟨fun x hx => ?_, fun x hx => ?_⟩
      · have := h x hx; rw [readR_split l x hx, Bool.and_eq_true] at this; exact this.1
      · have := h x hx; rw [readR_split l x hx, Bool.and_eq_true] at this; exact this.2
    · rintro ⟨a, b⟩ x hx
      rw [readR_split l x hx, a x hx, b x hx]; rfl
  unfold readsB
  rw [e1, hA.1, okF_all]
  cases hg : l.all (goodB (modeF l) (l.foldl fstP (fun _ => none))) with
  | false => rfl
  | true =>
    have ag := hA.2 (by rw [okF_all]; exact hg)
    rw [Bool.true_and, Bool.true_and, List.not_any_eq_all_not]
    congr 1
    funext x
    have : nxB l x = nxR l x := by
      unfold nxB nxR
      rw [← last_open, ← fst_find]
      rcases ag x.f1 with ⟨a, b⟩ | ⟨z, y, a, b, c, d⟩
      · rw [a, b]
      · rw [a, b]; show (decide (z.f6 < 0) || _) = (decide (y.f6 < 0) || _); rw [d]
    rw [this]
end Go.Proofs.Ytfnmploaklboiaa
