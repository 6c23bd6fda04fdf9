import Derived.Test.YtfnmploaklboiaaZkP0
/- Layer 22: the plain law, second part: the document's Mode, Opened. -/
namespace Go.Proofs.Ytfnmploaklboiaa
open Go.RowKit Go.Proofs.YtfnmploaklboiaaW.PrintWords V A
set_option linter.unusedSimpArgs false
set_option linter.unusedVariables false
theorem bytes_iff {a b : ByteArray} : a.toList = b.toList ↔ a = b := by
  refine ⟨fun h => ?_, fun h => by rw [h]⟩
  simpa [ByteArray.toList_eq, ByteArray.ext_iff, Array.toList_inj] using h
def modeS (s : ByteArray) (m : Int) (x : S33) : Int := if x.f0 = 1 ∧ x.f5 = s then joinT m x.f3 else m
theorem mode_loop (s t : ByteArray) (l : List S33) (hl : l.length < 140737488355328) : ∀ (k n i : Nat) (m : Int), n < k → i + n = l.length →
    haspref22_Mode.l0 k s m (i : Int) t l = some ((l.drop i).foldl (modeS s) m)
  | 0, n, i, m, hk, hi => by omega
  | k + 1, 0, i, m, hk, hi => by
    rw [haspref22_Mode.l0, if_neg (by omega), List.drop_eq_nil_of_le (by omega)]; rfl
  | k + 1, n + 1, i, m, hk, hi => by
    have h : i < l.length := by omega
    have ih := fun m' => mode_loop s t l hl k n (i + 1) m' (by omega) (by omega)
    rw [haspref22_Mode.l0, if_pos (by omega), if_pos (by omega), rd33_at l i h, w64n i (by omega), List.drop_eq_getElem_cons h, List.foldl_cons]
    by_cases h1 : l[i].f0 = 1
    · by_cases h2 : l[i].f5 = s
      · rw [if_pos h1, if_pos (bytes_iff.2 h2)]
        have e : modeS s m l[i] = joinT m l[i].f3 := by unfold modeS; rw [if_pos ⟨h1, h2⟩]
        rw [e]
        unfold haspref09_Join.f
        rw [Option.bind_some, ih]
      · rw [if_pos h1, if_neg (fun q => h2 (bytes_iff.1 q)), ih]
        have e : modeS s m l[i] = m := by unfold modeS; rw [if_neg (fun q => h2 q.2)]
        rw [e]
    · rw [if_neg h1, ih]
      have e : modeS s m l[i] = m := by unfold modeS; rw [if_neg (fun q => h1 q.1)]
      rw [e]
theorem refMode_eq (s t : ByteArray) (l : List S33) (hl : l.length < 140737488355328) (k : Nat) (hk : l.length < k) : haspref22_Mode.f k t l s = some (modeF l s) :=
  mode_loop s t l hl k l.length 0 0 hk (by omega)
/-- The place of a cursor's first InOpen. -/
def openP (c : Int) (x : S33) : Bool := x.f0 == 2 && x.f1 == c
theorem opened_loop (c : Int) (t : ByteArray) (l : List S33) (hl : l.length < 140737488355328) : ∀ (k n i : Nat), n < k → i + n = l.length →
    haspref22_Opened.l0 k c (i : Int) t l = some (idxA (openP c) (l.drop i) i)
  | 0, n, i, hk, hi => by omega
  | k + 1, 0, i, hk, hi => by
    rw [haspref22_Opened.l0, if_neg (by omega), List.drop_eq_nil_of_le (by omega)]; rfl
  | k + 1, n + 1, i, hk, hi => by
    have h : i < l.length := by omega
    have ih := opened_loop c t l hl k n (i + 1) (by omega) (by omega)
    rw [haspref22_Opened.l0, if_pos (by omega), if_pos (by omega), rd33_at l i h, w64n i (by omega), List.drop_eq_getElem_cons h, idxA]
    by_cases h1 : l[i].f0 = 2
    · by_cases h2 : l[i].f1 = c
      · rw [if_pos h1, if_pos h2, if_pos (show openP c l[i] = true by unfold openP; rw [h1, h2]; simp)]
      · rw [if_pos h1, if_neg h2, ih, if_neg (show ¬ openP c l[i] = true by unfold openP; simp [h2])]
    · rw [if_neg h1, ih, if_neg (show ¬ openP c l[i] = true by unfold openP; simp [h1])]
theorem refOpened_eq (c : Int) (t : ByteArray) (l : List S33) (hl : l.length < 140737488355328) (k : Nat) (hk : l.length < k) : haspref22_Opened.f k t l c = some (idxA (openP c) l 0) :=
  opened_loop c t l hl k l.length 0 hk (by omega)
end Go.Proofs.Ytfnmploaklboiaa
