/- The contracts of package logic and of the document's tables, in the form in which the printed texts take them. -/
import Derived.Test.YtblbdepklmlcoaaDoorLd
import Derived.Test.YtblbdepklmlcoaaDoorLe
import Derived.Test.YtblbdepklmlcoaaDoorLf
import Derived.Test.YtblbdepklmlcoaaDoorLg
import Derived.Test.YtblbdepklmlcoaaDoorLh
namespace Go.Proofs.YtblbdepklmlcoaaDoor
open Go.RowKit Go.Proofs.YtblbdepklmlcoaaDoorW.PrintWords A
set_option linter.unusedVariables false
set_option linter.unusedSimpArgs false
theorem isEmpty_bne (l : List UInt8) : l.isEmpty = !(l != []) := by cases l <;> rfl
def logic_And.f (a0 a1 b0 b1 : Int) : Option (Int × Int) := some (jT a0 a1 b0 b1 0, jE a0 a1 b0 b1 0)
theorem logic_And.calls (a0 a1 b0 b1 r1 r2 : Int) (w : World) (HLW : LaidW w) (h : logic_And.f a0 a1 b0 b1 = some (r1, r2)) :
    Calls Tryd.prog 8 #[.agg #[.int .i64 a0, .int .i64 a1], .agg #[.int .i64 b0, .int .i64 b1]] w fun e w' => e = .returned (.agg #[.int .i64 r1, .int .i64 r2]) ∧ Below w.heap.size w w' := by
  obtain ⟨rfl, rfl⟩ := Prod.mk.inj (Option.some.inj h)
  exact and_calls a0 a1 b0 b1 w HLW
def logic_Or.f (a0 a1 b0 b1 : Int) : Option (Int × Int) := some (jT a0 a1 b0 b1 1, jE a0 a1 b0 b1 1)
theorem logic_Or.calls (a0 a1 b0 b1 r1 r2 : Int) (w : World) (HLW : LaidW w) (h : logic_Or.f a0 a1 b0 b1 = some (r1, r2)) :
    Calls Tryd.prog 10 #[.agg #[.int .i64 a0, .int .i64 a1], .agg #[.int .i64 b0, .int .i64 b1]] w fun e w' => e = .returned (.agg #[.int .i64 r1, .int .i64 r2]) ∧ Below w.heap.size w w' := by
  obtain ⟨rfl, rfl⟩ := Prod.mk.inj (Option.some.inj h)
  exact or_calls a0 a1 b0 b1 w HLW
def logic_Not.f (a0 a1 : Int) : Option (Int × Int) := some (notT a0 a1, a1)
theorem logic_Not.calls (a0 a1 r1 r2 : Int) (w : World) (HLW : LaidW w) (h : logic_Not.f a0 a1 = some (r1, r2)) :
    Calls Tryd.prog 12 #[.agg #[.int .i64 a0, .int .i64 a1]] w fun e w' => e = .returned (.agg #[.int .i64 r1, .int .i64 r2]) ∧ Below w.heap.size w w' := by
  obtain ⟨rfl, rfl⟩ := Prod.mk.inj (Option.some.inj h)
  exact not_calls a0 a1 w HLW
def worstV (l : List S24) : Int := l.foldl (fun e x => wo e x.f1) 0
theorem sieve_at : ∀ (m : Nat) (l : List S24) (i g : Nat) (e : Int), l.length - i ≤ m → i ≤ l.length → l.length < 9223372036854775807 →
    sieveF.l0 (m + g + 1) l i e = some ((l.drop i).foldl (fun e x => wo e x.f1) e) := by
  intro m
  induction m with
  | zero =>
    intro l i g e hm hi hl
    have : i = l.length := by omega
    subst this
    rw [sieveF.l0, if_neg (by omega)]; simp
  | succ m ih =>
    intro l i g e hm hi hl
    rw [show m + 1 + g + 1 = (m + g + 1) + 1 by omega, sieveF.l0]
    by_cases h : i < l.length
    · rw [if_pos (by omega), if_pos (by omega), rd_at l i h, w64n i (by omega), List.drop_eq_getElem_cons h, List.foldl_cons, wo_eq, Option.bind_some]
      exact ih l (i + 1) g _ (by omega) (by omega) hl
    · have : i = l.length := by omega
      subst this
      rw [if_neg (by omega)]; simp
def sieveV (l : List S24) : Bool × Int := if l.any bad = true then (false, 0) else (worstV l == 0, worstV l)
def logic_Sieve.f (l : List S24) : Option (Bool × Int) := if l.length < 9223372036854775807 then some (sieveV l) else none
theorem logic_Sieve.calls (A0 : Option Addr) (c0 : Nat) (l0 : List S24) (r1 : Bool) (r2 : Int) (w : World) (hr0 : Kd.C k24 w A0 l0.length l0) (hc0 : l0.length ≤ c0) (h : logic_Sieve.f l0 = some (r1, r2)) :
    Calls Tryd.prog 16 #[.slice A0 l0.length c0] w fun e w' => e = .returned (.tuple #[.bool r1, .int .i64 r2]) ∧ Below w.heap.size w w' := by
  unfold logic_Sieve.f at h
  split at h
  · rename_i hl
    have h := Option.some.inj h
    unfold sieveV at h
    split at h
    · rename_i hg
      obtain ⟨rfl, rfl⟩ := Prod.mk.inj h
      exact sieve_bad A0 c0 l0 w hr0 hc0 hl hg
    · rename_i hg
      obtain ⟨rfl, rfl⟩ := Prod.mk.inj h
      have := sieve_at l0.length l0 0 0 0 (by omega) (by omega) hl
      exact sieve_good _ A0 c0 l0 _ w hr0 hc0 hl (by simpa using hg) this
  · cases h
def andTab : List Int := [0, 0, 0, 0, 0, 1, 2, 3, 0, 2, 2, 3, 0, 3, 3, 3]
def orTab : List Int := [0, 1, 2, 3, 1, 1, 1, 1, 2, 1, 2, 3, 3, 1, 3, 3]
def tabAt (T : List Int) (m n : Int) : Int := T.getD (m.toNat * 4 + n.toNat) 0
def toldV (m a ae b be : Int) : Int × Int := if m < 3 then (m, 0) else (0, if ae = 0 then be else if be = 0 then ae else if be < ae then be else ae)
theorem told_eq (m a ae b be : Int) : haspref04_told.f m a ae b be = some (toldV m a ae b be) := by
  unfold haspref04_told.f toldV haspref04_Worse.f
  split
  · rfl
  · repeat' split
    all_goals rfl
def haspref04_Not.f (a0 a1 : Int) : Option (Int × Int) := some (notTab.getD (mkV a0 a1).toNat 0, a1)
theorem haspref04_Not.calls (a0 a1 r1 r2 : Int) (w : World) (h : haspref04_Not.f a0 a1 = some (r1, r2)) :
    Calls Tryd.prog 13 #[.agg #[.int .i64 a0, .int .i64 a1]] w fun e w' => e = .returned (.agg #[.int .i64 r1, .int .i64 r2]) ∧ Below w.heap.size w w' := by
  obtain ⟨rfl, rfl⟩ := Prod.mk.inj (Option.some.inj h)
  have hm := mark_eq a0 a1
  rcases mk_cases a0 a1 with e | e | e | e
  all_goals rw [e] at hm ⊢
  · exact rnot_0 a0 a1 w hm
  · exact rnot_1 a0 a1 w hm
  · exact rnot_2 a0 a1 w hm
  · exact rnot_3 a0 a1 w hm
def haspref04_And.f (a0 a1 b0 b1 : Int) : Option (Int × Int) := some (toldV (tabAt andTab (mkV a0 a1) (mkV b0 b1)) a0 a1 b0 b1)
def haspref04_Or.f (a0 a1 b0 b1 : Int) : Option (Int × Int) := some (toldV (tabAt orTab (mkV a0 a1) (mkV b0 b1)) a0 a1 b0 b1)
theorem haspref04_And.calls (a0 a1 b0 b1 r1 r2 : Int) (w : World) (h : haspref04_And.f a0 a1 b0 b1 = some (r1, r2)) :
    Calls Tryd.prog 9 #[.agg #[.int .i64 a0, .int .i64 a1], .agg #[.int .i64 b0, .int .i64 b1]] w fun e w' => e = .returned (.agg #[.int .i64 r1, .int .i64 r2]) ∧ Below w.heap.size w w' := by
  have h := Option.some.inj h
  have hm := mark_eq a0 a1
  have hn := mark_eq b0 b1
  rcases mk_cases a0 a1 with e | e | e | e
  · rw [e] at hm h
    rcases mk_cases b0 b1 with e2 | e2 | e2 | e2
    · rw [e2] at hn h
      exact rand_00 a0 a1 b0 b1 r1 r2 w hm hn ((told_eq _ _ _ _ _).trans (congrArg some h))
    · rw [e2] at hn h
      exact rand_01 a0 a1 b0 b1 r1 r2 w hm hn ((told_eq _ _ _ _ _).trans (congrArg some h))
    · rw [e2] at hn h
      exact rand_02 a0 a1 b0 b1 r1 r2 w hm hn ((told_eq _ _ _ _ _).trans (congrArg some h))
    · rw [e2] at hn h
      exact rand_03 a0 a1 b0 b1 r1 r2 w hm hn ((told_eq _ _ _ _ _).trans (congrArg some h))
  · rw [e] at hm h
    rcases mk_cases b0 b1 with e2 | e2 | e2 | e2
    · rw [e2] at hn h
      exact rand_10 a0 a1 b0 b1 r1 r2 w hm hn ((told_eq _ _ _ _ _).trans (congrArg some h))
    · rw [e2] at hn h
      exact rand_11 a0 a1 b0 b1 r1 r2 w hm hn ((told_eq _ _ _ _ _).trans (congrArg some h))
    · rw [e2] at hn h
      exact rand_12 a0 a1 b0 b1 r1 r2 w hm hn ((told_eq _ _ _ _ _).trans (congrArg some h))
    · rw [e2] at hn h
      exact rand_13 a0 a1 b0 b1 r1 r2 w hm hn ((told_eq _ _ _ _ _).trans (congrArg some h))
  · rw [e] at hm h
    rcases mk_cases b0 b1 with e2 | e2 | e2 | e2
    · rw [e2] at hn h
      exact rand_20 a0 a1 b0 b1 r1 r2 w hm hn ((told_eq _ _ _ _ _).trans (congrArg some h))
    · rw [e2] at hn h
      exact rand_21 a0 a1 b0 b1 r1 r2 w hm hn ((told_eq _ _ _ _ _).trans (congrArg some h))
    · rw [e2] at hn h
      exact rand_22 a0 a1 b0 b1 r1 r2 w hm hn ((told_eq _ _ _ _ _).trans (congrArg some h))
    · rw [e2] at hn h
      exact rand_23 a0 a1 b0 b1 r1 r2 w hm hn ((told_eq _ _ _ _ _).trans (congrArg some h))
  · rw [e] at hm h
    rcases mk_cases b0 b1 with e2 | e2 | e2 | e2
    · rw [e2] at hn h
      exact rand_30 a0 a1 b0 b1 r1 r2 w hm hn ((told_eq _ _ _ _ _).trans (congrArg some h))
    · rw [e2] at hn h
      exact rand_31 a0 a1 b0 b1 r1 r2 w hm hn ((told_eq _ _ _ _ _).trans (congrArg some h))
    · rw [e2] at hn h
      exact rand_32 a0 a1 b0 b1 r1 r2 w hm hn ((told_eq _ _ _ _ _).trans (congrArg some h))
    · rw [e2] at hn h
      exact rand_33 a0 a1 b0 b1 r1 r2 w hm hn ((told_eq _ _ _ _ _).trans (congrArg some h))
theorem haspref04_Or.calls (a0 a1 b0 b1 r1 r2 : Int) (w : World) (h : haspref04_Or.f a0 a1 b0 b1 = some (r1, r2)) :
    Calls Tryd.prog 11 #[.agg #[.int .i64 a0, .int .i64 a1], .agg #[.int .i64 b0, .int .i64 b1]] w fun e w' => e = .returned (.agg #[.int .i64 r1, .int .i64 r2]) ∧ Below w.heap.size w w' := by
  have h := Option.some.inj h
  have hm := mark_eq a0 a1
  have hn := mark_eq b0 b1
  rcases mk_cases a0 a1 with e | e | e | e
  · rw [e] at hm h
    rcases mk_cases b0 b1 with e2 | e2 | e2 | e2
    · rw [e2] at hn h
      exact ror_00 a0 a1 b0 b1 r1 r2 w hm hn ((told_eq _ _ _ _ _).trans (congrArg some h))
    · rw [e2] at hn h
      exact ror_01 a0 a1 b0 b1 r1 r2 w hm hn ((told_eq _ _ _ _ _).trans (congrArg some h))
    · rw [e2] at hn h
      exact ror_02 a0 a1 b0 b1 r1 r2 w hm hn ((told_eq _ _ _ _ _).trans (congrArg some h))
    · rw [e2] at hn h
      exact ror_03 a0 a1 b0 b1 r1 r2 w hm hn ((told_eq _ _ _ _ _).trans (congrArg some h))
  · rw [e] at hm h
    rcases mk_cases b0 b1 with e2 | e2 | e2 | e2
    · rw [e2] at hn h
      exact ror_10 a0 a1 b0 b1 r1 r2 w hm hn ((told_eq _ _ _ _ _).trans (congrArg some h))
    · rw [e2] at hn h
      exact ror_11 a0 a1 b0 b1 r1 r2 w hm hn ((told_eq _ _ _ _ _).trans (congrArg some h))
    · rw [e2] at hn h
      exact ror_12 a0 a1 b0 b1 r1 r2 w hm hn ((told_eq _ _ _ _ _).trans (congrArg some h))
    · rw [e2] at hn h
      exact ror_13 a0 a1 b0 b1 r1 r2 w hm hn ((told_eq _ _ _ _ _).trans (congrArg some h))
  · rw [e] at hm h
    rcases mk_cases b0 b1 with e2 | e2 | e2 | e2
    · rw [e2] at hn h
      exact ror_20 a0 a1 b0 b1 r1 r2 w hm hn ((told_eq _ _ _ _ _).trans (congrArg some h))
    · rw [e2] at hn h
      exact ror_21 a0 a1 b0 b1 r1 r2 w hm hn ((told_eq _ _ _ _ _).trans (congrArg some h))
    · rw [e2] at hn h
      exact ror_22 a0 a1 b0 b1 r1 r2 w hm hn ((told_eq _ _ _ _ _).trans (congrArg some h))
    · rw [e2] at hn h
      exact ror_23 a0 a1 b0 b1 r1 r2 w hm hn ((told_eq _ _ _ _ _).trans (congrArg some h))
  · rw [e] at hm h
    rcases mk_cases b0 b1 with e2 | e2 | e2 | e2
    · rw [e2] at hn h
      exact ror_30 a0 a1 b0 b1 r1 r2 w hm hn ((told_eq _ _ _ _ _).trans (congrArg some h))
    · rw [e2] at hn h
      exact ror_31 a0 a1 b0 b1 r1 r2 w hm hn ((told_eq _ _ _ _ _).trans (congrArg some h))
    · rw [e2] at hn h
      exact ror_32 a0 a1 b0 b1 r1 r2 w hm hn ((told_eq _ _ _ _ _).trans (congrArg some h))
    · rw [e2] at hn h
      exact ror_33 a0 a1 b0 b1 r1 r2 w hm hn ((told_eq _ _ _ _ _).trans (congrArg some h))
end Go.Proofs.YtblbdepklmlcoaaDoor
